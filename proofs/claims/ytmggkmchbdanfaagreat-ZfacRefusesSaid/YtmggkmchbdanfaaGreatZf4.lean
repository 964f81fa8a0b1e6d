/- What a proof needs: rules of walking, mirrors of functions and their plain laws. No condition. -/
import Derived.Test.YtmggkmchbdanfaaGreatZf3
import Derived.Below
import Derived.Lib.Join
import Derived.Shelf.Strings.Builder1
import Derived.Shelf.Strings.Builder2
import Derived.Shelf.Strings.OnBuilder
import Derived.Shelf.Strconv.Itoa0
import Derived.Shelf.Bits.Mul64
import Derived.Ground.Names2Prog
import Derived.Shelf.Slices.ReverseS
set_option linter.all false
namespace Go.Proofs
open Go.Shelf
def Tryz.lays156_ren:Go.Shelf.Ren:=⟨fun|156=>167|165=>229|166=>230|169=>231|240=>303|241=>304|276=>345|277=>346|n=>n,fun|31=>171|9=>9|3=>3|4=>4|0=>0|20=>20|72=>222|76=>226|70=>220|37=>218|75=>225|127=>270|164=>299|5=>5|80=>228|n=>n,fun|n=>n⟩
theorem Tryz.lays156:Go.Proofs.Lays.n156 Tryz.prog Tryz.lays156_ren:={
  mixed:=by kernel_rfl
  f156:=Tryz.func167.trans (congrArg some (by kernel_rfl))
  f165:=Tryz.func229.trans (congrArg some (by kernel_rfl))
  f166:=Tryz.func230.trans (congrArg some (by kernel_rfl))
  f169:=Tryz.func231.trans (congrArg some (by kernel_rfl))
  f240:=Tryz.func303.trans (congrArg some (by kernel_rfl))
  f241:=Tryz.func304.trans (congrArg some (by kernel_rfl))
  f276:=Tryz.func345.trans (congrArg some (by kernel_rfl))
  f277:=Tryz.func346.trans (congrArg some (by kernel_rfl))
  t0:=Tryz.underlying0
  a0:=Tryz.isAgg0
  z0:=Tryz.sizeOf0
  v0:=Tryz.zeroValue0
  t3:=Tryz.underlying3
  a3:=Tryz.isAgg3
  z3:=Tryz.sizeOf3
  v3:=Tryz.zeroValue3
  t4:=Tryz.underlying4
  a4:=Tryz.isAgg4
  z4:=Tryz.sizeOf4
  v4:=Tryz.zeroValue4
  t9:=Tryz.underlying9
  a9:=Tryz.isAgg9
  z9:=Tryz.sizeOf9
  v9:=Tryz.zeroValue9
  t20:=Tryz.underlying20
  a20:=Tryz.isAgg20
  z20:=Tryz.sizeOf20
  v20:=Tryz.zeroValue20
  t31:=Tryz.underlying171
  a31:=Tryz.isAgg171
  z31:=Tryz.sizeOf171
  v31:=Tryz.zeroValue171
  t37:=Tryz.underlying218
  a37:=Tryz.isAgg218
  z37:=Tryz.sizeOf218
  v37:=Tryz.zeroValue218
  t70:=Tryz.underlying220
  a70:=Tryz.isAgg220
  z70:=Tryz.sizeOf220
  v70:=Tryz.zeroValue220
  t72:=Tryz.underlying222
  a72:=Tryz.isAgg222
  z72:=Tryz.sizeOf222
  v72:=Tryz.zeroValue222
  t75:=Tryz.underlying225
  a75:=Tryz.isAgg225
  z75:=Tryz.sizeOf225
  v75:=Tryz.zeroValue225
  t76:=Tryz.underlying226
  a76:=Tryz.isAgg226
  z76:=Tryz.sizeOf226
  v76:=Tryz.zeroValue226
  t127:=Tryz.underlying270
  a127:=Tryz.isAgg270
  z127:=Tryz.sizeOf270
  v127:=Tryz.zeroValue270
  t164:=Tryz.underlying299
  a164:=Tryz.isAgg299
  z164:=Tryz.sizeOf299
  v164:=Tryz.zeroValue299}
theorem Tryz.Builder_Extra_156:Builder.Extra Tryz.prog Tryz.lays156_ren:={
  sizeBuilder:=by kernel_rfl
  liesBuilder:=by kernel_rfl
  t5:=Tryz.underlying5
  a5:=Tryz.isAgg5
  z5:=Tryz.sizeOf5
  v5:=Tryz.zeroValue5
  infoByte:=by kernel_rfl
  cellsByte:=by kernel_rfl
  sizeByte:=by kernel_rfl
  neB5:=by decide}
open Go.RowKit in
theorem Tryz.strings_Join_none(a:Option Addr)(c:Nat)(sep:ByteArray)(w:World):
    Calls Tryz.prog 167 #[.slice a 0 c,.string sep] w fun e w'=>e=.returned (.string ⟨#[]⟩)∧w'=w:=Any.strings_Join_none Tryz.lays156 Tryz.Builder_Extra_156 a c sep w
open Go.RowKit in
theorem Tryz.strings_Join(bk o c:Nat)(xs:List ByteArray)(sep:ByteArray)(w:World)(hcells:∀(j:Nat) x,xs[j]? =some x→w.cell? ⟨bk,o+j,none⟩=some (.string x))(hbk:bk<w.heap.size)(hN:xs.length≤140737488355328)(hcap:xs.length≤c)(hlen:(Lib.join (xs.map (·.data.toList)) sep.data.toList).length≤140737488355328):
    Calls Tryz.prog 167 #[.slice (some ⟨bk,o,none⟩) xs.length c,.string sep] w fun e w'=>e=.returned (.string ⟨(Lib.join (xs.map (·.data.toList)) sep.data.toList).toArray⟩)∧Below w.heap.size w w':=Any.strings_Join Tryz.lays156 Tryz.Builder_Extra_156 bk o c xs sep w hcells hbk hN hcap hlen
end Go.Proofs
namespace Go.Proofs.YtmggkmchbdanfaaGreat
open Bool renaming true->I,false->wL
open Go renaming Value->wN,World->wP,TypeId->wT,Program->jP,undef->uL,FuncId->Z3,Code->Wn,Act->V6,Func->QR,results->Jp,Addr->JP,Calls->Ul
open Go.Proofs.YtmggkmchbdanfaaGreat renaming Zr->M,bd->G,za->Y,nm->C,cC->B,ze->Q,zf->E
open List renaming length->X,length->i7
open Nat renaming beq->F
open Option renaming some->Z,none->wF
open _root_ renaming rfl->O,List->N,Int->J,Nat->K,Option->V,List->xS,Int->wl,Nat->wr,Option->ww,trivial->wR,absurd->wS,Bool->v6,congrArg->kW,Array->ul,if_true->uP,if_false->uS,Unit->Z2,True->Z5,ByteArray->Xs,or_false->gC
open And renaming intro->xfy
open Bool renaming false_eq_true->xar
open Ending renaming returned->xeI
open Int renaming eq_ofNat_of_zero_le->xaz,fdiv->xeP,natCast_nonneg->xdg,tdiv->xcw,tmod->xbE,toNat_natCast->xaN
open Lib renaming bitLen->xeX
open List renaming cons_append->xbL,drop->xdI,drop_eq_nil_of_le->xbW,eq_nil_of_length_eq_zero->xbe,getD_cons_succ->xdo,getD_eq_getElem?_getD->xaa,getElem?_eq_getElem->xak,getElem?_map->xcu,getElem_mem->xcd,length->xaH,length_append->xaq,length_cons->xaw,length_drop->xcf,length_eq_zero_iff->xbv,length_map->xaZ,length_nil->xbR,length_replicate->xaT,length_set->xbt,length_take->xas,map_congr_left->xci,map_cons->xbU,map_map->xcP,mem_append->So,mem_cons->xag,mem_cons_of_mem->UV,mem_cons_self->FS,mem_of_mem_drop->xfH,mem_of_mem_take->xel,mem_or_eq_of_mem_set->xcS,mem_singleton->xad,not_mem_nil->H1,replicate->Nm,replicate_succ->xdQ,set_append_right->xfx,set_cons_succ->xfd,take->xdu,take_append_drop->xbA,take_length->xcJ,take_of_length_le->xaW,take_succ_cons->xeu
open List.Perm renaming swap->xds
open List.cons renaming injEq->xeG
open Nat renaming add_assoc->xcM,add_mul_div_left->xcA,add_mul_mod_self_left->xcr,add_sub_cancel->xec,add_zero->xbO,blt->xcX,div_add_mod->xbp,div_div_eq_div_mul->xaG,div_eq_of_lt->xbi,div_lt_iff_lt_mul->xaS,div_one->xdU,eq_zero_of_not_pos->xfk,eq_zero_or_pos->xbV,le_max_left->xdV,le_max_right->xdG,le_refl->IR,le_trans->xae,lt_of_lt_of_le->xaj,lt_of_not_le->xdk,lt_succ_self->xdj,min_eq_left->xcF,mod_add_div->xeo,mod_eq_of_lt->xam,mod_lt->xaM,mul_add->xcj,mul_assoc->xbl,mul_comm->xaL,mul_le_mul->xbM,mul_le_mul_left->xaA,mul_left_comm->xfp,mul_lt_mul''->xdF,mul_lt_mul_of_pos_right->xbT,mul_zero->xcQ,not_lt_zero->xbC,pow_add->xbu,pow_le_pow_right->xau,pow_mul->xbX,pow_pos->xaV,pow_succ->xbq,pow_succ'->xdM,strongRecOn->xdc,sub_le->xeY,zero_add->xaJ,zero_le->xac,zero_lt_one->xen
open Option.some renaming inj->xdf
open Prod.mk renaming injEq->xdd
open Sum renaming elim->xfe
open UInt8 renaming ofNat->xeU,toNat->xfn
section
def zeV{ι:Type _}{R:Type}(S:ι->Tg×Sg)(f:ι->V R)(a:∀i j,S i=S j->f i=f j):∃K:Tg->Sg->V R,(∀i,K (S i).1 (S i).2=f i)/\∀t σ r,K t σ=Z r->∃i,S i=(t,σ)/\f i=Z r:=by
 classical
 refine⟨λt σ=>if h:∃i,S i=(t,σ)then f h.choose else wF,λi=> ?_,λt σ r h=> ?_⟩
 ·have h:∃j,S j=((S i).1,(S i).2):=⟨i,O⟩;grind
 ·by_cases h1:∃i,S i=(t,σ)
  ·grind
  ·simp_all
def chS(E:wT){X Y:Type}(b:X->wN->MF)(c:Y->wN->MF)(g:N J->X->V (N J×(X⊕Y)))(n a:J)(x:X)(xs:N J):Sg:=
 ⟨2,[(4,0,.ow 1),(0,0,.yd 0),(1,0,.q .i n),(2,0,.q .i a)],[(1,.own .i E xs),(0,.hid .i E X Y b c g x)]⟩
section
variable{P:jP}{fr:Fr}{σ:Sg}{env:y4}{w:wP}{E:wT}{X Y:Type}{mX:X->wN->MF}{mY:Y->wN->MF}{g:xS wl->X->ww (xS wl×(X⊕Y))}{n all:wl}{x:X}{y:Y}{xs:xS wl}{o p:wr}
theorem zk8(c:get ⟨0,[],[]⟩ σ 4 0=Z (.ow p))(h0:get ⟨0,[],[]⟩ σ 0 0=Z (.yd o))(h1:get ⟨0,[],[]⟩ σ 1 0=Z (.q .i n))(d:get ⟨0,[],[]⟩ σ 2 0=Z (.q .i all))(f:xy σ.ob o=Z (.hid .i E X Y mX mY g x))(hp:xy σ.ob p=Z (.own .i E xs))
 (j:F o p=wL) (h:Z1 P fr ⟨0,[],[]⟩ σ env w):Z1 P fr ⟨0,[],[]⟩ (chS E mX mY g n all x xs) env w:=by
 have⟨t,vs,hc⟩:=h;have l:=gN j f hp hc;refine⟨⟨λe a=> ?_,λ_ a=>wS a H1,λe a q m=> ?_,λ_ a=>wS a H1⟩,λk=>if k=0 then vs o else vs p,?_⟩
 ·simp only[chS,xag,H1,gC]at a⊢;grind
 ·simp only[chS,xag,H1,gC]at a⊢;obtain rfl|rfl|rfl|rfl:=a<;>cases m<;>simp
 ·have r:St fr.we fr.Se ([Ki vs (o,.hid .i E X Y mX mY g x),Ki vs (p,.own .i E xs)]++(MS vs (yx (yx σ.ob o) p)++fr.F)) (GS P vs env fr ⟨0,[],[]⟩ σ) w:=l;have s:St fr.we fr.Se ([Ki vs (p,.own .i E xs),Ki vs (o,.hid .i E X Y mX mY g x)]++fr.F) (GS P vs env fr ⟨0,[],[]⟩ σ) w:=(St.dropM r).perm<|xds ..;refine s.weak λS w b=>⟨?_,?_,?_,?_,?_⟩
  ·exact X6 b 4 0 _ c
  ·exact X6 b 0 0 _ h0
  ·exact X6 b 1 0 _ h1
  ·exact X6 b 2 0 _ d
  ·exact zE.right<|zE.right b
def zng{t:Ty}{g:N t.D->X->V (N t.D×(X⊕Y))}(a:xy σ.ob o=Z (.hid t E X Y mX mY g x))(h:Z1 P fr ⟨0,[],[]⟩ σ env w):∃b,St fr.we fr.Se (mX x b::fr.F) fr.G w:=by
 have⟨i,vs,c⟩:=h;have⟨_,d⟩:=St.unpr<|St.grp.1<|jG a c;have e:=d;exact⟨_,(St.dropM e).weak λS w f=>zE.right<|zE.right f⟩
def znW(a:xy σ.ob o=Z (.hiy Y mY y))(h:Z1 P fr ⟨0,[],[]⟩ σ env w):∃b,St fr.we fr.Se (mY y b::fr.F) fr.G w:=by
 have⟨i,vs,c⟩:=h;have d:=jG a c;have e:St fr.we fr.Se ([mY y<|(xM<|vs o).headD uL]++(MS vs (yx σ.ob o)++fr.F)) (GS P vs env fr ⟨0,[],[]⟩ σ) w:=d;exact⟨_,(St.dropM e).weak λS w f=>zE.right<|zE.right f⟩
end
end
section
section
variable{P:jP}
def zas{U:Type}{f:Z3}{args:ul wN}{Γ:N FF}{b:U->wN}{a:U->N FF}{ok:U->Prop}(h:Fn P f args Γ b a ok):FnG P f args [] Γ b (λ_=>[]) a ok:=by
 rintro we Se F G w ⟨h1,d,n,S,o,g,p,j,l⟩;refine(h w S (d.at h1 g)<|zE.left l).mono ?_;rintro e w' ⟨u,e1,q,c,r⟩;exact⟨u,e1,q,h1.trans c,d,n,S,o,λk s=>g k<|xae c.size s,p,yT.keep c.to (λm t i hi=>c.block i (yT.lt j m t i hi) wR) j,zE.append r<|zE.keep c.to<|zE.right l⟩
def FnG.to{U V:Type}{f:Z3}{args:ul wN}{ms:N MF}{Γ:N FF}{i:U->wN}{own:U->N MF}{b:U->N FF}{ok:U->Prop}{c:V->wN}{d:V->N MF}{a:V->N FF}{j:V->Prop}
 (h:FnG P f args ms Γ i own b ok) (g:U->V) (h1:∀u,i u=c (g u)) (m:∀u,own u=d (g u)) (n:∀u,ok u->j (g u)) (o:∀u,ok u->∀S w,zE S (b u) w->zE S (a<|g u) w):FnG P f args ms Γ c d a j:=by
 intro we Se F G w p;refine(h we Se F G w p).mono ?_;rintro e w' ⟨u,e1,k,q⟩;exact⟨g u,by rw[e1,h1],n u k,by rw[<-m];exact q.weak λS w l=>zE.append (o u k S w<|zE.left l)<|zE.right l⟩
def zmq{f:Z3}{s t:Ty}{M:s.D->V t.D}(a:BS P f=I)(h:∀x r v,M x=Z r->Fn P f [v].toArray [fV s.rep x v] (λu:wN=>u) (λu=>[fV t.rep r u]) (λ_=>Z5)):xh P ⟨f,[.d s],[.d t],λx=>M x.1,0⟩:=by
 refine⟨a,λx r b vs hl=> ?_⟩
 match vs,hl with
 |[v],_=>exact(zas<|h x.1 r v b).to (λu=>[u]) (λ_=>O) (λ_=>O) (λ_ _=>O) λu _ S w c=>c
def zmf{f:Z3}{M:K->V J}(c:BS P f=I)(h:∀x r,x<18446744073709551616->M x=Z r->Fn P f [.int .u64 (x:J)].toArray [] (λ_:Z2=> .int .i64 r) (λ_=>[]) (λ_=>K8 r)):xh P ⟨f,[.d .u],[.d .i],λx=>M x.1,0⟩:=by
 refine⟨c,λx r e vs hl=> ?_⟩
 match vs,hl with
 |[v],_=>
  intro we Se F G w hc;have⟨S0,_,a⟩:=hc.ex;have⟨hv,g⟩:=zeD (show(fV eU x.1 v).p S0 w from a.1);have:=zas<|h x.1 r g e;rw[<-hv]at this;have j:FnG P f [v].toArray [] [] X3 (λus=>Yj [RM.d .i] r us) (λus=>Yk [RM.d .i] r us) (λus=>X us=1):=this.to (λ_=>[.int .i64 r]) (λ_=>O) (λ_=>O) (λ_ _=>O) λu k S w b=>⟨wB k,wR⟩;exact j we Se F G w<|hc.weak λS w b=>b.2
end
end
section
section
variable{P:jP}
def J4.of_below{w w':wP}(h:RowKit.Below w.heap.size w w'):J4 w w':=⟨h.os,h.os,h.output,h.size,λk a _=>h.block k a⟩
def zg9(xs:N (N K))(sep:N K):V (N K):=ck (X xs<=140737488355328)<|ck (X (sep.intercalate xs)<=140737488355328)<|some (sep.intercalate xs)
def Oc{S:K->Prop}{w:wP}:∀{xs:N (N K)}{cs:N wN},yP eTx S xs cs w->∃bs:N Xs,cs=bs.map Value.string/\bs.map xa=xs
 |[],cs,h=>⟨[],h,O⟩
 |x::xs,cs,⟨c,r,h1,a,d⟩=>by
  have⟨bs,e1,e⟩:=Oc d;have⟨b,f,g,_⟩:=a;exact⟨b::bs,by rw[h1,f,e1];rfl,by rw[xbU,g,e]⟩
def H8{α β:Type}(f:α->β)(s:N α):∀X:N (N α),(s.intercalate X).map f=(s.map f).intercalate (X.map<|List.map f)
 |[]=>by simp
 |[x]=>by simp
 |x::y::r=>by
  have a:=H8 f s (y::r);simp_all
def zaW(bs:N Xs)(s:Xs):xa ⟨(Lib.join (bs.map (·.data.toList)) s.data.toList).toArray⟩=(xa s).intercalate (bs.map xa):=by
 show((Lib.join (bs.map (·.data.toList)) s.data.toList).toArray.toList).map xfn=_;unfold Lib.join;rw[H8,xcP];rfl
def zgN{f:Z3}(C:BS P f=I)
 (h0:∀(a:V JP) (c:K) (sep:Xs) (w:wP),Ul P f #[.slice a 0 c,.string sep] w λe w'=>e=.returned (.string ⟨#[]⟩)/\w'=w)
 (h1:∀(bk o c:K) (xs:N Xs) (sep:Xs) (w:wP),(∀(j:K) x,xs[j]? =Z x->w.cell? ⟨bk,o+j,wF⟩=Z (.string x))->bk<w.heap.size->X xs<=140737488355328->X xs<=c->X (Lib.join (xs.map (·.data.toList)) sep.data.toList)<=140737488355328->
  Ul P f #[.slice (Z ⟨bk,o,wF⟩) (X xs) c,.string sep] w λe w'=>e=.returned (.string ⟨(Lib.join (xs.map (·.data.toList)) sep.data.toList).toArray⟩)/\RowKit.Below w.heap.size w w'):
 xh P ⟨f,[.d (.l .tx),.d .tx],[.d .tx],λx=>zg9 x.1 x.2.1,0⟩:=by
 refine⟨C,λx r g vs hl=> ?_⟩
 match vs,hl with
 |[v,u],_=>
  have g:zg9 x.1 x.2.1=Z r:=g;unfold zg9 at g;have⟨k1,g⟩:=Zm g;have⟨k2,g⟩:=Zm g;have k:r=List.intercalate (α:=K) x.2.1 x.1:=(xdf g).symm;have p:Fn P f #[v,u] [fV (eS eTx) x.1 v,fV eTx x.2.1 u] (λ_:Z2=> .string ⟨(r.map xeU).toArray⟩) (λ_=>[fV eTx r (.string ⟨(r.map xeU).toArray⟩)]) (λ_=>Z5):=by
   intro w Se T q;have⟨hv,D,_⟩:=q;obtain⟨m,rfl,E,U⟩:=CW D;obtain⟨F,cap,rfl,G,hn,h⟩:=xC.1 hv;have i:∀(t:N UInt8) (w':wP),J4 w w'->t.map xfn=r->FnQ Se w (λ_:Z2=> .string ⟨(r.map xeU).toArray⟩) (λ_=>[fV eTx r (.string ⟨(r.map xeU).toArray⟩)]) (λ_=>Z5) (.returned (.string ⟨t.toArray⟩)) w':=by
    intro t w' H s;have n:t=r.map xeU:=by
     rw[<-s,xcP];conv=>lhs;rw[<-List.map_id t]
     exact xci λb _=>by simp
    rw[<-n];refine⟨(),O,wR,H,RQ ?_ ?_,wR⟩
    ·unfold xa;simpa using s
    ·have Y:=wG ⟨t.toArray⟩;have h7:X (xa ⟨t.toArray⟩)=X r:=by unfold xa;rw[<-s]
     have h8:X r<=140737488355328:=by rw[k];exact k2
     lia
   obtain h|⟨b,o,cs,rfl,hs,hd,J⟩:=h
   ·have h:x.1=([]:N (N K)):=h;have hi:r=[]:=by rw[k,h];rfl
    rw[h];refine(h0 F cap m w).mono ?_;rintro e w' ⟨rfl,rfl⟩;exact i [] w' (yv.refl _ _) hi.symm
   ·have⟨bs,L,n⟩:=Oc J;have hc:X bs=xaH (α:=N K) x.1:=by rw[<-n,xaZ]
    have z:=zaW bs m;rw[E,n]at z;have A:(Lib.join (bs.map (·.data.toList)) m.data.toList).map xfn=r:=by
     rw[k,<-z];unfold xa;simp
    have:=h1 b o cap bs m w (λj y M=>hd.2 j (.string y)<|by rw[L,xcu,M];rfl) hd.1 (by rw[hc];exact k1) (by rw[hc];exact G) (by
     have B:=kW xaH A;rw[xaZ]at B;rw[B,k];exact k2)
    rw[hc]at this;refine this.mono ?_;rintro e w' ⟨rfl,Q⟩;exact i _ w' (J4.of_below Q) A
  exact(zas p).to (λ_=>[.string ⟨(r.map xeU).toArray⟩]) (λ_=>O) (λ_=>O) (λ_ _=>O) λ_ _ S w R=>R
end
end
section
set_option maxRecDepth 100000
variable{cs:xS X2}{fu:wr}{s:X2}
def tt:N (K×TI):=[(2,⟨.i,.int .i64,8⟩),(3,⟨.i,.int .i64,8⟩),(4,⟨.b,.bool,1⟩),(5,⟨.ch,.int .u8,1⟩),(6,⟨.ch,.int .u8,1⟩),(7,⟨(.p .i (.p .i (.p .b .ch))),.st 4,24⟩),(8,⟨(.p .i (.p .i (.p .b .ch))),.st 4,24⟩),(9,⟨.tx,.str,16⟩),(10,⟨.tx,.str,16⟩),(11,⟨.tx,.str,16⟩),(12,⟨.u,.int .u64,8⟩),(13,⟨(.p .tx .u),.st 2,24⟩),(14,⟨(.p .tx .u),.st 2,24⟩),(20,⟨.er,.ie,16⟩),(22,⟨(.l (.p .b (.l .u))),.sl 30,24⟩),(23,⟨(.l .i),.sl 3,24⟩),(26,⟨.i,.int .i64,8⟩),(28,⟨(.l .u),.sl 54,24⟩),(29,⟨(.p .b (.l .u)),.st 2,32⟩),(30,⟨(.p .b (.l .u)),.st 2,32⟩),(31,⟨(.l (.p (.l (.p .b (.l .u))) .i)),.sl 42,24⟩),(41,⟨(.p (.l (.p .b (.l .u))) .i),.st 2,32⟩),(42,⟨(.p (.l (.p .b (.l .u))) .i),.st 2,32⟩),(53,⟨.u,.int .u64,8⟩),(54,⟨.u,.int .u64,8⟩),(55,⟨(.l (.l (.p .b (.l .u)))),.sl 22,24⟩),(59,⟨(.l (.l (.p (.p .b (.l .u)) (.l .u)))),.sl 60,24⟩),(60,⟨(.l (.p (.p .b (.l .u)) (.l .u))),.sl 78,24⟩),(61,⟨(.po (.w1 (.p (.l (.p .b (.l .u))) (.l (.p (.p .b (.l .u)) (.l .u)))))),.pt 65,8⟩),(62,⟨(.p (.l (.p .b (.l .u))) (.l (.p (.p .b (.l .u)) (.l .u)))),.st 2,48⟩),(63,⟨(.p (.l (.p .b (.l .u))) (.l (.p (.p .b (.l .u)) (.l .u)))),.st 2,48⟩),(64,⟨(.w1 (.p (.l (.p .b (.l .u))) (.l (.p (.p .b (.l .u)) (.l .u))))),.st 0,48⟩),(65,⟨(.w1 (.p (.l (.p .b (.l .u))) (.l (.p (.p .b (.l .u)) (.l .u))))),.st 0,48⟩),(66,⟨(.l (.po (.w1 (.p (.l (.p .b (.l .u))) (.l (.p (.p .b (.l .u)) (.l .u))))))),.sl 61,24⟩),(77,⟨(.p (.p .b (.l .u)) (.l .u)),.st 2,56⟩),(78,⟨(.p (.p .b (.l .u)) (.l .u)),.st 2,56⟩),(111,⟨(.po .i),.pt 26,8⟩),(112,⟨(.w1 (.po (.w1 (.p (.l (.p .b (.l .u))) (.l (.p (.p .b (.l .u)) (.l .u))))))),.st 0,8⟩),(113,⟨(.w1 (.po (.w1 (.p (.l (.p .b (.l .u))) (.l (.p (.p .b (.l .u)) (.l .u))))))),.st 0,8⟩),(138,⟨(.l (.l .i)),.sl 23,24⟩),(158,⟨(.w1 .i),.st 0,8⟩),(159,⟨(.w1 .i),.st 0,8⟩),(168,⟨(.po (.p (.l (.p .b (.l .u))) (.p (.l (.p .b (.l .u))) (.p (.p .b (.l .u)) (.p (.p .b (.l .u)) .b))))),.pt 170,8⟩),(169,⟨(.p (.l (.p .b (.l .u))) (.p (.l (.p .b (.l .u))) (.p (.p .b (.l .u)) (.p (.p .b (.l .u)) .b)))),.st 5,120⟩),(170,⟨(.p (.l (.p .b (.l .u))) (.p (.l (.p .b (.l .u))) (.p (.p .b (.l .u)) (.p (.p .b (.l .u)) .b)))),.st 5,120⟩),(171,⟨(.l .tx),.sl 9,24⟩),(218,⟨(.l .ch),.sl 5,24⟩),(224,⟨.er,.ie,16⟩),(225,⟨.er,.ie,16⟩),(251,⟨(.a 4 (.l (.p .b (.l .u)))),.ar 4 22,96⟩),(252,⟨(.a 4 (.l (.p .b (.l .u)))),.ar 4 22,96⟩),(257,⟨.i,.int .i64,8⟩),(270,⟨(.po .ch),.pt 5,8⟩),(285,⟨(.a 3 (.l .i)),.ar 3 23,72⟩),(286,⟨(.a 3 (.l .i)),.ar 3 23,72⟩),(293,⟨.u,.int .u64,8⟩),(297,⟨(.po .i),.pt 3,8⟩),(313,⟨(.p (.l (.p .b (.l .u))) (.l (.l (.p .b (.l .u))))),.st 2,48⟩),(314,⟨(.p (.l (.p .b (.l .u))) (.l (.l (.p .b (.l .u))))),.st 2,48⟩),(317,⟨(.po (.p (.p (.l (.p .b (.l .u))) (.l (.l (.p .b (.l .u))))) (.l (.l (.p .b (.l .u)))))),.pt 319,8⟩),(318,⟨(.p (.p (.l (.p .b (.l .u))) (.l (.l (.p .b (.l .u))))) (.l (.l (.p .b (.l .u))))),.st 2,72⟩),(319,⟨(.p (.p (.l (.p .b (.l .u))) (.l (.l (.p .b (.l .u))))) (.l (.l (.p .b (.l .u))))),.st 2,72⟩),(322,⟨(.p (.p .b (.l .u)) (.p (.p .b (.l .u)) (.p .b (.l .u)))),.st 3,96⟩),(323,⟨(.p (.p .b (.l .u)) (.p (.p .b (.l .u)) (.p .b (.l .u)))),.st 3,96⟩),(325,⟨(.po .u),.pt 293,8⟩),(335,⟨(.po (.w1 .tx)),.pt 350,8⟩),(342,⟨.ch,.int .u8,1⟩),(343,⟨.ch,.int .u8,1⟩),(349,⟨(.w1 .tx),.st 0,16⟩),(350,⟨(.w1 .tx),.st 0,16⟩)]
def ex:N (K×v6):=[(214,I),(219,wL)]
def tA{t:wT}{a:TI}{tt:N (K×TI)}(b:SN Tryz.prog t a)(k:yZ Tryz.prog tt)(h1:tyB Tryz.prog t=Z (a.ty.rep.agg,a.ty.n,a.B,Z<|a.ty.rep.val<|zc a.ty):=by kernel_rfl)(c:(xcX 0 a.B && xcX 0 a.ty.n)=I:=by kernel_rfl):yZ Tryz.prog ((t,a)::tt):=yZ.add h1 c b k
def zal:yZ Tryz.prog tt:=tA (id (by kernel_rfl:Tryz.prog.underlying 2=Z (.int .i64)))<|
 tA (id (by kernel_rfl:Tryz.prog.underlying 3=Z (.int .i64)))<|
 tA (id (by kernel_rfl:Tryz.prog.underlying 4=Z .bool))<|
 tA (id (by kernel_rfl:Tryz.prog.underlying 5=Z (.int .u8)))<|
 tA (id (by kernel_rfl:Tryz.prog.underlying 6=Z (.int .u8)))<|
 tA ⟨O,iT⟩<|
 tA ⟨O,iT⟩<|
 tA (id (by kernel_rfl:Tryz.prog.underlying 9=Z .string))<|
 tA (id (by kernel_rfl:Tryz.prog.underlying 10=Z .string))<|
 tA (id (by kernel_rfl:Tryz.prog.underlying 11=Z .string))<|
 tA (id (by kernel_rfl:Tryz.prog.underlying 12=Z (.int .u64)))<|
 tA ⟨O,iT⟩<|
 tA ⟨O,iT⟩<|
 tA (id (by kernel_rfl:Tryz.prog.underlying 20=Z (.interface<|Tryz.prog.methodsAt 20)))<|
 tA ⟨iT,_,O⟩<|
 tA ⟨iT,_,O⟩<|
 tA (id (by kernel_rfl:Tryz.prog.underlying 26=Z (.int .i64)))<|
 tA ⟨iT,_,O⟩<|
 tA ⟨O,iT⟩<|
 tA ⟨O,iT⟩<|
 tA ⟨iT,_,O⟩<|
 tA ⟨O,iT⟩<|
 tA ⟨O,iT⟩<|
 tA (id (by kernel_rfl:Tryz.prog.underlying 53=Z (.int .u64)))<|
 tA (id (by kernel_rfl:Tryz.prog.underlying 54=Z (.int .u64)))<|
 tA ⟨iT,_,O⟩<|
 tA ⟨iT,_,O⟩<|
 tA ⟨iT,_,O⟩<|
 tA (id (by kernel_rfl:Tryz.prog.underlying 61=Z (.pointer 65)))<|
 tA ⟨O,iT⟩<|
 tA ⟨O,iT⟩<|
 tA ⟨O,iT⟩<|
 tA ⟨O,iT⟩<|
 tA ⟨iT,_,O⟩<|
 tA ⟨O,iT⟩<|
 tA ⟨O,iT⟩<|
 tA (id (by kernel_rfl:Tryz.prog.underlying 111=Z (.pointer 26)))<|
 tA ⟨O,iT⟩<|
 tA ⟨O,iT⟩<|
 tA ⟨iT,_,O⟩<|
 tA ⟨O,iT⟩<|
 tA ⟨O,iT⟩<|
 tA (id (by kernel_rfl:Tryz.prog.underlying 168=Z (.pointer 170)))<|
 tA ⟨O,iT⟩<|
 tA ⟨O,iT⟩<|
 tA ⟨iT,_,O⟩<|
 tA ⟨iT,_,O⟩<|
 tA (id (by kernel_rfl:Tryz.prog.underlying 224=Z (.interface<|Tryz.prog.methodsAt 224)))<|
 tA (id (by kernel_rfl:Tryz.prog.underlying 225=Z (.interface<|Tryz.prog.methodsAt 225)))<|
 tA ⟨O,iT⟩<|
 tA ⟨O,iT⟩<|
 tA (id (by kernel_rfl:Tryz.prog.underlying 257=Z (.int .i64)))<|
 tA (id (by kernel_rfl:Tryz.prog.underlying 270=Z (.pointer 5)))<|
 tA ⟨O,iT⟩<|
 tA ⟨O,iT⟩<|
 tA (id (by kernel_rfl:Tryz.prog.underlying 293=Z (.int .u64)))<|
 tA (id (by kernel_rfl:Tryz.prog.underlying 297=Z (.pointer 3)))<|
 tA ⟨O,iT⟩<|
 tA ⟨O,iT⟩<|
 tA (id (by kernel_rfl:Tryz.prog.underlying 317=Z (.pointer 319)))<|
 tA ⟨O,iT⟩<|
 tA ⟨O,iT⟩<|
 tA ⟨O,iT⟩<|
 tA ⟨O,iT⟩<|
 tA (id (by kernel_rfl:Tryz.prog.underlying 325=Z (.pointer 293)))<|
 tA (id (by kernel_rfl:Tryz.prog.underlying 335=Z (.pointer 350)))<|
 tA (id (by kernel_rfl:Tryz.prog.underlying 342=Z (.int .u8)))<|
 tA (id (by kernel_rfl:Tryz.prog.underlying 343=Z (.int .u8)))<|
 tA ⟨O,iT⟩<|
 tA ⟨O,iT⟩<|
 yZ.nil
def zaP:uz Tryz.prog tt:=uz.of iT
def zaS:nK Tryz.prog ex:=nK.add Tryz.func214 iT iT iT (λ_=>by kernel_rfl) (λh=>by cases h)<|
 nK.add Tryz.func219 iT iT iT (λh=>by cases h) (λ_=>by kernel_rfl)<|
 nK.nil
def S6:Tryz.prog.follows .mixedOrders=I:=iT
def sg(an:An){fn:QR}(a:Tryz.prog.funcs[s.f]? =Z fn)(b:∀s∈cs,xh Tryz.prog s)(c:BS Tryz.prog s.f=I)(d:∀x,zar ⟨tt,cs,an,fu,ex,[],[],[],[],[]⟩ fn s.dom s.cod x=s.M x)(e:s.bk=0:=by rfl):xh Tryz.prog s:=
 sgP S6 zal zaP zaS O an a b c e d
def sq(fu:K)(an:An){fn:QR}(a:Tryz.prog.funcs[s.f]? =Z fn)(b:∀s∈cs,xh Tryz.prog s)(c:BS Tryz.prog s.f=I:=by kernel_rfl)(d:∀x,zar ⟨tt,cs,an,fu,ex,[],[],[],[],[]⟩ fn s.dom s.cod x=s.M x:=by intro x;kernel_rfl)(e:s.bk=0:=by rfl):xh Tryz.prog s:=sg an a b c d e
abbrev q1(S:N (K×TF))(j:K)(T:N (K×TF)):Lp:=⟨⟨S,[]⟩,⟨[],[(.x j,⟨T,[]⟩)]⟩⟩
abbrev yb(s:X2):Prop:=xh Tryz.prog s
abbrev wk:An:=⟨[],[],[],[],[],[],[]⟩
abbrev y3:Ty:=.l (.p .b (.l .u))
abbrev zN:Ty:=.p .b (.l .u)
abbrev tzQ:Ty:=.l (.l (.p .b (.l .u)))
abbrev jC:Ty:=.l .u
abbrev yK:Ty:=.l .i
def sgb(an:An){fn:QR}(a:Tryz.prog.funcs[s.f]? =Z fn)(b:∀s∈cs,xh Tryz.prog s)(c:BS Tryz.prog s.f=I)(d:∀e x,zkB ⟨tt,cs,an,fu,ex,[],[],[],[],[]⟩ fn s.dom s.cod s.bk e x=s.M x):xh Tryz.prog s:=
 sgG S6 zal zaP zaS O an a b c d
end
section
set_option maxRecDepth 100000
section
variable(fu:wr)
def fF(fu:K)(b:N K):(J->V J)->J->V J:=λL a=>if 0<a then E (a-1) λd=>zG d (X b) λe=>C (b.getD e 0) λf=>if(f:J)=(((0:K):K):J)then E (a-1) λg=>L g else Z a else Z a
def ZL(a:N K):V (N K):=G (zg (fF fu a) fu<|(X a:J)) λe=>kv e λb=>ck (b<=X a)<|C (a.take b) λd=>ck ((X (([]:N K))+X d)*8<=140737488355328)<|C ((([]:N K))++d) λf=>Z f
def y6(b:M):V M:=G (ZL fu b.2) λa=>if b.1=I then if 0<(X a:J)then Z (I,a)else Z (wL,a)else Z (wL,a)
def wH(a:J):V M:=if a<0 then E (0-a) λb=>C (sA b) λd=>G (y6 fu (I,[d])) λe=>Z e else C (sA a) λf=>G (y6 fu (wL,[f])) λg=>Z g
def qe(b:M):V J:=G (y6 fu b) λa=>if a.1=I then Z (-1:J)else if 0<(X a.2:J)then Z (1:J)else Z (0:J)
def eE(b:N M):(J->V J)->J->V J:=λL a=>if 0<a then E (a-1) λd=>zG d (X b) λe=>C (b.getD e (wL,[])) λf=>G (qe fu f) λg=>if g=0 then E (a-1) λh=>L h else Z a else Z a
def eT(d:N M)(f:J):(((N M)×J)->V (N M))->((N M)×J)->V (N M):=λL (a,b)=>if b<f then zG b (X d) λg=>C (d.getD g (wL,[])) λh=>G (y6 fu h) λe=>ck ((X a+X ([e]))*32<=140737488355328)<|C (a++([e])) λi=>E (b+1) λj=>L (i,j)else Z a
def yQ(a:N M):V (N M):=G (zg (eE fu a) fu<|(X a:J)) λb=>G (zg (eT fu a b) fu<|([],(0:J))) λd=>Z d
def N2(a:N J):(((N M)×J)->V (N M))->((N M)×J)->V (N M):=λL (b,d)=>if d<(X a:J)then zG d (X a) λf=>C (a.getD f 0) λg=>G (wH fu g) λe=>ck ((X b+X ([e]))*32<=140737488355328)<|C (b++([e])) λh=>E (d+1) λi=>L (h,i)else Z b
def nW(a:N J):V (N M):=G (zg (N2 fu a) fu<|([],(0:J))) λb=>G (yQ fu b) λd=>Z d
def ef(fu:K)(b:N K)(d:N K):(J->V (Z2⊕Z2))->J->V (Z2⊕Z2):=λL a=>if a<(X b:J)then zG a (X b) λe=>C (b.getD e 0) λf=>zG a (X d) λg=>C (d.getD g 0) λh=>if(f:J)=(h:J)then E (a+1) λi=>L i else Z (.inr ())else Z (.inl ())
def Q7(a:N K)(b:N K):V v6:=if(X a:J)=(X b:J)then G (zg (ef fu a b) fu (0:J)) λd=>match d with
 |.inl _=>Z I
 |.inr _=>Z wL else Z wL
def Q5(a:M)(b:M):V v6:=C (a.1==b.1) λd=>if d then G (Q7 fu a.2 b.2) λe=>Z e else Z wL
def eH(b:N M)(d:N M):(J->V (Z2⊕Z2))->J->V (Z2⊕Z2):=λL a=>if a<(X b:J)then zG a (X b) λe=>C (b.getD e (wL,[])) λf=>zG a (X d) λg=>C (d.getD g (wL,[])) λh=>G (Q5 fu f h) λi=>if !i then Z (.inr ())else E (a+1) λj=>L j else Z (.inl ())
def ZG(a:N M)(b:N M):V v6:=if(X a:J)=(X b:J)then G (zg (eH fu a b) fu (0:J)) λd=>match d with
 |.inl _=>Z I
 |.inr _=>Z wL else Z wL
def CQ(b:N ((N M)×J))(d:N ((N M)×J)):(J->V (Z2⊕Z2))->J->V (Z2⊕Z2):=λL a=>if a<(X b:J)then zG a (X b) λe=>C (b.getD e ([],0)) λf=>zG a (X d) λg=>C (d.getD g ([],0)) λh=>if f.2=h.2 then zG a (X b) λi=>C (b.getD i ([],0)) λj=>zG a (X d) λk=>C (d.getD k ([],0)) λl=>G (ZG fu j.1 l.1) λm=>if !m then Z (.inr ())else E (a+1) λo=>L o else Z (.inr ())else Z (.inl ())
def pZ(a:N ((N M)×J))(b:N ((N M)×J)):V v6:=if(X a:J)=(X b:J)then G (zg (CQ fu a b) fu (0:J)) λd=>match d with
 |.inl _=>Z I
 |.inr _=>Z wL else Z wL
def VP(fu:K)(a:N K)(b:J):V K:=if b<(X a:J)then zG b (X a) λd=>C (a.getD d 0) λe=>Z e else Z (0:K)
def dS(b:J)(a:K)(f:N K)(g:N K):V (K×K):=G (VP fu f b) λd=>G (VP fu g b) λe=>ck (a<=1)<|C ((d+e+a)%18446744073709551616) λh=>C ((d+e+a)/18446744073709551616) λi=>Z (h,i)
def bO(fu:K)(e:J->K->V (K×K))(f:N K):((K×J×(N K))->V (K×(N K)))->(K×J×(N K))->V (K×(N K)):=λL (d,a,b)=>if a<(X f:J)then G (e a d) λ(g,h)=>zG a (X b) λi=>C (b.set i g) λj=>E (a+1) λk=>L (h,k,j)else Z (d,b)
def qo(d:J)(e:J->K->V (K×K)):V ((N K)×K):=kv d λa=>ck (8*a<=281474976710656)<|C (Nm a 0) λb=>G (zg (bO fu e b) fu<|((0:K),(0:J),b)) λ(f,g)=>Z (g,f)
def FV(fu:K):((N K)->V (N K))->(N K)->V (N K):=λL a=>if 0<(X a:J)then E (((X a:J))-1) λd=>zG d (X a) λe=>C (a.getD e 0) λf=>if(f:J)=(((0:K):K):J)then E (((X a:J))-1) λg=>kv g λb=>ck (b<=X a)<|C (a.take b) λh=>L h else Z a else Z a
def wq(a:N K):V (N K):=G (zg (FV fu) fu a) λb=>Z b
def Kt(fu:K):((N K)->V (N K))->(N K)->V (N K):=λL a=>if 0<(X a:J)then E (((X a:J))-1) λd=>zG d (X a) λe=>C ((a.getD e 0)) λf=>if(f:J)=(((0:K):K):J)then E (((X a:J))-1) λg=>kv g λb=>ck (b<=X a)<|C (a.take b) λh=>L h else Z a else Z a
def xq(a:N K):V (N K):=G (zg (Kt fu) fu a) λb=>Z b
def ZF(a:N K)(b:N K):V (N K):=C (max ((X a:J))<|(X b:J)) λf=>G (qo fu f<|λc i=>dS fu c i a b) λ(d,e)=>ck ((X d+X ([e]))*8<=140737488355328)<|C (d++([e])) λg=>G (xq fu g) λh=>Z h
def Yx(fu:K)(a:J):V v6:=if a=a then Z wL else Z I
def uJ(a:J)(b:J):V J:=G (Yx fu a) λe=>G (Yx fu b) λd=>if e then if d then Z (0:J)else Z (-1:J)else if d then Z (1:J)else if a<b then Z (-1:J)else if b<a then Z (1:J)else Z (0:J)
def kV(fu:K)(a:K):V v6:=if(a:J)=(a:J)then Z wL else Z I
def ju(a:K)(b:K):V J:=G (kV fu a) λe=>G (kV fu b) λd=>if e then if d then Z (0:J)else Z (-1:J)else if d then Z (1:J)else if(a:J)<(b:J)then Z (-1:J)else if(b:J)<(a:J)then Z (1:J)else Z (0:J)
def dV(b:N K)(d:N K):(J->V (Z2⊕J))->J->V (Z2⊕J):=λL a=>if 0<=a then zG a (X b) λe=>C (b.getD e 0) λf=>zG a (X d) λg=>C (d.getD g 0) λh=>if(f:J)=(h:J)then E (a-1) λi=>L i else zG a (X b) λj=>C (b.getD j 0) λk=>zG a (X d) λl=>C (d.getD l 0) λm=>G (ju fu k m) λo=>Z (.inr o)else Z (.inl ())
def Jm(d:N K)(e:N K):V J:=G (wq fu d) λa=>G (wq fu e) λb=>if(X a:J)=(X b:J)then E (((X a:J))-1) λf=>G (zg (dV fu a b) fu f) λg=>match g with
 |.inl _=>Z (0:J)
 |.inr h=>Z h else G (uJ fu ((X a:J))<|(X b:J)) λi=>Z i
def wb(fu:K)(a:N K):V (N K):=ck (X a<=17592186044416)<|some a
def YC(a:N K):V (N K):=G (wq fu a) λb=>G (wb fu b) λd=>Z d
def dk(fu:K)(b:J)(a1:K)(a:N K)(d:J):V (K×K):=zG b (X a) λg=>C (a.getD g 0) λh=>ck ((64:J)≠0)<|C (xbE d (64:J)) λe=>ck (0<=e)<|C (h*2^(min (e:J).toNat 64)%18446744073709551616) λi=>C (i|||a1) λj=>zG b (X a) λk=>C (a.getD k 0) λl=>C (l/2^(min (((1:K)):J).toNat 64)) λm=>ck ((64:J)≠0)<|C (xbE d (64:J)) λo=>E ((63:J)-o) λf=>ck (0<=f)<|C (m/2^(min (f:J).toNat 64)) λp=>Z (j,p)
def Y2(fu:K)(a:N K)(e:J):V (N K):=kv e λb=>ck (8*b<=281474976710656)<|C (Nm b 0) λd=>ck ((X d+X a)*8<=140737488355328)<|C (d++a) λf=>Z f
def WE(b:N K)(a:J):V ((N K)×J):=if a<0 then Z (([],(1:J)))else if 262144<a then Z (([],(1:J)))else G (qo fu ((X b:J))<|λc j=>dk fu c j b a) λ(d,e)=>ck ((X d+X ([e]))*8<=140737488355328)<|C (d++([e])) λf=>ck ((64:J)≠0)<|E (xcw a (64:J)) λg=>G (Y2 fu f g) λh=>G (xq fu h) λi=>Z<|(i,(0:J))
def gm(d:J)(m:K)(a:N K)(b:J):V (K×K):=zG d (X a) λf=>C (a.getD f 0) λg=>ck (0<=b)<|C (g/2^(min (b:J).toNat 64)) λh=>E (d+1) λi=>G (VP fu a i) λj=>C (j*2^(min (((1:K)):J).toNat 64)%18446744073709551616) λk=>E ((63:J)-b) λe=>ck (0<=e)<|C (k*2^(min (e:J).toNat 64)%18446744073709551616) λm4=>C (h|||m4) λl=>Z<|(l,(0:K))
def U3(a:N K)(f:J):V (N K):=C (max f (0:J)) λb=>ck ((64:J)≠0)<|E (xcw b (64:J)) λg=>if(X a:J)<=g then Z []else ck ((64:J)≠0)<|E (xcw b (64:J)) λh=>kv h λd=>ck (d<=X a)<|C (a.drop d) λe=>ck ((64:J)≠0)<|C (xbE b (64:J)) λi=>G (qo fu ((X e:J))<|λc m=>gm fu c m e i) λ(j,l)=>G (xq fu j) λk=>Z k
def xW(fu:K)(a:K):V J:=G ((if 4294967296<=(a:J)then C (a/2^(min (32:J).toNat 64)) λg=>Z (g,32)else Z (a,0):V (K×J))) λ(b,e)=>G ((if 65536<=(b:J)then C (b/2^(min (16:J).toNat 64)) λh=>E (e+16) λi=>Z (h,i)else Z (b,e):V (K×J))) λ(d,f)=>if 256<=(d:J)then C (d/2^(min (8:J).toNat 64)) λj=>E (f+8) λk=>C (j%256) λl=>C (xeX l) λm=>E (k+((m:J))) λo=>Z o else C (d%256) λp=>C (xeX p) λq=>E (f+((q:J))) λr=>Z r
def xB(a:K):V J:=G (xW fu a) λb=>E ((64:J)-b) λd=>Z d
def jY(fu:K)(l:K)(m:K)(g:K):((K×K)->V K)->(K×K)->V K:=λL (a,h)=>if(((4294967296:K):K):J)<=(a:J)then C ((a+18446744073709551616-((1:K)))%18446744073709551616) λb=>C ((h+l)%18446744073709551616) λd=>if(((4294967296:K):K):J)<=(d:J)then Z b else L (b,d)else C ((a*m)%18446744073709551616) λi=>C ((((4294967296:K))*h)%18446744073709551616) λj=>C ((j+g)%18446744073709551616) λk=>if(k:J)<(i:J)then C ((a+18446744073709551616-((1:K)))%18446744073709551616) λe=>C ((h+l)%18446744073709551616) λf=>if(((4294967296:K):K):J)<=(f:J)then Z e else L (e,f)else Z a
def jT(fu:K)(k:K)(l:K)(f:K):((K×K)->V K)->(K×K)->V K:=λL (g,a)=>if(((4294967296:K):K):J)<=(a:J)then C ((a+18446744073709551616-((1:K)))%18446744073709551616) λb=>C ((g+k)%18446744073709551616) λm32=>if(((4294967296:K):K):J)<=(m32:J)then Z b else L (m32,b)else C ((a*l)%18446744073709551616) λh=>C ((((4294967296:K))*g)%18446744073709551616) λi=>C ((i+f)%18446744073709551616) λj=>if(j:J)<(h:J)then C ((a+18446744073709551616-((1:K)))%18446744073709551616) λd=>C ((g+k)%18446744073709551616) λe=>if(((4294967296:K):K):J)<=(e:J)then Z d else L (e,d)else Z a
def jj(o:wr)(l:wr)(a:wr):V (wr×wr):=if(a:J)=(((0:wr):wr):J)then wF else if(a:J)<=(o:J)then wF else if(o:J)=(((0:wr):wr):J)then ck (a≠0)<|nm (l/a) λc=>ck (a≠0)<|nm (l%a) λK=>Z (c,K)else bd (xB fu a) λM=>nm (sA M) λf=>nm (a*2^(min (f:J).toNat 64)%18446744073709551616) λm=>nm (m/2^(min (((32:wr)):J).toNat 64)) λb=>nm (m &&& ((4294967295:wr))) λG=>nm (o*2^(min (f:J).toNat 64)%18446744073709551616) λN=>nm ((((64:wr))+18446744073709551616-f)%18446744073709551616) λn=>nm (l/2^(min (n:J).toNat 64)) λm9=>nm (N|||m9) λd=>nm (l*2^(min (f:J).toNat 64)%18446744073709551616) λg=>nm (g/2^(min (((32:wr)):J).toNat 64)) λh=>nm (g &&& ((4294967295:wr))) λi=>ck (b≠0)<|nm (d/b) λj=>nm ((j*b)%18446744073709551616) λp=>nm ((d+18446744073709551616-p)%18446744073709551616) λq=>bd (zg (jY fu b G h) fu (j,q)) λH=>nm ((d*((4294967296:wr)))%18446744073709551616) λr=>nm ((r+h)%18446744073709551616) λs=>nm ((H*m)%18446744073709551616) λt=>nm ((s+18446744073709551616-t)%18446744073709551616) λe=>ck (b≠0)<|nm (e/b) λk=>nm ((k*b)%18446744073709551616) λu=>nm ((e+18446744073709551616-u)%18446744073709551616) λv=>bd (zg (jT fu b G i) fu (v,k)) λz=>nm ((H*((4294967296:wr)))%18446744073709551616) λw=>nm ((w+z)%18446744073709551616) λx=>nm ((e*((4294967296:wr)))%18446744073709551616) λy=>nm ((y+i)%18446744073709551616) λA=>nm ((z*m)%18446744073709551616) λB=>nm ((A+18446744073709551616-B)%18446744073709551616) λC=>nm (C/2^(min (f:J).toNat 64)) λE=>Z (x,E)
def jd(fu:K)(a:K)(b:K):V (K×K):=C (a &&& ((4294967295:K))) λl=>C (a/2^(min (((32:K)):J).toNat 64)) λm=>C (b &&& ((4294967295:K))) λo=>C (b/2^(min (((32:K)):J).toNat 64)) λp=>C ((l*o)%18446744073709551616) λr=>C ((m*o)%18446744073709551616) λs=>C (r/2^(min (((32:K)):J).toNat 64)) λt=>C ((s+t)%18446744073709551616) λq=>C (q &&& ((4294967295:K))) λu=>C (q/2^(min (((32:K)):J).toNat 64)) λd=>C ((l*p)%18446744073709551616) λe=>C ((u+e)%18446744073709551616) λf=>C ((m*p)%18446744073709551616) λg=>C ((g+d)%18446744073709551616) λh=>C (f/2^(min (((32:K)):J).toNat 64)) λi=>C ((h+i)%18446744073709551616) λj=>C ((a*b)%18446744073709551616) λk=>Z (j,k)
def Uh(i:K)(d:K)(j:K):((K×K)->V K)->(K×K)->V K:=λL (b,a)=>G (jd fu b j) λ(f,k)=>if(f:J)<(a:J)then Z b else if(f:J)=(a:J)then if(k:J)<=(i:J)then Z b else C ((b+18446744073709551616-((1:K)))%18446744073709551616) λg=>ck ((0:K)<=1)<|C ((a+d+((0:K)))%18446744073709551616) λl=>C ((a+d+((0:K)))/18446744073709551616) λm=>if(((0:K):K):J)<(m:J)then Z g else L (g,l)else C ((b+18446744073709551616-((1:K)))%18446744073709551616) λh=>ck ((0:K)<=1)<|C ((a+d+((0:K)))%18446744073709551616) λo=>C ((a+d+((0:K)))/18446744073709551616) λe=>if(((0:K):K):J)<(e:J)then Z h else L (h,o)
def KO(b:K)(d:K)(e:K)(a:K)(f:K):V K:=if(a:J)<=(b:J)then Z (18446744073709551615:K)else G (jj fu b d a) λ(g,h)=>G (zg (Uh fu e a f) fu (g,h)) λi=>Z i
def gf(b:J)(a:K)(f:N K)(g:N K):V (K×K):=G (VP fu f b) λd=>G (VP fu g b) λe=>ck (a<=1)<|C ((d+18446744073709551616-e-a)%18446744073709551616) λh=>C (if d<e+a then 1 else 0) λi=>Z (h,i)
def Jr(a:N K)(b:N K):V ((N K)×J):=C (max ((X a:J))<|(X b:J)) λd=>G (qo fu d<|λc h=>gf fu c h a b) λ(e,f)=>if(((0:K):K):J)<(f:J)then Z (([],(1:J)))else G (xq fu e) λg=>Z<|(g,(0:J))
def X9(a:N K)(b:N K):V (N K):=G (Jr fu a b) λ(d,e)=>Z d
def dh(e:J)(a:K)(b:N K)(f:K):V (K×K):=zG e (X b) λg=>C (b.getD g 0) λh=>G (jd fu h f) λ(i,d)=>ck ((0:K)<=1)<|C ((d+a+((0:K)))%18446744073709551616) λj=>C ((d+a+((0:K)))/18446744073709551616) λk=>C ((i+k)%18446744073709551616) λl=>Z (j,l)
def Jl(a:N K)(e:K):V (N K):=G (qo fu ((X a:J))<|λc g=>dh fu c g a e) λ(b,d)=>ck ((X b+X ([d]))*8<=140737488355328)<|C (b++([d])) λf=>Z f
def Uf(d:N K)(f:K):((K×J×(N K))->V (K×(N K)))->(K×J×(N K))->V (K×(N K)):=λL (e,a,b)=>if 0<=a then zG a (X d) λg=>C (d.getD g 0) λh=>G (jj fu e h f) λ(i,j)=>zG a (X b) λk=>C (b.set k i) λl=>E (a-1) λm=>L (j,m,l)else Z (e,b)
def VD(a:N K)(d:K):V ((N K)×K):=kv ((X a:J)) λb=>ck (8*b<=281474976710656)<|C (Nm b 0) λe=>E (((X a:J))-1) λf=>G (zg (Uf fu a d) fu<|((0:K),f,e)) λ(g,h)=>G (xq fu h) λi=>Z (i,g)
def dp(b:N K):((J×J×K×(N K))->V (J×J×K×(N K)))->(J×J×K×(N K))->V (J×J×K×(N K)):=λL (g,h,d,a)=>G (Jl fu b d) λe=>G (Jm fu e a) λf=>if 0<f then C ((d+18446744073709551616-((1:K)))%18446744073709551616) λi=>L (g,h,i,a)else Z (g,h,d,a)
def Vv(D:J)(e:xS wr):(((xS wr)×J×(xS wr)×(xS wr))->ww ((xS wr)×(xS wr)))->((xS wr)×J×(xS wr)×(xS wr))->ww ((xS wr)×(xS wr)):=λL (b,d,a,f)=>if 0<=d then zf (d+((i7 e:J))) λp=>zG p (i7 a) λP=>nm ((a.getD P 0)) λQ=>zf (d+((i7 e:J))) λq=>zf (q-1) λr=>zG r (i7 a) λR=>nm ((a.getD R 0)) λS=>zf (d+((i7 e:J))) λs=>zf (s-2) λt=>zG t (i7 a) λU=>nm ((a.getD U 0)) λV=>zf (((i7 e:J))-1) λu=>zG u (i7 b) λW=>nm (b.getD W 0) λX=>zf (((i7 e:J))-2) λv=>zG v (i7 b) λY=>nm (b.getD Y 0) λc=>bd (KO fu Q S V X c) λz=>zf (d+((i7 e:J))) λw=>zf (w+1) λx=>kv d λg=>kv x λh=>ck (g<=h/\h<=i7 a)<|nm (xdu (h-g)<|xdI g a) λj=>ck ((i7 (([]:xS wr))+i7 j)*8<=140737488355328)<|nm ((([]:xS wr))++j) λy=>bd (zg (dp fu b) fu<|(D,(i7 e:J),z,y)) λ(i4,M,N,A)=>zG d (i7 f) λB=>nm (f.set B N) λC=>kv d λi=>ck (i<=i7 a)<|bd (Jl fu b N) λE=>bd (X9 fu A E) λk=>zf (M+1) λG=>kv G λl=>ck ((i7 k+l)*8<=140737488355328)<|nm (k++Nm l 0) λm=>zf (M+1) λH=>kv H λo=>ck (o<=i7 m)<|nm (m.take o) λF=>nm (lZ i (i7 a-i) a F) λn=>zf (d-1) λK=>L (b,K,n,C)else Z (a,f)
def UI(p:N wr)(q:N wr):V ((N wr)×(N wr)×J):=bd (wq fu p) λb=>bd (wq fu q) λa=>bd ((if(X a:J)=0 then Z I else Z wL:V v6)) λr=>if r then Z (([],[],(3:J)))else bd ((bd (Jm fu b a) λs=>if s<0 then Z I else Z wL:V v6)) λt=>if t then bd (YC fu b) λu=>Z (([],u,(0:J)))else if(X a:J)=1 then zG 0 (X a) λv=>nm (a.getD v 0) λw=>bd (VD fu b w) λ(x,y)=>bd (xq fu [y]) λA=>Z ((x,A,(0:J)))else zf (((X a:J))-1) λB=>zG B (X a) λC=>nm (a.getD C 0) λE=>bd (xB fu E) λd=>bd (WE fu a d) λ(e,K)=>bd (WE fu b d) λ(f,M)=>zf (((X b:J))+1) λG=>zf (G-((X f:J))) λH=>kv H λk=>ck ((X f+k)*8<=140737488355328)<|nm (f++Nm k 0) λl=>zf (((X l:J))-((X e:J))) λc=>kv c λm=>ck (8*m<=281474976710656)<|nm (Nm m 0) λo=>zf (((X o:J))-1) λn=>bd (zg (Vv fu d e) fu (e,n,l,o)) λ(g,h)=>bd (xq fu h) λi=>bd (U3 fu g d) λj=>Z<|(i,j,(0:J))
def xj(b:v6)(d:N K):V M:=G (YC fu d) λa=>if b then if 0<(X a:J)then Z (I,a)else Z (wL,a)else Z (wL,a)
def Wi(b:M)(d:M):V (M×M×J):=G (UI fu b.2 d.2) λ(e,a,f)=>if f=0 then G ((if b.1=I then if 0<(X a:J)then G (ZF fu e [(1:K)]) λg=>G (Jr fu d.2 a) λ(h,o)=>Z (g,h)else Z (e,a)else Z (e,a):V ((N K)×(N K)))) λ(i,j)=>C (!(b.1==d.1)) λk=>G (xj fu k i) λl=>G (xj fu wL j) λm=>Z ((l,m,(0:J)))else Z (((wL,[]),(wL,[]),f))
def jg(a:M):V M:=G (xj fu a.1 a.2) λb=>Z b
def xV(b:M):V J:=G (jg fu b) λa=>if a.1=I then E ((0:J)-2) λd=>E (d+1) λe=>Z e else if 0<(X a.2:J)then E ((0:J)+1) λf=>Z f else Z (0:J)
def kU(b:M)(d:M):V (M×J):=G (Wi fu b d) λ(e,f,a)=>G ((if a=0 then Z wL else Z I:V v6)) λg=>if g then Z (((wL,[]),a))else G (xV fu f) λh=>if h=0 then Z ((e,(0:J)))else Z (((wL,[]),(4:J)))
def JI(fu:K)(d:J)(i:N K)(j:N K)(k:J)(e:N K):((K×J×(N K)×(N K))->V (N K))->(K×J×(N K)×(N K))->V (N K):=λL (f,a,b,g)=>G ((if a<(X e:J)then Z ((i,d,j,k,d,(X e:J),I))else Z ((i,d,j,k,d,(X e:J),wL)):V ((N K)×J×(N K)×J×J×J×v6))) λ(y,l,A,B,C,E,p)=>if p then zG a (X g) λq=>nm ((g.getD q 0)) λm=>zf (l+a) λr=>zf (l+a) λs=>zG s (X b) λt=>nm ((b.getD t 0)) λo=>ck (f<=1)<|nm ((o+m+f)%18446744073709551616) λu=>nm ((o+m+f)/18446744073709551616) λv=>zG r (X b) λw=>nm (b.set w u) λh=>zf (a+1) λx=>L (v,x,h,g)else Z b
def dB(f:N K)(a:N K):((J×(N K))->V (N K))->(J×(N K))->V (N K):=λL (b,g)=>G ((if b<(X a:J)then Z ((f,a,(X a:J),I))else Z ((f,a,(X a:J),wL)):V ((N K)×(N K)×J×v6))) λ(h,d,j,k)=>if k then zG b (X d) λl=>C (d.getD l 0) λm=>G (Jl fu h m) λi=>G (zg (JI fu b h d j i) fu<|((0:K),(0:J),g,i)) λe=>E (b+1) λo=>L (o,e)else Z g
def Q0(d:N K)(e:N K):V (N K):=E (((X d:J))+((X e:J))) λg=>E (g+1) λh=>kv h λf=>ck (8*f<=281474976710656)<|C (Nm f 0) λi=>G (zg (dB fu d e) fu<|((0:J),i)) λa=>G (xq fu a) λb=>Z b
def Jo:wr->(xS wr)->(xS wr)->V (xS wr)
 |0,_,_=>wF
 |fu+1,y,A=>bd (wq fu y) λa=>bd (wq fu A) λb=>nm (min ((X a:J))<|(X b:J)) λB=>if B<8 then bd (Q0 fu a b) λC=>Z C else nm (max ((X a:J))<|(X b:J)) λE=>ck ((2:J)≠0)<|zf (xcw E (2:J)) λd=>nm (min d<|(X a:J)) λG=>kv G λq=>ck (q<=X a)<|nm (a.take q) λH=>bd (wq fu H) λr=>nm (min d<|(X a:J)) λn=>kv n λs=>ck (s<=X a)<|nm (a.drop s) λt=>nm (min d<|(X b:J)) λc=>kv c λu=>ck (u<=X b)<|nm (b.take u) λK=>bd (wq fu K) λv=>nm (min d<|(X b:J)) λM=>kv M λw=>ck (w<=X b)<|nm (b.drop w) λx=>bd (Jo fu r v) λe=>bd (Jo fu t x) λf=>bd (ZF fu r t) λg=>bd (ZF fu v x) λh=>bd (Jo fu g h) λi=>bd (X9 fu i e) λj=>bd (X9 fu j f) λk=>bd (Y2 fu k d) λl=>bd (ZF fu e l) λm=>zf ((2:J)*d) λN=>bd (Y2 fu f N) λo=>bd (ZF fu m o) λp=>Z p
def z8(a:M)(b:M):V M:=C (!(a.1==b.1)) λd=>G (Jo fu a.2 b.2) λe=>G (xj fu d e) λf=>Z f
def qL(a:M)(b:M):V M:=C (a.1==b.1) λe=>if e then G (ZF fu a.2 b.2) λf=>G (xj fu a.1 f) λg=>Z g else G ((G (Jm fu a.2 b.2) λh=>if h<0 then Z (b,a)else Z (a,b):V (M×M))) λ(d,i)=>G (Jr fu d.2 i.2) λ(j,l)=>G (xj fu d.1 j) λk=>Z k
def YN(a:M):V M:=G (xj fu (!a.1) a.2) λb=>Z b
def jv(a:M)(b:M):V M:=G (YN fu b) λd=>G (qL fu a d) λe=>Z e
def JD(d:J)(a:M):V M:=G (jg fu a) λb=>Z b
def vd(fu:K)(a:N M)(f:J->M->V M):((J×(N M))->V (N M))->(J×(N M))->V (N M):=λL (b,d)=>G ((if b<(X a:J)then Z ((a,(X a:J),I))else Z ((a,(X a:J),wL)):V ((N M)×J×v6))) λ(e,o,g)=>if g then zG b (X e) λh=>C (e.getD h (wL,[])) λi=>G (f b i) λj=>zG b (X d) λk=>C (d.set k j) λl=>E (b+1) λm=>L (m,l)else Z d
def zJ(a:N M)(d:J->M->V M):V (N M):=kv ((X a:J)) λb=>ck (32*b<=281474976710656)<|C (Nm b (wL,[])) λe=>G (zg (vd fu a d) fu<|((0:J),e)) λf=>Z f
def fY:((N M)->V (N M))->(N M)->V (N M):=λL a=>if 0<(X a:J)then E (((X a:J))-1) λd=>zG d (X a) λe=>C (a.getD e (wL,[])) λf=>G (xV fu f) λg=>if g=0 then E (((X a:J))-1) λh=>kv h λb=>ck (b<=X a)<|C (a.take b) λi=>L i else Z a else Z a
def zT(a:N M):V (N M):=G (zg (fY fu) fu a) λb=>G (zJ fu b<|λc e=>JD fu c e) λd=>Z d
def Uk(k:J)(g:N M):((J×(N M)×(N M)×(N M)×M)->V ((N M)×(N M)×(N M)))->(J×(N M)×(N M)×(N M)×M)->V ((N M)×(N M)×(N M)):=λL (a,f,b,d,e)=>G ((if a<(X g:J)then Z ((k,(X g:J),I))else Z ((k,(X g:J),wL)):V (J×J×v6))) λ(l,w,m)=>if m then zG a (X f) λo=>C ((f.getD o (wL,[]))) λp=>E (l+a) λq=>E (l+a) λh=>zG h (X b) λr=>C ((b.getD r (wL,[]))) λs=>G (z8 fu e p) λt=>G (jv fu s t) λu=>zG q (X b) λv=>C (b.set v u) λi=>E (a+1) λj=>L (j,f,i,d,e)else Z (f,b,d)
def Uj:((J×(N M)×(N M)×(N M))->V (((N M)×(N M))⊕J))->(J×(N M)×(N M)×(N M))->V (((N M)×(N M))⊕J):=λL (b,a,d,e)=>if 0<=b then E (b+((X a:J))) λl=>E (l-1) λm=>zG m (X d) λo=>C ((d.getD o (wL,[]))) λp=>E (((X a:J))-1) λq=>zG q (X a) λr=>C ((a.getD r (wL,[]))) λs=>G (kU fu p s) λ(j,k)=>if k=0 then zG b (X e) λt=>C (e.set t j) λu=>G (zg (Uk fu b a) fu<|((0:J),a,d,u,j)) λ(f,g,h)=>E (b-1) λi=>L (i,f,g,h)else Z (.inr k)else Z (.inl (d,e))
def wz(j:N M)(k:N M):V ((N M)×J):=G (zT fu j) λa=>G (zT fu k) λb=>if(X b:J)=0 then Z (([],(3:J)))else G ((if 0<(X a:J)then if(X a:J)<(X b:J)then Z (.inr ())else Z (.inl ())else Z (.inl ()):V (Z2⊕Z2))) λl=>match l with
 |.inl _=>(E (((X a:J))-((X b:J))) λm=>E (m+1) λo=>C (max o (0:J)) λp=>kv p λh=>ck (32*h<=281474976710656)<|C (Nm h (wL,[])) λi=>E (((X i:J))-1) λq=>G (zg (Uj fu) fu (q,b,a,i)) λr=>match r with
 |.inl (d,e)=>G (zT fu d) λf=>if 0<(X f:J)then Z (([],(4:J)))else G (zT fu e) λg=>Z<|(g,(0:J))
 |.inr s=>Z ([],s))
 |.inr _=>Z<|([],(4:J))
def J1(b:N M):((J×(N M)×J)->V J)->(J×(N M)×J)->V J:=λL (a,d,e)=>if e=0 then E (a+1) λf=>G (wz fu d b) λ(g,h)=>L (f,g,h)else Z a
def XH(b:N M)(a:N M):V J:=G (wz fu b a) λ(d,e)=>G (zg (J1 fu a) fu<|((0:J),d,e)) λf=>Z f
def ZI(fu:K)(d:J):((v6×J)->V v6)->(v6×J)->V v6:=λL (b,a)=>if b then E (a*a) λe=>if e<=d then ck (a≠0)<|C (xbE d a) λf=>if f=0 then Z wL else E (a+1) λg=>L (b,g)else Z b else Z b
def uQ(a:J):V v6:=G ((if 2<=a then if a<=65521 then Z I else Z wL else Z wL:V v6)) λb=>G (zg (ZI fu a) fu<|(b,(2:J))) λd=>Z d
def yi(a:J):V M:=if a<0 then C (sA a) λb=>C ((18446744073709551616-b)%18446744073709551616) λd=>G (xj fu I [d]) λe=>Z e else C (sA a) λf=>G (xj fu wL [f]) λg=>Z g
def u5(b:N K):V J:=G (wq fu b) λa=>if(X a:J)=0 then Z (0:J)else E (((X a:J))-1) λd=>E ((64:J)*d) λe=>E (((X a:J))-1) λf=>zG f (X a) λg=>C (a.getD g 0) λh=>G (xW fu h) λi=>E (e+i) λj=>Z j
def bf:((J×M×M)->V M)->(J×M×M)->V M:=λL (a,b,d)=>if 0<a then C (gi a (1:J)) λf=>if f=1 then G (z8 fu d b) λe=>if 1<a then G (z8 fu b b) λg=>C (xeP a<|2^(min (((1:K)):J).toNat 64)) λh=>L (h,g,e)else C (xeP a<|2^(min (((1:K)):J).toNat 64)) λi=>L (i,b,e)else if 1<a then G (z8 fu b b) λj=>C (xeP a<|2^(min (((1:K)):J).toNat 64)) λk=>L (k,j,d)else C (xeP a<|2^(min (((1:K)):J).toNat 64)) λl=>L (l,b,d)else Z d
def aF(b:M)(a:J):V (M×J):=G ((if a<0 then Z I else if 65536<a then Z I else Z wL:V v6)) λd=>if d then Z (((wL,[]),(1:J)))else G (u5 fu b.2) λe=>E (e*a) λf=>if 262144<f then Z (((wL,[]),(6:J)))else G (yi fu (1:J)) λg=>G (jg fu b) λh=>G (zg (bf fu) fu (a,h,g)) λi=>Z<|(i,(0:J))
def qN(b:J)(a:J):V (M×J):=G (uQ fu b) λd=>if !d then Z (((wL,[]),(1:J)))else if a<1 then Z (((wL,[]),(1:J)))else if 1000<a then Z (((wL,[]),(1:J)))else G (yi fu b) λe=>G (aF fu e a) λ(f,g)=>Z (f,g)
def U6(fu:K)(a:N M)(e:M)(g:M->M->V (M×J)):((J×(N M))->V (N M))->(J×(N M))->V (N M):=λL (b,d)=>G ((if b<(X a:J)then Z ((e,a,(X a:J),I))else Z ((e,a,(X a:J),wL)):V (M×(N M)×J×v6))) λ(h,f,q,i)=>if i then zG b (X f) λj=>C (f.getD j (wL,[])) λk=>G (g k h) λ(l,r)=>zG b (X d) λm=>C (d.set m l) λo=>E (b+1) λp=>L (p,o)else Z d
def qQ(a:N M)(b:M)(e:M->M->V (M×J)):V ((N M)×J):=G (xV fu b) λf=>if f<=0 then Z (([],(1:J)))else kv ((X a:J)) λd=>ck (32*d<=281474976710656)<|C (Nm d (wL,[])) λg=>G (zg (U6 fu a b e) fu<|((0:J),g)) λh=>G (zT fu h) λi=>Z<|(i,(0:J))
def jl(b:M)(a:M):V (M×J):=G (xV fu a) λd=>if d<=0 then Z (((wL,[]),(1:J)))else G (Wi fu b a) λ(f,e,g)=>Z<|(e,(0:J))
def XA(a:N M)(b:M):V ((N M)×J):=G (qQ fu a b<|λc f=>jl fu c f) λ(d,e)=>Z (d,e)
def xn(a:N M)(b:M):V (N M):=G (XA fu a b) λ(d,e)=>Z d
def w7(a:J):V J:=G (uQ fu a) λb=>if !b then Z (1:J)else Z (0:J)
def Ze(fu:K)(d:J)(a:J):V J:=if a<1 then Z (0:J)else ck (a≠0)<|C (xbE d a) λb=>if b<0 then E (b+a) λe=>Z e else Z b
def nA(fu:K):((J×J×J×J)->V (J⊕Z2))->(J×J×J×J)->V (J⊕Z2):=λL (d,a,f,b)=>if a=0 then Z (.inr ())else if a=1 then Z (.inl b)else ck (a≠0)<|E (xcw d a) λe=>E (e*a) λg=>E (d-g) λh=>E (e*b) λi=>E (f-i) λj=>L (a,h,b,j)
def Vr(d:J)(a:J):V (J×J):=G (w7 fu a) λb=>if b=0 then G (Ze fu d a) λe=>G (zg (nA fu) fu<|(a,e,(0:J),(1:J))) λf=>match f with
 |.inl g=>G (Ze fu g a) λh=>Z<|(h,(0:J))
 |.inr _=>Z (((0:J),(3:J)))else Z (((0:J),b))
def b9(b:N J)(e:J):((J×(N J))->V (N J))->(J×(N J))->V (N J):=λL (a,d)=>if a<(X b:J)then zG a (X b) λf=>C (b.getD f 0) λg=>G (Ze fu g e) λh=>zG a (X d) λi=>C (d.set i h) λj=>E (a+1) λk=>L (k,j)else Z d
def cd(fu:K):((N J)->V (N J))->(N J)->V (N J):=λL a=>if 0<(X a:J)then E (((X a:J))-1) λd=>zG d (X a) λe=>C ((a.getD e 0)) λf=>if f=0 then E (((X a:J))-1) λg=>kv g λb=>ck (b<=X a)<|C (a.take b) λh=>L h else Z a else Z a
def yg(a:N J)(d:J):V (N J):=kv ((X a:J)) λb=>ck (8*b<=281474976710656)<|C (Nm b 0) λe=>G (zg (b9 fu a d) fu<|((0:J),e)) λf=>G (zg (cd fu) fu f) λg=>Z g
def XY(fu:K)(a:N J)(q:J)(b:J):(((N J)×J×J×J×(N J)×(N J))->V ((N J)×J×J×(N J)×(N J)))->((N J)×J×J×J×(N J)×(N J))->V ((N J)×J×J×(N J)×(N J)):=λL (r,d,s,e,f,t)=>G ((if e<(X a:J)then Z ((q,b,a,(X a:J),I))else Z ((q,b,a,(X a:J),wL)):V (J×J×(N J)×J×v6))) λ(u,w,v,E,x)=>if x then zG e (X v) λy=>nm (v.getD y 0) λA=>zf (u+e) λg=>zf (u+e) λh=>zG h (X f) λB=>nm ((f.getD B 0)) λi=>zf (d-w) λj=>zf (j*A) λk=>zf (i+k) λl=>ck (d≠0)<|nm (xbE l d) λm=>zG g (X f) λC=>nm (f.set C m) λo=>zf (e+1) λp=>L (r,d,s,p,o,t)else Z (r,d,s,f,t)
def XE(e:N J)(f:J)(k:J):((J×(N J)×(N J))->V ((N J)×(N J)))->(J×(N J)×(N J))->V ((N J)×(N J)):=λL (a,d,g)=>if 0<=a then E (a+((X e:J))) λl=>E (l-1) λm=>zG m (X d) λo=>C ((d.getD o 0)) λp=>E (p*k) λq=>ck (f≠0)<|C (xbE q f) λb=>zG a (X g) λr=>C (g.set r b) λs=>G (zg (XY fu e a b) fu<|(e,f,k,(0:J),d,s)) λ(t,u,v,h,i)=>E (a-1) λj=>L (j,h,i)else Z (d,g)
def xF(j:N J)(a:N J)(b:J):V ((N J)×(N J)):=ck ((X (([]:N J))+X j)*8<=140737488355328)<|C ((([]:N J))++j) λd=>E (((X d:J))-((X a:J))) λe=>if e<0 then Z ([],d)else E (((X a:J))-1) λl=>zG l (X a) λm=>C (a.getD m 0) λo=>G (Vr fu o b) λ(p,s)=>E (e+1) λq=>kv q λk=>ck (8*k<=281474976710656)<|C (Nm k 0) λr=>G (zg (XE fu a b p) fu (e,d,r)) λ(f,g)=>G (yg fu g b) λh=>G (yg fu f b) λi=>Z (h,i)
def KE(fu:K)(e:J)(a:N J)(f:J)(g:N J)(h:J)(i:J):((J×(N J))->V (N J))->(J×(N J))->V (N J):=λL (b,d)=>bd ((if b<(X a:J)then Z ((a,f,e,i,g,h,e,a,(X a:J),I))else Z ((a,f,e,i,g,h,e,a,(X a:J),wL)):V ((N J)×J×J×J×(N J)×J×J×(N J)×J×v6))) λ(E,j,k,m,G,H,c,l,o,p)=>if p then zG b (X l) λq=>nm (l.getD q 0) λr=>zf (k+b) λs=>zf (k+b) λt=>zG t (X d) λu=>nm ((d.getD u 0)) λv=>zf (m*r) λw=>zf (v+w) λx=>ck (j≠0)<|nm (xbE x j) λy=>zG s (X d) λA=>nm (d.set A y) λB=>zf (b+1) λC=>L (C,B)else Z d
def KZ(a:N J)(f:N J)(g:J):((J×(N J))->V (N J))->(J×(N J))->V (N J):=λL (b,h)=>G ((if b<(X a:J)then Z ((f,g,a,(X a:J),I))else Z ((f,g,a,(X a:J),wL)):V ((N J)×J×(N J)×J×v6))) λ(i,j,d,k,l)=>if l then zG b (X d) λm=>C (d.getD m 0) λo=>G (zg (KE fu b i j d k o) fu<|((0:J),h)) λe=>E (b+1) λp=>L (p,e)else Z h
def wQ(d:N J)(e:N J)(f:J):V (N J):=E (((X d:J))+((X e:J))) λh=>kv h λg=>ck (8*g<=281474976710656)<|C (Nm g 0) λi=>G (zg (KZ fu d e f) fu<|((0:J),i)) λa=>G (yg fu a f) λb=>Z b
def lv(fu:K)(a:N J)(e:J)(f:J):((J×(N J))->V (N J))->(J×(N J))->V (N J):=λL (b,d)=>G ((if b<(X a:J)then Z ((e,f,a,(X a:J),I))else Z ((e,f,a,(X a:J),wL)):V (J×J×(N J)×J×v6))) λ(h,t,g,u,i)=>if i then zG b (X g) λj=>C (g.getD j 0) λk=>zG b (X d) λl=>C ((d.getD l 0)) λm=>E (h*k) λo=>E (m+o) λp=>zG b (X d) λq=>C (d.set q p) λr=>E (b+1) λs=>L (s,r)else Z d
def Y6(a:N J)(b:N J)(f:J)(d:J):V (N J):=C (max ((X a:J))<|(X b:J)) λg=>kv g λe=>ck (8*e<=281474976710656)<|C (Nm e 0) λh=>C (cpy h a) λi=>G (zg (lv fu b f d) fu<|((0:J),i)) λj=>G (yg fu j d) λk=>Z k
def Zq(e:N (N J))(f:J):(((N J)×J×(N<|N J)×(N<|N J))->V ((N<|N J)×(N<|N J)))->((N J)×J×(N<|N J)×(N<|N J))->V ((N<|N J)×(N<|N J)):=λL (g,a,b,h)=>G ((if a<3 then Z (f,e,I)else Z (f,e,wL):V (J×(N<|N J)×v6))) λ(d,i,j)=>if j then zG a (3) λk=>zG a (3) λl=>C (i.getD l []) λm=>G (wQ fu g m d) λo=>E (d-1) λp=>G (Y6 fu (b.getD k []) o p d) λq=>zG a (3) λr=>C (b.set r q) λs=>E (a+1) λt=>L (g,t,s,h)else Z (b,h)
def Xx(b:N (N J))(d:N (N J))(e:J):V (N<|N J):=zG 0 (3) λf=>zG 0 (3) λg=>C (d.getD g []) λh=>G (xF fu (b.getD f []) h e) λ(i,k)=>G (zg (Zq fu d e) fu<|(i,(0:J),b,(Nm 3 []))) λ(a,j)=>Z a
def qK(b:N J)(d:J)(a:J):V (N J):=G (Vr fu d a) λ(e,g)=>G (wQ fu b [e] a) λf=>Z f
def ZC(d:J):(((N<|N J)×(N<|N J))->V (N<|N J))->((N<|N J)×(N<|N J))->V (N<|N J):=λL (b,a)=>zG 0 (3) λe=>if 0<((X ((a.getD e [])):K):J)then G (Xx fu b a d) λf=>L (a,f)else Z b
def vb(d:J)(e:J):((J×(N<|N J))->V (N<|N J))->(J×(N<|N J))->V (N<|N J):=λL (a,b)=>if a<3 then zG a (3) λf=>G (qK fu (b.getD f []) e d) λg=>zG a (3) λh=>C (b.set h g) λi=>E (a+1) λj=>L (j,i)else Z b
def u7(k:N J)(l:N J)(d:J):V ((N J)×(N J)×(N J)×J):=G (w7 fu d) λh=>if h=0 then G (yg fu k d) λm=>G (yg fu l d) λo=>G (zg (ZC fu d) fu<|([m,[(1:J)],[]],[o,[],[(1:J)]])) λa=>zG 0 (3) λi=>G ((if 0<((X ((a.getD i [])):K):J)then Z I else Z wL:V v6)) λp=>if p then zG 0 (3) λj=>E ((((X ((a.getD i [])):K):J))-1) λq=>zG q (X ((a.getD j []))) λr=>C (((a.getD j [])).getD r 0) λs=>G (zg (vb fu d s) fu<|((0:J),a)) λb=>zG 0 (3) λt=>zG 1 (3) λu=>zG 2 (3) λv=>Z (((b.getD t []),(b.getD u []),(b.getD v []),(0:J)))else zG 0 (3) λe=>zG 1 (3) λf=>zG 2 (3) λg=>Z (((a.getD e []),(a.getD f []),(a.getD g []),(0:J)))else Z ([],[],[],h)
def kz(a:N J)(b:N J)(d:J):V ((N J)×J):=G (u7 fu a b d) λ(e,g,h,f)=>Z (e,f)
def kE(d:N J)(e:N J)(a:J):V ((N J)×J):=G (w7 fu a) λb=>if b=0 then G (yg fu d a) λf=>G (yg fu e a) λg=>G (wQ fu f g a) λh=>Z ((h,(0:J)))else Z ([],b)
def VC(d:N J)(e:N J)(a:J):V ((N J)×J):=G (w7 fu a) λb=>if b=0 then G (yg fu d a) λf=>G (yg fu e a) λg=>E (a-1) λh=>G (Y6 fu f g h a) λi=>Z ((i,(0:J)))else Z ([],b)
def Xq(a:N J)(b:N J)(d:J):V v6:=G (VC fu a b d) λ(e,f)=>if(X e:J)=0 then Z I else Z wL
def Wq(fu:K)(a:N J)(e:J):(J->V (Z2⊕Z2))->J->V (Z2⊕Z2):=λL b=>if b<(X a:J)then zG b (X a) λf=>C (a.getD f 0) λd=>if d<0 then Z (.inr ())else if e<=d then Z (.inr ())else E (b+1) λg=>L g else Z (.inl ())
def XL(a:N J)(b:J):V v6:=G (zg (Wq fu a b) fu (0:J)) λd=>match d with
 |.inl _=>if 1<(X a:J)then E (((X a:J))-1) λe=>zG e (X a) λf=>C (a.getD f 0) λg=>if g=1 then Z I else Z wL else Z wL
 |.inr _=>Z wL
def JA(a:N (N J))(e:J):(((N J)×J)->V (N J))->((N J)×J)->V (N J):=λL (d,b)=>if b<(X a:J)then zG b (X a) λf=>C (a.getD f []) λg=>G (kE fu d g e) λ(h,j)=>E (b+1) λi=>L (h,i)else Z d
def qu(a:N (N J))(b:J):V (N J):=G (zg (JA fu a b) fu<|([(1:J)],(0:J))) λd=>Z d
def QK(b:M):V (J×v6):=G (jg fu b) λa=>G ((if(X a.2:J)=0 then Z I else Z wL:V v6)) λd=>if d then Z (((0:J),I))else G ((if 1<(X a.2:J)then Z I else Z wL:V v6)) λe=>if e then Z (((0:J),wL))else G ((if a.1=I then zG 0 (X a.2) λf=>C (a.2.getD f 0) λg=>if(g:J)<=(((9223372036854775808:K):K):J)then Z I else Z wL else Z wL:V v6)) λh=>if h then zG 0 (X a.2) λi=>C (a.2.getD i 0) λj=>C ((18446744073709551616-j)%18446744073709551616) λk=>C (SZ k) λl=>Z (l,I)else if a.1=I then Z (((0:J),wL))else zG 0 (X a.2) λm=>C (a.2.getD m 0) λo=>if(((9223372036854775807:K):K):J)<(o:J)then Z (((0:J),wL))else zG 0 (X a.2) λp=>C (a.2.getD p 0) λq=>C (SZ q) λr=>Z (r,I)
def KF(b:M)(d:J):V (J×J):=G (yi fu d) λe=>G (jl fu b e) λ(f,a)=>if a=0 then G (QK fu f) λ(g,h)=>Z ((g,(0:J)))else Z (((0:J),a))
def WV(e:J)(a:M)(b:J):V J:=G (KF fu a b) λ(d,f)=>Z d
def Zl(fu:K)(a:N M)(f:J->M->V J):((J×(N J))->V (N J))->(J×(N J))->V (N J):=λL (b,d)=>G ((if b<(X a:J)then Z ((a,(X a:J),I))else Z ((a,(X a:J),wL)):V ((N M)×J×v6))) λ(e,o,g)=>if g then zG b (X e) λh=>C (e.getD h (wL,[])) λi=>G (f b i) λj=>zG b (X d) λk=>C (d.set k j) λl=>E (b+1) λm=>L (m,l)else Z d
def jJ(a:N M)(d:J->M->V J):V (N J):=kv ((X a:J)) λb=>ck (8*b<=281474976710656)<|C (Nm b 0) λe=>G (zg (Zl fu a d) fu<|((0:J),e)) λf=>Z f
def lR(fu:K):((N J)->V (N J))->(N J)->V (N J):=λL a=>if 0<(X a:J)then E (((X a:J))-1) λd=>zG d (X a) λe=>C ((a.getD e 0)) λf=>if f=0 then E (((X a:J))-1) λg=>kv g λb=>ck (b<=X a)<|C (a.take b) λh=>L h else Z a else Z a
def Zt(b:N M)(a:J):V ((N J)×J):=if a<1 then Z (([],(1:J)))else G (jJ fu b<|λc f=>WV fu c f a) λd=>G (zg (lR fu) fu d) λe=>Z<|(e,(0:J))
def ki(d:J)(e:N J)(a:N (N J)):(J->V (Z2⊕Z2))->J->V (Z2⊕Z2):=λL b=>if b<(X a:J)then zG b (X a) λf=>C (a.getD f []) λg=>G (kz fu e g d) λ(h,j)=>if(X h:J)=1 then E (b+1) λi=>L i else Z (.inr ())else Z (.inl ())
def jZ(e:N M)(a:N (N J))(f:J):((J×(N J))->V ((N J)⊕Z2))->(J×(N J))->V ((N J)⊕Z2):=λL (b,g)=>G ((if b<(X a:J)then Z ((e,a,f,a,(X a:J),I))else Z ((e,a,f,a,(X a:J),wL)):V ((N M)×(N<|N J)×J×(N<|N J)×J×v6))) λ(l,h,i,j,t,m)=>if m then zG b (X j) λo=>C (j.getD o []) λd=>if(X l:J)<(X d:J)then Z (.inr ())else G (XL fu d i) λp=>if !p then Z (.inr ())else kv b λk=>ck (k<=X h)<|C (h.take k) λq=>G (zg (ki fu i d q) fu (0:J)) λr=>match r with
 |.inl _=>E (b+1) λs=>L (s,g)
 |.inr _=>Z (.inr ())else Z (.inl g)
def vC(a:N M)(e:N (N J))(b:J):V v6:=G (Zt fu a b) λ(h,o)=>if(X a:J)=0 then Z wL else if(X h:J)=(X a:J)then if(X a:J)<(X e:J)then Z wL else G (zg (jZ fu a e b) fu<|((0:J),h)) λj=>match j with
 |.inl d=>G (qu fu e b) λk=>E (((X d:J))-1) λl=>kv l λi=>ck (i<=X d)<|C (d.drop i) λf=>G (kE fu k f b) λ(g,p)=>G (Xq fu g d b) λm=>Z m
 |.inr _=>Z wL else Z wL
def YH(a:N M)(j:J):(((N M)×M×J×(N M)×(N M))->V ((N M)×M×(N M)×(N M)))->((N M)×M×J×(N M)×(N M))->V ((N M)×M×(N M)×(N M)):=λL (k,l,b,d,f)=>G ((if b<(X a:J)then Z ((j,a,(X a:J),I))else Z ((j,a,(X a:J),wL)):V (J×(N M)×J×v6))) λ(g,e,A,m)=>if m then zG b (X e) λo=>C (e.getD o (wL,[])) λp=>E (g+b) λq=>E (g+b) λr=>zG r (X d) λs=>C ((d.getD s (wL,[]))) λt=>zG g (X f) λu=>C ((f.getD u (wL,[]))) λv=>G (z8 fu v p) λw=>G (jv fu t w) λx=>zG q (X d) λy=>C (d.set y x) λh=>E (b+1) λi=>L (k,l,i,h,f)else Z (k,l,d,f)
def YR(d:N M)(i:M):((J×(N M)×(N M))->V ((N M)×(N M)))->(J×(N M)×(N M))->V ((N M)×(N M)):=λL (a,b,e)=>if 0<=a then E (a+((X d:J))) λj=>E (j-1) λk=>zG k (X b) λl=>C ((b.getD l (wL,[]))) λm=>G (jl fu m i) λ(o,t)=>zG a (X e) λp=>C (e.set p o) λq=>G (zg (YH fu d a) fu<|(d,i,(0:J),b,q)) λ(r,s,f,g)=>E (a-1) λh=>L (h,f,g)else Z (b,e)
def kq(k:N M)(g:N M)(a:M):V ((N M)×(N M)):=G (xn fu k a) λh=>E (((X h:J))-((X g:J))) λl=>E (l+1) λm=>C (max m (0:J)) λo=>kv o λi=>ck (32*i<=281474976710656)<|C (Nm i (wL,[])) λj=>E (((X j:J))-1) λp=>G (zg (YR fu g a) fu (p,h,j)) λ(b,d)=>G (xn fu d a) λe=>G (xn fu b a) λf=>Z (e,f)
def um(b:J)(d:M)(a:N M):V M:=if b<(X a:J)then zG b (X a) λe=>C (a.getD e (wL,[])) λf=>G (qL fu d f) λg=>Z g else Z d
def qs(a:N M)(b:N M):V (N M):=if(X a:J)<(X b:J)then G (zJ fu b<|λc h=>um fu c h a) λd=>G (zT fu d) λe=>Z e else G (zJ fu a<|λc h=>um fu c h b) λf=>G (zT fu f) λg=>Z g
def my(e:J)(a:N M)(g:N M)(h:J):((J×(N M)×M)->V (N M))->(J×(N M)×M)->V (N M):=λL (b,d,i)=>G ((if b<(X a:J)then Z ((a,e,g,h,e,a,(X a:J),I))else Z ((a,e,g,h,e,a,(X a:J),wL)):V ((N M)×J×(N M)×J×J×(N M)×J×v6))) λ(x,j,y,A,B,k,C,l)=>if l then zG b (X k) λm=>nm (k.getD m (wL,[])) λo=>E (j+b) λp=>E (j+b) λq=>zG q (X d) λr=>nm ((d.getD r (wL,[]))) λs=>G (z8 fu i o) λt=>G (qL fu s t) λu=>zG p (X d) λv=>nm (d.set v u) λf=>E (b+1) λw=>L (w,f,i)else Z d
def mF(a:N M)(f:N M):((J×(N M))->V (N M))->(J×(N M))->V (N M):=λL (b,g)=>G ((if b<(X a:J)then Z ((f,a,(X a:J),I))else Z ((f,a,(X a:J),wL)):V ((N M)×(N M)×J×v6))) λ(h,d,i,j)=>if j then zG b (X d) λk=>C (d.getD k (wL,[])) λl=>G (zg (my fu b h d i) fu<|((0:J),g,l)) λe=>E (b+1) λm=>L (m,e)else Z g
def xD(d:N M)(e:N M):V (N M):=E (((X d:J))+((X e:J))) λg=>kv g λf=>ck (32*f<=281474976710656)<|C (Nm f (wL,[])) λh=>G (zg (mF fu d e) fu<|((0:J),h)) λa=>G (zT fu a) λb=>Z b
def XX(d:J)(a:J):V M:=G (yi fu a) λb=>Z b
def u6(fu:K)(b:N J)(e:J->J->V M):((J×(N M))->V (N M))->(J×(N M))->V (N M):=λL (a,d)=>if a<(X b:J)then zG a (X b) λf=>C (b.getD f 0) λg=>G (e a g) λh=>zG a (X d) λi=>C (d.set i h) λj=>E (a+1) λk=>L (k,j)else Z d
def jF(a:N J)(d:J->J->V M):V (N M):=kv ((X a:J)) λb=>ck (32*b<=281474976710656)<|C (Nm b (wL,[])) λe=>G (zg (u6 fu a d) fu<|((0:J),e)) λf=>Z f
def ji(a:N J):V (N M):=G (jF fu a<|λc e=>XX fu c e) λb=>G (zT fu b) λd=>Z d
def Wo(a:N J):V (N M):=G (ji fu a) λb=>Z b
def VU(e:J)(a:M)(b:M):V M:=G (z8 fu a b) λd=>Z d
def qk(a:N M)(b:M):V (N M):=G (zJ fu a<|λc f=>VU fu c f b) λd=>G (zT fu d) λe=>Z e
def kF(a:N M)(b:N M):V (N M):=G (yi fu (-1:J)) λd=>G (qk fu b d) λe=>G (qs fu a e) λf=>Z f
def kt(f:xS (xS Zr))(G:xS Zr)(a:Zr):V (xS<|xS Zr):=zG 0 (4) λH=>nm (f.getD H []) λi=>zG 1 (4) λn=>nm (f.getD n []) λj=>zG 2 (4) λc=>nm (f.getD c []) λg=>zG 3 (4) λK=>nm (f.getD K []) λh=>bd (xD fu i j) λM=>bd (kF fu G M) λN=>bd (xn fu N a) λE=>bd (xD fu g E) λz=>bd (kq fu z j a) λ(P,Q)=>bd (xD fu h E) λR=>bd (xD fu P i) λS=>bd (qs fu R S) λU=>bd (qs fu i U) λk=>bd (xn fu k a) λb=>bd (qs fu j Q) λl=>bd (xn fu l a) λd=>bd (xD fu g b) λm=>bd (xD fu h d) λo=>bd (qs fu m o) λp=>bd (Wo fu [(1:J)]) λq=>bd (kF fu p q) λr=>bd (xn fu r a) λe=>bd (xD fu g e) λs=>bd (kq fu s d a) λ(t,u)=>bd (kF fu g u) λv=>bd (xn fu v a) λw=>bd (xD fu h e) λx=>bd (xD fu t b) λy=>bd (qs fu x y) λA=>bd (kF fu h A) λB=>bd (xn fu B a) λC=>Z [b,d,w,C]
def Zy(a:M×(M×M))(b:M)(d:M×(M×M)):V (M×(M×M)):=G (z8 fu b d.1) λe=>G (jv fu a.1 e) λf=>G (z8 fu b d.2.1) λg=>G (jv fu a.2.1 g) λh=>G (z8 fu b d.2.2) λi=>G (jv fu a.2.2 i) λj=>Z (f,h,j)
def Qn:(((M×(M×M))×(M×(M×M)))->V (M×(M×M)))->((M×(M×M))×(M×(M×M)))->V (M×(M×M)):=λL (b,a)=>G (xV fu a.1) λd=>if d=0 then Z b else G (Wi fu b.1 a.1) λ(e,g,h)=>G (Zy fu b e a) λf=>L (a,f)
def Vd(g:M)(h:M):V (M×M×M):=G (xj fu wL g.2) λi=>G (yi fu (1:J)) λj=>G (yi fu (0:J)) λk=>G (xj fu wL h.2) λl=>G (yi fu (0:J)) λm=>G (yi fu (1:J)) λo=>G (zg (Qn fu) fu<|((i,j,k),(l,m,o))) λa=>G ((G (xV fu g) λp=>if p<0 then G (YN fu a.2.1) λd=>C ((a.1,(d,a.2.2))) λq=>Z q else Z a:V (M×(M×M)))) λb=>G ((G (xV fu h) λr=>if r<0 then G (YN fu b.2.2) λe=>C ((b.1,(b.2.1,e))) λs=>Z s else Z b:V (M×(M×M)))) λf=>Z (f.1,f.2.1,f.2.2)
def Jd(a:N M)(b:M):V (N M):=E (((X a:J))-1) λd=>zG d (X a) λe=>C (a.getD e (wL,[])) λf=>G (Vd fu f b) λ(j,g,k)=>G (qk fu a g) λh=>G (xn fu h b) λi=>Z i
def Yo(g:N M)(h:J)(d:J):((J×(N<|N M))->V (N<|N M))->(J×(N<|N M))->V (N<|N M):=λL (e,a)=>if e<d then E ((2:J)*e) λi=>C (min i d) λf=>G (qN fu h f) λ(j,k)=>G (kt fu a g j) λb=>L (f,b)else Z a
def qq:wr->(xS Zr)->(xS<|xS J)->J->J->Zr->V (xS<|xS Zr)
 |0,_,_,_,_,_=>wF
 |fu+1,d,a,b,i,j=>if(X a:J)=1 then bd (Jd fu d j) λC=>Z [C]else ck ((2:J)≠0)<|zf (xcw ((X a:J)) (2:J)) λh=>zf (((X d:J))-1) λE=>kv E λu=>ck (u<=X d)<|nm (d.drop u) λG=>bd (Zt fu G b) λ(H,n)=>kv h λv=>ck (v<=X a)<|nm (a.take v) λz=>bd (qu fu z b) λc=>bd (kE fu c H b) λ(w,P)=>kv h λx=>ck (x<=X a)<|nm (a.drop x) λK=>bd (qu fu K b) λy=>bd (u7 fu w y b) λ(Q,k,l,R)=>bd (ji fu w) λm=>bd (ji fu y) λo=>bd (ji fu k) λp=>bd (ji fu l) λq=>bd (zg (Yo fu d b i) fu<|((1:J),[m,o,p,q])) λe=>zG 0 (4) λM=>kv h λA=>ck (A<=X a)<|nm (a.take A) λr=>bd (qq fu (e.getD M []) r b i j) λf=>zG 1 (4) λN=>kv h λB=>ck (B<=X a)<|nm (a.drop B) λs=>bd (qq fu (e.getD N []) s b i j) λg=>ck ((X f+X g)*24<=140737488355328)<|nm (f++g) λt=>Z t
def jD(h:N M)(a:N (N J))(b:J)(e:J):V ((N<|N M)×J):=G (qN fu b e) λ(f,g)=>G (zT fu h) λd=>if g=0 then if 65<(X d:J)then Z (([],(6:J)))else G (vC fu d a b) λi=>if !i then Z (([],(1:J)))else if(X a:J)=0 then Z (([],(0:J)))else G (xn fu d f) λj=>G (qq fu j a b e f) λk=>Z ((k,(0:J)))else Z ([],g)
def Jg(a:N M)(b:N M)(d:M):V ((N M)×J):=G (xD fu a b) λe=>G (XA fu e d) λ(f,g)=>Z (f,g)
def kM(a:M)(b:M):V J:=G (jv fu a b) λd=>G (xV fu d) λe=>Z e
def XO(e:M)(d:M):V (M×J):=G (jl fu e d) λ(a,b)=>if b=0 then G (qL fu a a) λf=>G (kM fu f d) λg=>if 0<g then G (jv fu a d) λh=>Z (h,b)else Z (a,b)else Z (a,b)
def W4(a:N M)(b:M):V ((N M)×J):=G (qQ fu a b<|λc f=>XO fu c f) λ(d,e)=>Z (d,e)
def pz:(((N K)×(N K))->V (N K))->((N K)×(N K))->V (N K):=λL (b,a)=>if 0<(X a:J)then G (UI fu b a) λ(e,d,f)=>L (a,d)else Z b
def Ju(a:M)(b:M):V M:=G (YC fu a.2) λd=>G (YC fu b.2) λe=>G (zg (pz fu) fu (d,e)) λf=>G (xj fu wL f) λg=>Z g
def Kx(b:N M):((J×(N M)×M×M)->V ((N M)×M×M))->(J×(N M)×M×M)->V ((N M)×M×M):=λL (d,a,e,f)=>G ((if d<(X b:J)then Z (((X b:J),I))else Z (((X b:J),wL)):V (J×v6))) λ(l,g)=>if g then zG d (X a) λh=>C ((a.getD h (wL,[]))) λi=>G (Ju fu f i) λj=>E (d+1) λk=>L (k,a,e,j)else Z (a,e,f)
def vR(e:N M):V M:=G (zT fu e) λd=>G (yi fu (0:J)) λf=>G (zg (Kx fu d) fu<|((0:J),d,(wL,[]),f)) λ(a,k,b)=>if 0<(X a:J)then E (((X a:J))-1) λg=>zG g (X a) λh=>C (((a.getD h (wL,[]))).1) λi=>if i then G (YN fu b) λj=>Z j else Z b else Z b
def J2(e:J)(a:M)(b:M):V M:=G (kU fu a b) λ(d,f)=>Z d
def xL(a:N M):V (N M):=G (vR fu a) λb=>G (zT fu a) λd=>G (zJ fu d<|λc f=>J2 fu c f b) λe=>Z e
def uE(e:N (N M))(b:N J)(f:M):(((N M)×J×(N J))->V ((N M)×(N J)))->((N M)×J×(N J))->V ((N M)×(N J)):=λL (g,d,a)=>G ((if d<(X b:J)then Z ((e,f,(X b:J),I))else Z ((e,f,(X b:J),wL)):V ((N<|N M)×M×J×v6))) λ(h,i,r,j)=>if j then zG d (X a) λk=>C ((a.getD k 0)) λl=>zG l (X h) λm=>C (h.getD m []) λo=>G (Jg fu g o i) λ(p,s)=>E (d+1) λq=>L (p,q,a)else Z (g,a)
def jV(a:N M)(g:N (N M))(d:N J)(e:M):V ((N M)×(N J)):=E (((X a:J))-1) λh=>kv h λf=>ck (f<=X a)<|C (a.drop f) λi=>G (zg (uE fu g d e) fu<|(i,(0:J),d)) λ(j,k)=>G (W4 fu j e) λ(l,m)=>G (xL fu l) λb=>Z (b,k)
def qA{X Y R:Type}(fu:K)(n c:J)(g:N J->X->V (N J×(X⊕Y)))(x:X)(xs:N J)(L:X->N J->J->J->J->J->J->V R)(E:X->J->J->N J->V R)(f:Y->N J->V R):V R:=G (g xs x) λr=>xfe (λd=>zf (n-1) λa=>G (zg (λL i=>if 0<=i then zG i (i7 r.1) λj=>C (r.1.getD j 0) λy=>zf (c-n) λe=>zf (e+i) λe=>if y=e then zf (i-1) λi=>L i else Z i else Z i) fu a) λi=>if i<0 then E d a i r.1 else zG i (i7 r.1) λj=>C (r.1.getD j 0) λy=>zf (y+1) λe=>zG i (i7 r.1) λj=>C (r.1.set j e) λxs=>zf (i+1) λb=>G (zg (λL (z:J×N J)=>if z.1<n then zf (z.1-1) λe=>zG e (i7 z.2) λj=>C (z.2.getD j 0) λy=>zf (y+1) λe=>zG z.1 (i7 z.2) λj=>C (z.2.set j e) λxs=>zf (z.1+1) λi=>L (i,xs)else Z z.2) fu (b,xs)) λxs=>L d xs b i e y a) (λy=>f y r.1) r.2
def vj{X Y:Type}(fu:K)(n b:J)(g:N J->X->V (N J×(X⊕Y)))(a:X):V (X⊕Y):=kv n λm=>ck (8*m<=281474976710656)<|C (Nm m 0) λxs=>G (zg (λL (z:N J×J)=>if z.2<(i7 xs:J)then zG z.2 (i7 z.1) λj=>C (z.1.set j z.2) λxs=>E (z.2+1) λi=>L (xs,i)else Z z.1) fu (xs,0)) λxs=>zg (λL (q:X×N J)=>qA fu n b g q.1 q.2 (λx xs _ _ _ _ _=>L (x,xs)) (λx _ _ _=>Z (.inl x)) λy _=>Z (.inr y)) fu (a,xs)
def K9(fu:K)(b:N J)(d:J):(J->V (Z2⊕J))->J->V (Z2⊕J):=λL a=>if a<(X b:J)then zG a (X b) λe=>C (b.getD e 0) λf=>if d=f then Z (.inr a)else E (a+1) λg=>L g else Z (.inl ())
def Xu(a:N J)(b:J):V J:=G (zg (K9 fu a b) fu (0:J)) λd=>match d with
 |.inl _=>Z (-1:J)
 |.inr e=>Z e
def qi(fu:K)(b:N J)(d:J):(J->V (Z2⊕J))->J->V (Z2⊕J):=λL a=>if a<(X b:J)then zG a (X b) λe=>C ((b.getD e 0)) λf=>if d=f then Z (.inr a)else E (a+1) λg=>L g else Z (.inl ())
def qX(a:N J)(b:J):V (J×(N J)):=G (zg (qi fu a b) fu (0:J)) λd=>match d with
 |.inl _=>Z<|((-1:J),a)
 |.inr e=>Z (e,a)
def ZT(a:N J)(b:J):V v6:=G (Xu fu a b) λd=>if 0<=d then Z I else Z wL
def wc(b:N J)(d:J):V (v6×(N J)):=G (qX fu b d) λ(e,a)=>if 0<=e then Z (I,a)else Z (wL,a)
def GU(a:N (N M))(e:N J):(((N<|N M)×J)->V (N<|N M))->((N<|N M)×J)->V (N<|N M):=λL (d,b)=>G ((if b<(X a:J)then Z ((e,a,(X a:J),I))else Z ((e,a,(X a:J),wL)):V ((N J)×(N<|N M)×J×v6))) λ(h,f,p,i)=>if i then zG b (X f) λj=>C (f.getD j []) λg=>G (ZT fu h b) λk=>if !k then ck ((X d+X ([g]))*24<=140737488355328)<|C (d++([g])) λl=>E (b+1) λm=>L (l,m)else E (b+1) λo=>L (d,o)else Z d
def uH(a:N (N M)):(((N<|N M)×J×(N J))->V ((N<|N M)×(N J)))->((N<|N M)×J×(N J))->V ((N<|N M)×(N J)):=λL (d,b,e)=>G ((if b<(X a:J)then Z ((a,(X a:J),I))else Z ((a,(X a:J),wL)):V ((N<|N M)×J×v6))) λ(f,p,i)=>if i then zG b (X f) λj=>C (f.getD j []) λg=>G (wc fu e b) λ(k,h)=>if !k then ck ((X d+X ([g]))*24<=140737488355328)<|C (d++([g])) λl=>E (b+1) λm=>L (l,m,h)else E (b+1) λo=>L (d,o,h)else Z (d,e)
def xN(a:N (N M))(b:N J):V ((N<|N M)×(N J)):=G (zg (uH fu a) fu<|([],(0:J),b)) λ(d,e)=>Z (d,e)
def q9(b:(v6×N K))(ys:N J)(y:N (v6×N K)×N (N<|v6×N K)×N (N<|v6×N K)):V (N J×((N (v6×N K)×N (N<|v6×N K)×N (N<|v6×N K))⊕(N (v6×N K)×N (N<|v6×N K)×N (N<|v6×N K)))):=G (jV fu y.1 y.2.1 ys b) λc=>G (wz fu y.1 c.1) λq=>if q.2=0 then if 1<(X c.1:J)then ck ((X y.2.2+1)*24<=140737488355328)<|C (y.2.2++[c.1]) λpr=>G (xN fu y.2.1 c.2) λw=>Z (w.2,.inr (q.1,w.1,pr))else Z (c.2,.inl y)else Z (c.2,.inl y)
def Yy(b:(v6×N K))(x:N (v6×N K)×N (N<|v6×N K)×N (N<|v6×N K)×J)(L:N (v6×N K)×N (N<|v6×N K)×N (N<|v6×N K)×J->V (N (v6×N K)×N (N<|v6×N K)×N (N<|v6×N K))):V (N (v6×N K)×N (N<|v6×N K)×N (N<|v6×N K)):=E (2*x.2.2.2) λd=>if d<=(X x.2.1:J)then G (vj fu x.2.2.2 (X x.2.1:J) (q9 fu b) (x.1,x.2.1,x.2.2.1)) λr=>xfe (λy=>E (x.2.2.2+1) λi=>L (y.1,y.2.1,y.2.2,i)) (λy=>L (y.1,y.2.1,y.2.2,x.2.2.2)) r else Z (x.1,x.2.1,x.2.2.1)
def Yg(f:N (v6×N K))(a:N (N<|v6×N K))(b:(v6×N K)):V (N<|N<|v6×N K):=G (zg (λL x=>Yy fu b x L) fu (f,a,[],1)) λx=>if 1<(X x.1:J)then G (xL fu x.1) λq=>ck ((X x.2.2+1)*24<=140737488355328)<|C (x.2.2++[q]) λpr=>Z pr else Z x.2.2
def dC(b:N M)(d:N M):(J->V (Z2⊕v6))->J->V (Z2⊕v6):=λL a=>if 0<=a then zG a (X b) λf=>C ((b.getD f (wL,[]))) λg=>zG a (X d) λh=>C ((d.getD h (wL,[]))) λi=>G (kM fu g i) λe=>if e=0 then E (a-1) λj=>L j else if e<0 then Z (.inr I)else Z (.inr wL)else Z (.inl ())
def ZS(d:N M)(e:N M):V v6:=G (zT fu d) λa=>G (zT fu e) λb=>if(X a:J)=(X b:J)then E (((X a:J))-1) λf=>G (zg (dC fu a b) fu f) λg=>match g with
 |.inl _=>Z wL
 |.inr h=>Z h else if(X a:J)<(X b:J)then Z I else Z wL
def j8(a:N M)(b:N M):V J:=G (ZS fu a b) λd=>if d then Z (-1:J)else G (ZS fu b a) λe=>if e then Z (1:J)else Z (0:J)
def W7(f:J)(g:M):((J×M×J×M)->V (J×M×M))->(J×M×J×M)->V (J×M×M):=λL (a,b,d,e)=>if d<f then G (z8 fu e g) λh=>E (d+1) λi=>L (a,b,i,h)else Z (a,b,e)
def Ux(g:M)(d:J):((M×M×M)->V M)->(M×M×M)->V M:=λL (e,a,f)=>G (qL fu a f) λh=>G (U3 fu h.2 (1:J)) λi=>G (xj fu wL i) λb=>G (kM fu b a) λj=>if j=0 then Z a else G (yi fu (1:J)) λk=>G (zg (W7 fu d b) fu<|(d,g,(0:J),k)) λ(p,l,m)=>G (kM fu m l) λo=>if o<=0 then L (e,b,f)else L (e,a,b)
def KP(b:M)(a:J):V (M×J):=if a<1 then Z (((wL,[]),(1:J)))else if 64<a then Z (((wL,[]),(1:J)))else G (xV fu b) λe=>if e<0 then Z (((wL,[]),(1:J)))else G (yi fu (0:J)) λf=>G (u5 fu b.2) λg=>ck (a≠0)<|E (xcw g a) λh=>E (h+1) λi=>C (min i (262144:J)) λj=>G (WE fu [(1:K)] j) λ(k,m)=>G (xj fu wL k) λl=>G (zg (Ux fu b a) fu<|((wL,[]),f,l)) λd=>Z<|(d,(0:J))
def ZP(b:N M):V J:=G (zT fu b) λa=>if(X a:J)=0 then Z (8:J)else if 65<(X a:J)then Z (6:J)else Z (0:J)
def fL(b:N M):((J×(N M)×M×M)->V ((N M)×M×M))->(J×(N M)×M×M)->V ((N M)×M×M):=λL (d,a,e,f)=>G ((if d<(X b:J)then Z (((X b:J),I))else Z (((X b:J),wL)):V (J×v6))) λ(m,h)=>if h then zG d (X a) λi=>C ((a.getD i (wL,[]))) λg=>G (z8 fu g g) λj=>G (qL fu f j) λk=>E (d+1) λl=>L (l,a,e,k)else Z (a,e,f)
def vo(a:N M):V (M×J):=G (ZP fu a) λb=>if b=0 then G (zT fu a) λd=>G (yi fu (-1:J)) λe=>G (zg (fL fu d) fu<|((0:J),d,(wL,[]),e)) λ(f,o,g)=>G (KP fu g (2:J)) λ(h,p)=>G (yi fu (1:J)) λi=>G (qL fu h i) λj=>E (((X f:J))-1) λk=>G (WE fu j.2 k) λ(l,q)=>G (jg fu (wL,l)) λm=>Z ((m,(0:J)))else Z (((wL,[]),b))
def Qj(d:J)(e:M):((J×M)->V J)->(J×M)->V J:=λL (a,b)=>G (kM fu b e) λf=>if f<=0 then G (yi fu d) λg=>G (z8 fu b g) λh=>E (a+1) λi=>L (i,h)else Z a
def W9(a:N M)(b:J):V J:=G (vo fu a) λ(d,m)=>G (yi fu (2:J)) λe=>E (((X a:J))-1) λf=>zG f (X a) λg=>C (a.getD g (wL,[])) λh=>G (z8 fu d h) λi=>G (z8 fu e i) λj=>G (yi fu b) λk=>G (zg (Qj fu b j) fu<|((1:J),k)) λl=>Z l
def QM(a:N M):V v6:=G (vo fu a) λ(b,k)=>G (yi fu (2:J)) λd=>E (((X a:J))-1) λe=>zG e (X a) λf=>C (a.getD f (wL,[])) λg=>G (z8 fu b g) λh=>G (z8 fu d h) λi=>G (u5 fu i.2) λj=>if 1000<j then Z I else Z wL
def WK(fu:K)(b:N J)(d:N J):(J->V (Z2⊕J))->J->V (Z2⊕J):=λL a=>if 0<=a then zG a (X b) λe=>C (b.getD e 0) λf=>zG a (X d) λg=>C (d.getD g 0) λh=>if f<h then Z (.inr (-1:J))else zG a (X b) λi=>C (b.getD i 0) λj=>zG a (X d) λk=>C (d.getD k 0) λl=>if l<j then Z (.inr (1:J))else E (a-1) λm=>L m else Z (.inl ())
def vH(a:N J)(b:N J):V J:=if(X a:J)=(X b:J)then E (((X a:J))-1) λd=>G (zg (WK fu a b) fu d) λe=>match e with
 |.inl _=>Z (0:J)
 |.inr f=>Z f else E (((X a:J))-((X b:J))) λg=>Z g
def kh(fu:K)(a:N J)(b:J):V v6:=zG b (X a) λd=>C (a.getD d 0) λe=>if e=0 then Z wL else Z I
def eK(b:N J)(e:J):((J×(N J))->V (N J))->(J×(N J))->V (N J):=λL (a,d)=>if a<(X b:J)then zG a (X b) λf=>C (b.getD f 0) λg=>G (Ze fu g e) λh=>zG a (X d) λi=>C (d.set i h) λj=>E (a+1) λk=>L (k,j)else Z d
def Xm(a:N J)(d:J):V (N J):=kv ((X a:J)) λb=>ck (8*b<=281474976710656)<|C (Nm b 0) λe=>G (zg (eK fu a d) fu<|((0:J),e)) λf=>Z f
def ek(fu:K)(a:N (N J)):(J->V (Z2⊕Z2))->J->V (Z2⊕Z2):=λL b=>G ((if b<(X a:J)then Z ((a,a,(X a:J),I))else Z ((a,a,(X a:J),wL)):V ((N<|N J)×(N<|N J)×J×v6))) λ(d,e,l,g)=>if g then zG b (X e) λh=>C (e.getD h []) λf=>if 64<(X f:J)then Z (.inr ())else zG 0 (X d) λi=>C (d.getD i []) λj=>if(X f:J)=(X j:J)then E (b+1) λk=>L k else Z (.inr ())else Z (.inl ())
def XB(a:N (N J))(b:J):V J:=G (w7 fu b) λd=>if d=0 then if 64<(X a:J)then Z (1:J)else G (zg (ek fu a) fu (0:J)) λe=>match e with
 |.inl _=>Z (0:J)
 |.inr _=>Z (1:J)else Z (1:J)
def qj(b:N (N J))(ix:N K)(r:K)(a p:J)(lo n:K):V (N<|N J):=G (zg (λL (x:((N (N J)×N K)×K×K)×(K×K)×K×J)=>if x.2.2.2<(n:J)then zG x.2.2.2 x.2.1.2 λj=>C (x.1.1.2.getD (x.2.1.1+j) 0) λq=>zG a (X (x.1.1.1.getD q [])) λj=>C ((x.1.1.1.getD q []).getD j 0) λy=>G (zg (λL (z:((N (N J)×N K)×K×K)×(K×K)×K×K×K×J)=>if z.2.2.2.2.2<(X (x.1.1.1.getD x.2.2.1 []):J)then zG z.2.2.2.2.2 (X (z.1.1.1.getD z.2.2.2.1 [])) λj=>C ((z.1.1.1.getD z.2.2.2.1 []).getD j 0) λv=>zG z.2.2.2.2.2 (X (z.1.1.1.getD z.2.2.2.2.1 [])) λj=>C ((z.1.1.1.getD z.2.2.2.2.1 []).getD j 0) λu=>E (p-y) λe=>E (e*v) λe=>E (u+e) λe=>ck (p≠0)<|C (xbE e p) λe=>zG z.2.2.2.2.2 (X (z.1.1.1.getD z.2.2.2.2.1 [])) λj=>C (z.1.1.1.set z.2.2.2.2.1<|(z.1.1.1.getD z.2.2.2.2.1 []).set j e) λc=>E (z.2.2.2.2.2+1) λi=>L (((c,z.1.1.2),z.1.2),z.2.1,z.2.2.1,z.2.2.2.1,z.2.2.2.2.1,i)else Z (z.1,z.2.1,z.2.2.1)) fu (x.1,x.2.1,x.2.2.1,x.2.2.1,q,0)) λz=>E (x.2.2.2+1) λi=>L (z.1,z.2.1,z.2.2,i)else Z x.1) fu (((b,ix),lo,n),(lo,n),r,0)) λx=>ck (x.2.1=lo/\x.2.2=n/\x.1.2=ix)<|some x.1.1
def vQ(fu:K)(b:N (N J))(d:(N J)->V v6):(J->V (Z2⊕J))->J->V (Z2⊕J):=λL a=>if a<(X b:J)then zG a (X b) λe=>C (b.getD e []) λf=>G (d f) λg=>if g then Z (.inr a)else E (a+1) λh=>L h else Z (.inl ())
def yU(a:N (N J))(b:(N J)->V v6):V J:=G (zg (vQ fu a b) fu (0:J)) λd=>match d with
 |.inl _=>Z (-1:J)
 |.inr e=>Z e
def Zg(g:N (N J))(p:J):V (N (N J)×J):=G (XB fu g p) λe=>if e=0 then G (zg (λL (x:(N (N J)×N K)×J)=>if x.2<(X g:J)then zG x.2 (X g) λj=>C (g.getD j []) λy=>G (Xm fu y p) λr=>ck ((X x.1.2+1)*24<=140737488355328)<|C (x.1.1++[r]) λl=>C (x.1.2++[X x.1.1]) λn=>E (x.2+1) λi=>L ((l,n),i)else Z x.1) fu (([],[]),0)) λx=>G (zg (λL (x:(N (N J)×N K)×J×J)=>if x.2.1<(X x.1.2:J)then zG 0 (X x.1.2) λj=>C (x.1.2.getD j 0) λr=>if x.2.2<(X (x.1.1.getD r []):J)then kv x.2.1 λj=>ck (j<=X x.1.2)<|G (yU fu (xdu (X x.1.2-j)<|xdI j<|x.1.2.map λr=>x.1.1.getD r []) λz=>kh fu z x.2.2) λi=>if i<0 then E (x.2.2+1) λc=>L (x.1,x.2.1,c)else E (x.2.1+i) λa=>E (x.2.1+i) λb=>zG b (X x.1.2) λj=>C (x.1.2.getD j 0) λd=>zG x.2.1 (X x.1.2) λj=>C (x.1.2.getD j 0) λf=>zG x.2.1 (X x.1.2) λj=>C (x.1.2.set j d) λix=>zG a (X ix) λj=>C (ix.set j f) λix=>zG x.2.1 (X ix) λj=>C (ix.getD j 0) λr=>zG x.2.2 (X (x.1.1.getD r [])) λj=>C ((x.1.1.getD r []).getD j 0) λy=>G (Vr fu y p) λq=>zG x.2.1 (X ix) λj=>C (ix.getD j 0) λr=>G (zg (λL (z:(N (N J)×N K)×K×J)=>if z.2.2<(X (x.1.1.getD r []):J)then zG z.2.2 (X (z.1.1.getD z.2.1 [])) λj=>C ((z.1.1.getD z.2.1 []).getD j 0) λy=>zG x.2.1 (X z.1.2) λj=>C (z.1.2.getD j 0) λr=>E (y*q.1) λe=>ck (p≠0)<|C (xbE e p) λe=>zG z.2.2 (X (z.1.1.getD r [])) λj=>C (z.1.1.set r<|(z.1.1.getD r []).set j e) λh=>E (z.2.2+1) λi=>L ((h,z.1.2),z.2.1,i)else Z z.1) fu ((x.1.1,ix),r,0)) λm=>zG x.2.1 (X m.2) λj=>C (m.2.getD j 0) λr=>kv x.2.1 λj=>ck (j<=X m.2)<|G (qj fu m.1 m.2 r x.2.2 p 0 j) λh=>zG x.2.1 (X m.2) λj=>C (m.2.getD j 0) λr=>E (x.2.1+1) λe=>kv e λj=>ck (j<=X m.2)<|G (qj fu h m.2 r x.2.2 p j<|X m.2-j) λh=>E (x.2.1+1) λk=>E (x.2.2+1) λc=>L ((h,m.2),k,c)else Z (x.1,x.2.1)else Z (x.1,x.2.1)) fu (x,0,0)) λx=>kv x.2 λj=>ck (j<=X (x.1.2.map λr=>x.1.1.getD r []))<|C (xdu j<|x.1.2.map λr=>x.1.1.getD r []) λys=>Z (ys,0)else Z ([],e)
def Yd(fu:K)(a:J):V v6:=if a=0 then Z wL else Z I
def w8(fu:K)(b:N J)(d:J->V v6):(J->V (Z2⊕J))->J->V (Z2⊕J):=λL a=>if a<(X b:J)then zG a (X b) λe=>C (b.getD e 0) λf=>G (d f) λg=>if g then Z (.inr a)else E (a+1) λh=>L h else Z (.inl ())
def xp(a:N J)(b:J->V v6):V J:=G (zg (w8 fu a b) fu (0:J)) λd=>match d with
 |.inl _=>Z (-1:J)
 |.inr e=>Z e
def VJ(a:N J):V J:=G (xp fu a<|λc=>Yd fu c) λb=>Z b
def jw(a:N J)(b:J):V v6:=G (VJ fu a) λd=>if d=b then Z I else Z wL
def xR(a:N (N J))(b:(N J)->V v6):V v6:=G (yU fu a b) λd=>if 0<=d then Z I else Z wL
def Uv(d:J)(i:J)(j:J)(a:N (N J))(k:J):((J×(N<|N J)×(N J))->V ((N<|N J)×(N J)))->(J×(N<|N J)×(N J))->V ((N<|N J)×(N J)):=λL (e,l,f)=>G ((if e<(X a:J)then Z ((i,j,a,d,k,d,a,(X a:J),I))else Z ((i,j,a,d,k,d,a,(X a:J),wL)):V (J×J×(N<|N J)×J×J×J×(N<|N J)×J×v6))) λ(A,m,B,o,C,E,b,p,q)=>if q then zG e (X b) λr=>nm (b.getD r []) λg=>G (VJ fu g) λs=>zG o (X g) λt=>nm (g.getD t 0) λu=>zf (0-u) λv=>G (Ze fu v m) λw=>zG s (X f) λx=>nm (f.set x w) λh=>zf (e+1) λy=>L (y,l,h)else Z (l,f)
def mi(b:J)(h:J)(i:N (N J)):(((N<|N J)×J)->V (N<|N J))->((N<|N J)×J)->V (N<|N J):=λL (f,a)=>G ((if a<b then Z (b,h,i,b,I)else Z (b,h,i,b,wL):V (J×J×(N<|N J)×J×v6))) λ(j,o,k,p,q)=>if q then G (xR fu k<|λc=>jw fu c a) λr=>if r then E (a+1) λs=>L (f,s)else kv j λl=>ck (8*l<=281474976710656)<|C (Nm l 0) λm=>zG a (X m) λt=>C (m.set t (1:J)) λu=>G (zg (Uv fu a j o k p) fu<|((0:J),f,u)) λ(d,e)=>ck ((X d+X ([e]))*24<=140737488355328)<|C (d++([e])) λg=>E (a+1) λv=>L (g,v)else Z f
def VR(a:N (N J))(b:J)(d:J):V ((N<|N J)×J):=G ((G (XB fu a d) λf=>if f=0 then if b<0 then Z (.inr ())else if 64<b then Z (.inr ())else if 0<(X a:J)then zG 0 (X a) λg=>C (a.getD g []) λh=>if(X h:J)=b then Z (.inl ())else Z (.inr ())else Z (.inl ())else Z (.inr ()):V (Z2⊕Z2))) λi=>match i with
 |.inl _=>G (Zg fu a d) λ(j,k)=>G (zg (mi fu b d j) fu<|([],(0:J))) λe=>Z<|(e,(0:J))
 |.inr _=>Z<|([],(1:J))
def kG(e:N J)(f:N J)(a:J):V ((N J)×(N J)×J):=G (w7 fu a) λb=>if b=0 then G (yg fu f a) λd=>if(X d:J)=0 then Z (([],[],(3:J)))else G (yg fu e a) λg=>G (xF fu g d a) λ(h,i)=>Z ((h,i,(0:J)))else Z ([],[],b)
def Wh(i:M)(d:J)(j:N J):(((N J)×(N J)×J)->V (N J))->((N J)×(N J)×J)->V (N J):=λL (e,f,a)=>if 0<=a then G (wQ fu e e d) λl=>G (xF fu l j d) λ(m,b)=>ck ((64:J)≠0)<|E (xcw a (64:J)) λo=>zG o (X i.2) λp=>C (i.2.getD p 0) λq=>ck ((64:J)≠0)<|C (xbE a (64:J)) λk=>ck (0<=k)<|C (q/2^(min (k:J).toNat 64)) λr=>C (r &&& ((1:K))) λs=>if(s:J)=(((1:K):K):J)then G (wQ fu b f d) λg=>G (xF fu g j d) λ(t,h)=>E (a-1) λu=>L (h,f,u)else E (a-1) λv=>L (b,f,v)else Z e
def Zp(f:N J)(d:M)(g:N J)(a:J):V ((N J)×J):=G (w7 fu a) λh=>if h=0 then G (xV fu d) λi=>if i<0 then Z (([],(1:J)))else G (yg fu g a) λb=>if(X b:J)=0 then Z (([],(3:J)))else G (xF fu [(1:J)] b a) λ(p,j)=>G (yg fu f a) λk=>G (xF fu k b a) λ(q,l)=>G (u5 fu d.2) λm=>E (m-1) λo=>G (zg (Wh fu d a b) fu (j,l,o)) λe=>Z ((e,(0:J)))else Z (([],(1:J)))
def XJ(f:N J)(p:J):V (N<|N J):=E ((X f:J)-1) λn=>kv n λm=>ck (24*m<=281474976710656)<|C (Nm m 0) λix=>G (zg (λL (x:(N (N J)×N K)×J)=>if x.2<(X ix:J)then kv n λm=>ck (8*m<=281474976710656)<|C (Nm m 0) λys=>zG x.2 (X x.1.2) λj=>C (x.1.1++[ys]) λb=>C (x.1.2.set j (X x.1.1)) λix=>E (x.2+1) λi=>L ((b,ix),i)else Z x.1) fu (([[]],ix),0)) λx=>G (yi fu p) λz=>G (Zp fu [0,1] z f p) λq=>G (zg (λL (x:(N (N J)×N K)×N J×N J×J)=>if x.2.2.2<n then G (zg (λL (y:(N (N J)×N K)×J)=>if y.2<(X x.2.1:J)then zG y.2 (X x.2.1) λj=>C (x.2.1.getD j 0) λv=>zG y.2 (X y.1.2) λj=>C (y.1.2.getD j 0) λr=>zG x.2.2.2 (X (y.1.1.getD r [])) λj=>C (y.1.1.set r<|(y.1.1.getD r []).set j v) λa=>E (y.2+1) λi=>L ((a,y.1.2),i)else Z y.1) fu (x.1,0)) λy=>zG x.2.2.2 (X y.2) λj=>C (y.2.getD j 0) λr=>zG x.2.2.2 (X (y.1.getD r [])) λj=>C ((y.1.getD r []).getD j 0) λv=>E (v-1) λe=>zG x.2.2.2 (X (y.1.getD r [])) λj=>C (y.1.set r<|(y.1.getD r []).set j e) λa=>G (kE fu x.2.1 x.2.2.1 p) λu=>G (kG fu u.1 f p) λw=>E (x.2.2.2+1) λi=>L ((a,y.2),w.2.1,x.2.2.1,i)else Z x.1) fu (x,[1],q.1,0)) λx=>G (VR fu (x.2.map λr=>x.1.getD r []) n p) λr=>Z r.1
def iC(a:N J)(b:N J)(d:J):V (N J):=G (kG fu a b d) λ(e,f,g)=>Z e
def aw(a:N J)(b:N J)(d:J):V (N J):=G (kz fu a b d) λ(e,f)=>Z e
def Yr(b:J)(a:N J)(d:J):V J:=if b<(X a:J)then zG b (X a) λe=>C (a.getD e 0) λf=>G (Ze fu f d) λg=>Z g else E (b-((X a:J))) λh=>Z h
def KY(d:N J)(e:N J)(a:J):V ((N J)×J):=G (w7 fu a) λb=>if b=0 then G (yg fu d a) λf=>G (yg fu e a) λg=>G (Y6 fu f g (1:J) a) λh=>Z ((h,(0:J)))else Z ([],b)
def QT(d:N J)(e:J)(f:N J)(a:J):V (N J):=G (KY fu d [e] a) λ(b,l)=>if 2<a then E (a-1) λg=>ck ((2:J)≠0)<|E (xcw g (2:J)) λh=>G (yi fu h) λi=>G (Zp fu b i f a) λ(j,m)=>G (VC fu j [(1:J)] a) λ(k,o)=>Z k else Z b
def Qb(v:J)(w:xS J)(h:xS (xS J))(e:J)(k:xS J)(l:J)(i:J)(m:xS (xS J))(o:J)(j:xS J):(((xS<|xS J)×J)->V ((xS<|xS J)⊕(xS<|xS J)))->((xS<|xS J)×J)->V ((xS<|xS J)⊕(xS<|xS J)):=λL (a,d)=>if d<(X a:J)then if(X a:J)=(X h:J)then Z (.inl a)else bd (Yr fu i w v) λx=>zG d (X a) λy=>nm ((a.getD y [])) λA=>bd (QT fu j x A e) λp=>zG d (X a) λB=>nm ((a.getD B [])) λq=>bd (aw fu p q e) λb=>bd ((if 1<(X b:J)then zG d (X a) λC=>nm ((a.getD C [])) λr=>if(X b:J)<(X r:J)then Z (h,e,k,i,j,m,o,l,I)else Z (h,e,k,i,j,m,o,l,wL)else Z (h,e,k,i,j,m,o,l,wL):V ((xS<|xS J)×J×(xS J)×J×(xS J)×(xS<|xS J)×J×J×v6))) λ(E,s,G,P,H,c,Q,R,n)=>if n then zG d (X a) λK=>nm ((a.getD K [])) λt=>bd (iC fu t b s) λf=>ck ((X a+X ([f]))*24<=140737488355328)<|nm (a++([f])) λg=>zG d (X g) λM=>nm (g.set M b) λu=>zf (d+1) λN=>L (u,N)else zf (d+1) λz=>L (a,z)else Z (.inr a)
def Qg(l:J)(m:N J)(j:J)(a:N (N J)):(((N<|N J)×J×(N J)×(N<|N J)×J)->V ((N<|N J)⊕((N<|N J)×J×(N J)×(N<|N J))))->((N<|N J)×J×(N J)×(N<|N J)×J)->V ((N<|N J)⊕((N<|N J)×J×(N J)×(N<|N J))):=λL (d,e,f,k,b)=>G ((if b<(X a:J)then Z ((j,a,(X a:J),I))else Z ((j,a,(X a:J),wL)):V (J×(N<|N J)×J×v6))) λ(o,g,p,q)=>if q then zG b (X g) λr=>C (g.getD r []) λs=>G (zg (Qb fu l m d e f b o g p s) fu<|(k,(0:J))) λt=>match t with
 |.inl h=>Z (.inl h)
 |.inr i=>E (b+1) λu=>L (d,e,f,i,u)else Z (.inr (d,e,f,k))
def Qh(a:N (N J))(b:J)(d:N J):(((N<|N J)×J)->V (N<|N J))->((N<|N J)×J)->V (N<|N J):=λL (h,e)=>E (b+((X d:J))) λj=>if e<j then kv (1:J) λi=>ck (i<=X a)<|C (a.drop i) λk=>G (zg (Qg fu b d e k) fu<|(a,b,d,h,(0:J))) λl=>match l with
 |.inl f=>Z f
 |.inr (m,o,p,g)=>E (e+1) λq=>L (g,q)else Z h
def WX(b:N J)(d:N (N J))(e:J)(f:N J):V (N<|N J):=G (zg (Qh fu d e f) fu<|([b],(0:J))) λa=>Z a
def vA(e:N J)(b:J):V ((N J)×J):=G (w7 fu b) λd=>if d=0 then G (yg fu e b) λa=>if(X a:J)=0 then Z (([],(0:J)))else E (((X a:J))-1) λf=>zG f (X a) λg=>C ((a.getD g 0)) λh=>G (qK fu a h b) λi=>Z ((i,(0:J)))else Z ([],d)
def aD(d:N J)(e:J):V ((N J)×J):=G (vA fu d e) λ(a,b)=>if b=0 then if(X a:J)=0 then Z (([],(8:J)))else if 65<(X a:J)then Z (([],(6:J)))else Z ((a,(0:J)))else Z ([],b)
def cG(fu:K)(f:J)(e:N J):(((N J)×J×(N J))->V (N J))->((N J)×J×(N J))->V (N J):=λL (b,a,d)=>G ((if a<(X e:J)then Z ((f,(X e:J),I))else Z ((f,(X e:J),wL)):V (J×J×v6))) λ(g,q,i)=>if i then zG a (X d) λj=>C ((d.getD j 0)) λk=>if 0<a then ck (g≠0)<|C (xbE a g) λl=>E (l*k) λh=>ck ((X b+X ([h]))*8<=140737488355328)<|C (b++([h])) λm=>E (a+1) λo=>L (m,o,d)else E (a+1) λp=>L (b,p,d)else Z b
def W5(e:N J)(a:J):V ((N J)×J):=G (w7 fu a) λb=>if b=0 then G (yg fu e a) λd=>G (zg (cG fu a d) fu<|([],(0:J),d)) λf=>G (yg fu f a) λg=>Z ((g,(0:J)))else Z ([],b)
def Xn(d:N J)(e:J):V ((N J)×J):=G (vA fu d e) λ(a,b)=>if b=0 then if(X a:J)=0 then Z (([],(8:J)))else Z (a,b)else Z (a,b)
def uw(e:N J)(a:J):V (v6×J):=G (Xn fu e a) λ(b,d)=>if d=0 then G (W5 fu b a) λ(f,h)=>G (kz fu b f a) λ(g,i)=>if(X g:J)=1 then Z ((I,(0:J)))else Z ((wL,(0:J)))else Z (wL,d)
def ux(e:N J)(a:J):V ((N J)×J):=G (aD fu e a) λ(b,d)=>if d=0 then G (uw fu b a) λ(f,g)=>if !f then Z (([],(1:J)))else Z ((b,(0:J)))else Z ([],d)
def ui(a:K):V J:=G (xW fu a) λb=>Z b
def uU(fu:K)(g:(N J)->(N J)->V J):((J×J×J×(N<|N J))->V (J×J×(N<|N J)))->(J×J×J×(N<|N J))->V (J×J×(N<|N J)):=λL (d,e,b,a)=>if d<b then zG b (X a) λh=>C ((a.getD h [])) λi=>E (b-1) λj=>zG j (X a) λk=>C ((a.getD k [])) λl=>G (g i l) λm=>if m<0 then E (b-1) λo=>E (b-1) λp=>zG p (X a) λq=>C ((a.getD q [])) λr=>zG b (X a) λs=>C ((a.getD s [])) λt=>zG b (X a) λu=>C (a.set u r) λf=>zG o (X f) λv=>C (f.set v t) λw=>E (b-1) λx=>L (d,e,x,w)else Z (d,e,a)else Z (d,e,a)
def Zn(e:J)(b:J)(f:(N J)->(N J)->V J):((J×(N<|N J))->V (N<|N J))->(J×(N<|N J))->V (N<|N J):=λL (a,d)=>if a<b then G (zg (uU fu f) fu (e,b,a,d)) λ(i,j,g)=>E (a+1) λh=>L (h,g)else Z d
def vY(d:N (N J))(b:J)(e:J)(f:(N J)->(N J)->V J):V (N<|N J):=E (b+1) λg=>G (zg (Zn fu b e f) fu (g,d)) λa=>Z a
def jt(d:(N J)->(N J)->V J):((J×J×J×(N<|N J))->V (N<|N J))->(J×J×J×(N<|N J))->V (N<|N J):=λL (a,b,e,f)=>E (b-a) λg=>if g<=12 then G (vY fu f a b d) λh=>Z h else if e=0 then wF else wF
def kg:K->(N<|N J)->J->J->J->((N J)->(N J)->V J)->V (N<|N J)
 |0,_,_,_,_,_=>wF
 |fu+1,a,b,d,e,f=>G (zg (jt fu f) fu (b,d,e,a)) λg=>Z g
def wj(a:N (N J))(b:(N J)->(N J)->V J):V (N<|N J):=C (sA<|(X a:J)) λd=>G (ui fu d) λe=>G (kg fu a (0:J) ((X a:J)) e b) λf=>Z f
def Xr(g:N J)(a:J)(b:N J):V ((N<|N J)×J):=G (ux fu g a) λ(d,e)=>if e=0 then if(X d:J)=1 then Z ([],e)else G (XJ fu d a) λh=>C (min ((X b:J)) (64:J)) λi=>kv i λf=>ck (f<=X b)<|C (b.take f) λj=>G (WX fu d h a j) λk=>G (wj fu k<|λc m=>vH fu c m) λl=>Z ((l,(0:J)))else Z ([],e)
def Kg:(J->V J)->J->V J:=λL a=>G (uQ fu a) λb=>if !b then E (a+1) λd=>L d else Z a
def wI(a:J):V (J×J):=if 65521<=a then Z (((0:J),(5:J)))else C (max a (1:J)) λb=>E (b+1) λd=>G (zg (Kg fu) fu d) λe=>Z<|(e,(0:J))
def QQ(a:N M)(b:J):V (v6×J):=G (vo fu a) λ(i,d)=>if d=0 then G (uQ fu b) λf=>if !f then Z ((wL,(0:J)))else G (Zt fu a b) λ(e,j)=>G (zT fu a) λg=>if(X e:J)=(X g:J)then G (uw fu e b) λ(h,k)=>Z ((h,(0:J)))else Z ((wL,(0:J)))else Z (wL,d)
def JU(m:N M)(o:N J):((J×J×(N<|N J)×J×J)->V (J×(N<|N J)))->(J×J×(N<|N J)×J×J)->V (J×(N<|N J)):=λL (b,e,d,a,p)=>if p=0 then if e<5 then G (QQ fu m a) λ(q,v)=>if !q then G (wI fu a) λ(r,s)=>L (b,e,d,r,s)else E (e+1) λf=>G (Zt fu m a) λ(t,w)=>G (Xr fu t a o) λ(g,x)=>if b=0 then G (wI fu a) λ(u,h)=>L (a,f,g,u,h)else if(X g:J)<(X d:J)then G (wI fu a) λ(i,j)=>L (a,f,g,i,j)else G (wI fu a) λ(k,l)=>L (b,f,d,k,l)else Z (b,d)else Z (b,d)
def Jf(a:N M)(b:N J):V (J×(N<|N J)):=G (wI fu (1:J)) λ(d,e)=>G (zg (JU fu a b) fu<|((0:J),(0:J),[],d,e)) λ(f,g)=>Z (f,g)
def tn(a:J):((J×M×M)->V (M×M))->(J×M×M)->V (M×M):=λL (b,d,e)=>G ((if b<a then Z (a,a,I)else Z (a,a,wL):V (J×J×v6))) λ(f,q,g)=>if g then E (f+b) λh=>E (h+1) λi=>G (yi fu i) λj=>G (z8 fu e j) λk=>E (b+1) λl=>G (yi fu l) λm=>G (kU fu k m) λ(o,r)=>E (b+1) λp=>L (p,d,o)else Z (d,e)
def ey(a:J):V M:=G (yi fu (1:J)) λb=>G (zg (tn fu a) fu<|((0:J),(wL,[]),b)) λ(e,d)=>Z d
def BH:((J×M×M)->V M)->(J×M×M)->V M:=λL (b,a,d)=>if 0<b then C (gi b (1:J)) λe=>if e=1 then G (z8 fu d a) λf=>G (z8 fu a a) λg=>C (xeP b<|2^(min (((1:K)):J).toNat 64)) λh=>L (h,g,f)else G (z8 fu a a) λi=>C (xeP b<|2^(min (((1:K)):J).toNat 64)) λj=>L (j,i,d)else Z d
def Yh(a:M)(b:J):V M:=G (yi fu (1:J)) λd=>G (zg (BH fu) fu (b,a,d)) λe=>Z e
def Bq(a:N M)(d:N M):((J×M×M)->V (M×M))->(J×M×M)->V (M×M):=λL (b,e,f)=>G ((if b<(X a:J)then Z ((d,a,(X a:J),I))else Z ((d,a,(X a:J),wL)):V ((N M)×(N M)×J×v6))) λ(g,h,r,i)=>if i then zG b (X h) λj=>C (h.getD j (wL,[])) λk=>zG b (X g) λl=>C (g.getD l (wL,[])) λm=>G (z8 fu k m) λo=>G (qL fu f o) λp=>E (b+1) λq=>L (q,e,p)else Z (e,f)
def mr(a:N M)(b:N M):V M:=G (yi fu (0:J)) λd=>G (zg (Bq fu a b) fu<|((0:J),(wL,[]),d)) λ(f,e)=>Z e
def lj(a:N M)(b:N M):V (M×J):=if(X a:J)=(X b:J)then G (mr fu a b) λd=>Z ((d,(0:J)))else Z (((wL,[]),(1:J)))
def fi(a:N M):V M:=G (lj fu a a) λ(b,d)=>Z b
def Ep(f:M)(a:M):((J×M)->V (Z2⊕J))->(J×M)->V (Z2⊕J):=λL (b,e)=>if b<=1000 then G (kM fu e f) λg=>if 0<g then Z (.inr b)else G (z8 fu e a) λd=>E (b+1) λh=>L (h,d)else Z (.inl ())
def oq(g:N M)(h:J)(d:J):V (J×J):=G (vo fu g) λ(A,i)=>if i=0 then G (xL fu g) λj=>E (((X j:J))-1) λa=>G (uQ fu h) λk=>if !k then Z (((0:J),(1:J)))else if d<1 then Z (((0:J),(1:J)))else if a<d then Z (((0:J),(1:J)))else E (a-1) λe=>G (yi fu (2:J)) λl=>E (e*a) λm=>G (Yh fu l m) λo=>G (ey fu e) λp=>G (Yh fu p a) λq=>G (fi fu j) λr=>E (e+a) λs=>G (Yh fu r s) λt=>G (z8 fu q t) λu=>G (z8 fu o u) λv=>G (yi fu h) λf=>E ((2:J)*d) λw=>G (Yh fu f w) λb=>G (zg (Ep fu v b) fu<|((1:J),b)) λx=>match x with
 |.inl _=>Z<|((0:J),(6:J))
 |.inr y=>Z ((y,(0:J)))else Z (((0:J),i))
def AV(a:N J)(b:N J)(d:J):V v6:=G (kG fu b a d) λ(f,e,g)=>if(X e:J)=0 then Z I else Z wL
def Qp(e:J):(((N M)×(N<|N J))->V ((N M)×(N<|N J)))->((N M)×(N<|N J))->V ((N M)×(N<|N J)):=λL (b,a)=>if 12<(X a:J)then zG 0 (X a) λf=>C (a.getD f []) λg=>E (((X g:J))-1) λh=>G (oq fu b e h) λ(i,j)=>if j=0 then G (jD fu b a e i) λ(d,l)=>if(X d:J)=0 then Z (b,a)else zG 0 (X d) λk=>C ((d.getD k [])) λm=>wF else Z (b,a)else Z (b,a)
def WQ(a:N M)(b:N (N J))(d:J):V ((N<|N M)×(N M)×(N<|N J)):=G (zg (Qp fu d) fu (a,b)) λ(e,f)=>Z ([],e,f)
def kZ(fu:K)(g:(N M)->(N M)->V J):((J×J×J×(N<|N M))->V (J×J×(N<|N M)))->(J×J×J×(N<|N M))->V (J×J×(N<|N M)):=λL (d,e,b,a)=>if d<b then zG b (X a) λh=>C ((a.getD h [])) λi=>E (b-1) λj=>zG j (X a) λk=>C ((a.getD k [])) λl=>G (g i l) λm=>if m<0 then E (b-1) λo=>E (b-1) λp=>zG p (X a) λq=>C ((a.getD q [])) λr=>zG b (X a) λs=>C ((a.getD s [])) λt=>zG b (X a) λu=>C (a.set u r) λf=>zG o (X f) λv=>C (f.set v t) λw=>E (b-1) λx=>L (d,e,x,w)else Z (d,e,a)else Z (d,e,a)
def kN(e:J)(b:J)(f:(N M)->(N M)->V J):((J×(N<|N M))->V (N<|N M))->(J×(N<|N M))->V (N<|N M):=λL (a,d)=>if a<b then G (zg (kZ fu f) fu (e,b,a,d)) λ(i,j,g)=>E (a+1) λh=>L (h,g)else Z d
def w6(d:N (N M))(b:J)(e:J)(f:(N M)->(N M)->V J):V (N<|N M):=E (b+1) λg=>G (zg (kN fu b e f) fu (g,d)) λa=>Z a
def vW(d:(N M)->(N M)->V J):((J×J×J×(N<|N M))->V (N<|N M))->(J×J×J×(N<|N M))->V (N<|N M):=λL (a,b,e,f)=>E (b-a) λg=>if g<=12 then G (w6 fu f a b d) λh=>Z h else if e=0 then wF else wF
def qO:K->(N<|N M)->J->J->J->((N M)->(N M)->V J)->V (N<|N M)
 |0,_,_,_,_,_=>wF
 |fu+1,a,b,d,e,f=>G (zg (vW fu f) fu (b,d,e,a)) λg=>Z g
def yM(a:N (N M))(b:(N M)->(N M)->V J):V (N<|N M):=C (sA<|(X a:J)) λd=>G (ui fu d) λe=>G (qO fu a (0:J) ((X a:J)) e b) λf=>Z f
def QO(a:N M)(h:N J):V ((N<|N M)×v6):=if(X a:J)<2 then Z ([],I)else G (QM fu a) λi=>if i then Z ([],wL)else G (Jf fu a h) λ(b,j)=>if b=0 then Z ([],wL)else G (W9 fu a b) λf=>G (qN fu b f) λ(k,r)=>G (WQ fu a j b) λ(d,e,l)=>if 1<(X e:J)then G (jD fu e l b f) λ(m,s)=>G (Yg fu e m k) λg=>ck ((X d+X g)*24<=140737488355328)<|C (d++g) λo=>G (yM fu o<|λc n=>j8 fu c n) λp=>Z (p,I)else G (yM fu d<|λc n=>j8 fu c n) λq=>Z (q,I)
def gx(d:M)(e:J):((J×M)->V M)->(J×M)->V M:=λL (a,b)=>if a<e then G (z8 fu b d) λf=>E (a+1) λg=>L (g,f)else Z b
def Q6(a:M)(b:J):V M:=G (yi fu (1:J)) λd=>G (zg (gx fu a b) fu<|((0:J),d)) λe=>Z e
def V7(m:M):(((N M)×(N M)×J×(N M))->V ((N M)×(N M)))->((N M)×(N M)×J×(N M))->V ((N M)×(N M)):=λL (d,b,a,f)=>if 0<=a then E (a+((X d:J))) λo=>if(X b:J)<o then E (a-1) λp=>L (d,b,p,f)else E (a+((X d:J))) λq=>E (q-1) λr=>zG r (X b) λs=>C ((b.getD s (wL,[]))) λt=>G (kU fu t m) λ(u,v)=>zG a (X f) λw=>C (f.set w u) λg=>kv a λk=>ck (32*k<=281474976710656)<|C (Nm k (wL,[])) λl=>zG a (X g) λx=>C ((g.getD x (wL,[]))) λy=>G (qk fu d y) λe=>ck ((X l+X e)*32<=140737488355328)<|C (l++e) λh=>G (kF fu b h) λi=>E (a-1) λj=>L (d,i,j,g)else Z (b,f)
def Yl(j:N M)(k:N M):V ((N M)×(N M)×J):=G (zT fu j) λg=>G (zT fu k) λa=>if(X a:J)=0 then Z (([],[],(3:J)))else E (((X g:J))-((X a:J))) λl=>E (l+1) λm=>C (max m (0:J)) λb=>E (((X a:J))-1) λo=>zG o (X a) λp=>C ((a.getD p (wL,[]))) λh=>G (Q6 fu h b) λq=>G (qk fu g q) λr=>kv b λi=>ck (32*i<=281474976710656)<|C (Nm i (wL,[])) λs=>E (b-1) λt=>G (zg (V7 fu h) fu (a,r,t,s)) λ(d,e)=>G (zT fu e) λf=>Z<|(f,d,(0:J))
def sa:(((N M)×(N M))->V (N M))->((N M)×(N M))->V (N M):=λL (b,a)=>if 0<(X a:J)then G (Yl fu b a) λ(f,d,g)=>G (xL fu d) λe=>L (a,e)else Z b
def YK(a:N M)(b:N M):V (N M):=G (vR fu a) λd=>G (vR fu b) λe=>G (Ju fu d e) λf=>G (xL fu a) λg=>G (xL fu b) λh=>G (zg (sa fu) fu (g,h)) λi=>G (qk fu i f) λj=>Z j
def Qu(a:J)(b:M):V M:=G (yi fu a) λd=>G (z8 fu b d) λe=>Z e
def Yb(d:N M):V (N M):=G (zJ fu d<|λc h=>Qu fu c h) λa=>C (min ((X a:J)) (1:J)) λe=>kv e λb=>ck (b<=X a)<|C (a.drop b) λf=>G (zT fu f) λg=>Z g
def tW(a:N M)(b:N M):V (N M):=G (wz fu a b) λ(d,e)=>Z d
def qG(b:N M):V ((N M)×J):=G (ZP fu b) λd=>if d=0 then G (xL fu b) λa=>G (Yb fu a) λe=>G (YK fu a e) λf=>G (tW fu a f) λg=>Z ((g,(0:J)))else Z ([],d)
def WJ(g:N M)(a:N (N M)):(((N<|(N M)×J)×J×M×(N<|N M))->V ((N<|(N M)×J)×M))->((N<|(N M)×J)×J×M×(N<|N M))->V ((N<|(N M)×J)×M):=λL (b,d,h,e)=>G ((if d<(X a:J)then Z ((g,(X a:J),I))else Z ((g,(X a:J),wL)):V ((N M)×J×v6))) λ(j,p,k)=>if k then zG d (X e) λl=>C ((e.getD l [])) λf=>G (XH fu j f) λi=>ck ((X b+X ([(f,i)]))*32<=140737488355328)<|C (b++([(f,i)])) λm=>E (d+1) λo=>L (m,o,h,e)else Z (b,h)
def yS(a:N M)(e:N J):V (M×(N<|(N M)×J)×J):=G (qG fu a) λ(f,b)=>if b=0 then G (QO fu f e) λ(d,g)=>if !g then Z (((wL,[]),[],(6:J)))else G (zg (WJ fu a d) fu<|([],(0:J),(wL,[]),d)) λ(h,i)=>G (vR fu a) λj=>Z ((j,h,(0:J)))else Z (((wL,[]),[],b))
def YF(d:N M):V (v6×J):=G (yS fu d []) λ(g,b,a)=>if a=0 then if(X b:J)=1 then zG 0 (X b) λe=>C (((b.getD e ([],0))).2) λf=>if f=1 then Z (I,a)else Z (wL,a)else Z (wL,a)else Z (wL,a)
def X0(fu:K):((J×J×(N K))->V (N K))->(J×J×(N K))->V (N K):=λL (b,d,a)=>if b<d then zG d (X a) λf=>C ((a.getD f 0)) λg=>zG b (X a) λh=>C ((a.getD h 0)) λi=>zG b (X a) λj=>C (a.set j g) λe=>zG d (X e) λk=>C (e.set k i) λl=>E (b+1) λm=>E (d-1) λo=>L (m,o,l)else Z a
def kD(a:N K):V (N K):=E (((X a:J))-1) λb=>G (zg (X0 fu) fu<|((0:J),b,a)) λd=>Z d
def Eb(fu:K)(f:v6):((K×(N K))->V (N K))->(K×(N K))->V (N K):=λL (b,a)=>if(((0:K):K):J)<(b:J)then ck ((10:K)≠0)<|C (b%((10:K))) λg=>C ((((48:K))+g)%18446744073709551616) λh=>C (h%256) λd=>ck ((X a+X ([d]))*1<=140737488355328)<|C (a++([d])) λi=>ck ((10:K)≠0)<|C (b/((10:K))) λj=>L (j,i)else if f then if(X a:J)<19 then ck ((10:K)≠0)<|C (b%((10:K))) λk=>C ((((48:K))+k)%18446744073709551616) λl=>C (l%256) λe=>ck ((X a+X ([e]))*1<=140737488355328)<|C (a++([e])) λm=>ck ((10:K)≠0)<|C (b/((10:K))) λo=>L (o,m)else Z a else Z a
def bF(a:K)(b:v6):V (N K):=G (zg (Eb fu b) fu (a,[])) λd=>G (kD fu d) λe=>Z e
def Z6(fu:K):((J×J×(N<|N K))->V (N<|N K))->(J×J×(N<|N K))->V (N<|N K):=λL (b,d,a)=>if b<d then zG d (X a) λf=>C ((a.getD f [])) λg=>zG b (X a) λh=>C ((a.getD h [])) λi=>zG b (X a) λj=>C (a.set j g) λe=>zG d (X e) λk=>C (e.set k i) λl=>E (b+1) λm=>E (d-1) λo=>L (m,o,l)else Z a
def qV(a:N (N K)):V (N<|N K):=E (((X a:J))-1) λb=>G (zg (Z6 fu) fu<|((0:J),b,a)) λd=>Z d
def fG(fu:K)(a:N (N K))(b:N K):V (N K):=ck (X a<=140737488355328)<|ck (X (b.intercalate a)<=140737488355328)<|some (b.intercalate a)
def Mc:(((N K)×(N<|N K))->V (N<|N K))->((N K)×(N<|N K))->V (N<|N K):=λL (d,a)=>if 0<(X d:J)then G (VD fu d (10000000000000000000:K)) λ(b,e)=>if 0<(X b:J)then G (bF fu e I) λf=>ck ((X a+X ([f]))*16<=140737488355328)<|C (a++([f])) λh=>L (b,h)else G (bF fu e wL) λg=>ck ((X a+X ([g]))*16<=140737488355328)<|C (a++([g])) λi=>L (b,i)else Z a
def nJ(e:N K):V (N K):=G (wq fu e) λf=>G (zg (Mc fu) fu (f,[])) λd=>if(X d:J)=0 then Z [48]else G (qV fu d) λa=>G (fG fu a []) λb=>Z b
def Al(a:M):V (N K):=G (xV fu a) λd=>if d<0 then G (nJ fu a.2) λb=>ck (X ([45])+X b<=9223372036854775807)<|C (([45])++b) λe=>Z e else G (nJ fu a.2) λf=>Z f
def Vf:V v6:=G (Wo fu [(-1:J),(-1:J),(6:J)]) λa=>G (yS fu a []) λ(b,d,e)=>G (Wo fu [(1:J),(0:J),(0:J),(0:J),(1:J)]) λf=>G (YF fu f) λ(g,h)=>if e=0 then G (Al fu b) λi=>if i=[49]then G (nW fu [(-1:J),(2:J)]) λj=>G (nW fu [(1:J),(3:J)]) λk=>G (pZ fu d [(j,(1:J)),(k,(1:J))]) λl=>if l then if h=0 then Z g else Z wL else Z wL else Z wL else Z wL
def cn(fu:K)(d:J)(a:N M):(J->V (Z2⊕Z2))->J->V (Z2⊕Z2):=λL b=>if b<(X a:J)then zG b (X a) λe=>C (a.getD e (wL,[])) λf=>if d<(X f.2:J)then Z (.inr ())else E (b+1) λg=>L g else Z (.inl ())
def uu(b:J)(d:J)(a:N M):V v6:=if b<(X a:J)then Z wL else G (zg (cn fu d a) fu (0:J)) λe=>match e with
 |.inl _=>Z I
 |.inr _=>Z wL
def pB(a:N M)(b:N M):V v6:=G (ZG fu a b) λd=>Z d
end
end
section
set_option maxRecDepth 100000
section
variable(fu:wr)
def cY(g:J)(a:N ((N M)×J))(h:N M):(((N M)×v6×(N M)×J)->V ((N M)×v6×(N M)))->((N M)×v6×(N M)×J)->V ((N M)×v6×(N M)):=λL (b,d,e,f)=>zG g (X a) λi=>C (((a.getD i ([],0))).2) λj=>if f<j then G (xD fu e h) λk=>E (f+1) λl=>L (b,d,k,l)else Z (b,d,e)
def cZ(i:J)(f:N ((N M)×J))(j:N M):(((N M)×v6×(N M)×J)->V ((N M)×v6×(N M)))->((N M)×v6×(N M)×J)->V ((N M)×v6×(N M)):=λL (a,g,b,h)=>zG i (X f) λk=>C (((f.getD k ([],0))).2) λl=>if h<l then G (xD fu b j) λd=>E (h+1) λe=>L (a,g,d,e)else Z (a,g,b)
def cP(i:N M)(j:v6):(((N M)×J×(N<|(N M)×J))->V ((N M)⊕Z2))->((N M)×J×(N<|(N M)×J))->V ((N M)⊕Z2):=λL (e,b,a)=>if b<(X a:J)then zG b (X a) λk=>nm (((a.getD k ([],0))).1) λd=>G (YF fu d) λ(l,m)=>if m=0 then if !l then Z (.inr ())else if(X d:J)<2 then Z (.inr ())else G (xL fu d) λo=>G (pB fu o d) λp=>if !p then Z (.inr ())else zG b (X a) λq=>nm (((a.getD q ([],0))).2) λr=>if r<1 then Z (.inr ())else zG b (X a) λs=>nm (((a.getD s ([],0))).2) λt=>if 11<t then Z (.inr ())else if 0<b then zf (b-1) λu=>zG u (X a) λv=>nm (((a.getD v ([],0))).1) λw=>G (ZS fu w d) λx=>if !x then Z (.inr ())else G (zg (cY fu b a d) fu<|(i,j,e,(0:J))) λ(y,C,f)=>zf (b+1) λA=>L (f,A,a)else G (zg (cZ fu b a d) fu<|(i,j,e,(0:J))) λ(B,E,g)=>zf (b+1) λh=>L (g,h,a)else Z (.inr ())else Z (.inl e)
def S4(a:N M)(h:N J):V v6:=G (Vf fu) λb=>G (uu fu (11:J) (2:J) a) λi=>if !i then Z b else if 20<(X h:J)then Z b else G (yS fu a h) λ(j,k,d)=>if d=0 then G (zg (cP fu a b) fu<|([j],(0:J),k)) λl=>match l with
 |.inl e=>if b then G (zT fu a) λf=>G (pB fu e f) λm=>Z m else Z wL
 |.inr _=>Z wL else if b then if d=6 then Z I else if d=8 then G (zT fu a) λg=>if(X g:J)=0 then Z I else Z wL else Z wL else Z wL
def qF(fu:K)(a:N K)(b:J):V K:=if b<(X a:J)then zG b (X a) λd=>C (a.getD d 0) λe=>Z e else Z (0:K)
def ll(fu:K)(b:N K):(J->V J)->J->V J:=λL a=>if 0<a then E (a-1) λd=>zG d (X b) λe=>C (b.getD e 0) λf=>if(f:J)=(((0:K):K):J)then E (a-1) λg=>L g else Z a else Z a
def Y9(a:N K):V (N K):=G (zg (ll fu a) fu<|(X a:J)) λd=>kv d λb=>ck (b<=X a)<|C (a.take b) λe=>Z e
def Wk(fu:K)(a:N K):(((N K)×J)->V (N K))->((N K)×J)->V (N K):=λL (d,b)=>if b<(X a:J)then zG b (X a) λg=>C (a.getD g 0) λh=>C (h &&& ((4294967295:K))) λe=>zG b (X a) λi=>C (a.getD i 0) λj=>C (j/2^(min (((32:K)):J).toNat 64)) λf=>ck ((X d+X ([e,f]))*8<=140737488355328)<|C (d++([e,f])) λk=>E (b+1) λl=>L (k,l)else Z d
def xz(a:N K):V (N K):=G (zg (Wk fu a) fu<|([],(0:J))) λb=>G (Y9 fu b) λd=>Z d
def VY(fu:K)(a:N K):(((N K)×J)->V (N K))->((N K)×J)->V (N K):=λL (d,b)=>if b<(X a:J)then zG b (X a) λg=>C (a.getD g 0) λe=>E (b+1) λh=>if h<(X a:J)then E (b+1) λi=>zG i (X a) λj=>C (a.getD j 0) λk=>C (k*2^(min (((32:K)):J).toNat 64)%18446744073709551616) λl=>C ((e+l)%18446744073709551616) λf=>ck ((X d+X ([f]))*8<=140737488355328)<|C (d++([f])) λm=>E (b+2) λo=>L (m,o)else ck ((X d+X ([e]))*8<=140737488355328)<|C (d++([e])) λp=>E (b+2) λq=>L (p,q)else Z d
def qt(a:N K):V (N K):=G (zg (VY fu a) fu<|([],(0:J))) λb=>G (ZL fu b) λd=>Z d
def mo(d:N K)(e:N K):(((N K)×K×J)->V (N K))->((N K)×K×J)->V (N K):=λL (b,h,a)=>C (max ((X d:J))<|(X e:J)) λi=>E (i+1) λj=>if a<j then G (qF fu d a) λk=>G (qF fu e a) λl=>C ((k+l)%18446744073709551616) λm=>C ((m+h)%18446744073709551616) λf=>C (f &&& ((4294967295:K))) λg=>ck ((X b+X ([g]))*8<=140737488355328)<|C (b++([g])) λo=>C (f/2^(min (((32:K)):J).toNat 64)) λp=>E (a+1) λq=>L (o,p,q)else Z b
def VT(a:N K)(b:N K):V (N K):=G (xz fu a) λd=>G (xz fu b) λe=>G (zg (mo fu d e) fu<|([],(0:K),(0:J))) λf=>G (qt fu f) λg=>Z g
def Xe(b:N K)(d:N K):(J->V (Z2⊕J))->J->V (Z2⊕J):=λL a=>if 0<=a then G (qF fu b a) λe=>G (qF fu d a) λf=>if(e:J)<(f:J)then Z (.inr (-1:J))else G (qF fu b a) λg=>G (qF fu d a) λh=>if(h:J)<(g:J)then Z (.inr (1:J))else E (a-1) λi=>L i else Z (.inl ())
def uc(a:N K)(b:N K):V J:=C (max ((X a:J))<|(X b:J)) λd=>E (d-1) λe=>G (zg (Xe fu a b) fu e) λf=>match f with
 |.inl _=>Z (0:J)
 |.inr g=>Z g
def JV(d:N K)(g:N K):(((N K)×K×J)->V (N K))->((N K)×K×J)->V (N K):=λL (b,h,a)=>if a<(X d:J)then G (qF fu d a) λi=>C ((i+((4294967296:K)))%18446744073709551616) λj=>G (qF fu g a) λk=>C ((j+18446744073709551616-k)%18446744073709551616) λl=>C ((l+18446744073709551616-h)%18446744073709551616) λe=>C (e &&& ((4294967295:K))) λf=>ck ((X b+X ([f]))*8<=140737488355328)<|C (b++([f])) λm=>C (e/2^(min (((32:K)):J).toNat 64)) λo=>C ((((1:K))+18446744073709551616-o)%18446744073709551616) λp=>E (a+1) λq=>L (m,p,q)else Z b
def Xp(a:N K)(b:N K):V (N K):=G (zg (JV fu a b) fu<|([],(0:K),(0:J))) λd=>G (Y9 fu d) λe=>Z e
def Y8(d:N K)(e:N K):V ((N K)×J):=G (xz fu d) λa=>G (xz fu e) λb=>G (uc fu a b) λf=>if f<0 then Z (([],(1:J)))else G (Xp fu a b) λg=>G (qt fu g) λh=>Z<|(h,(0:J))
def vD(a:M)(b:M):V M:=C (a.1==b.1) λd=>if d then G (VT fu a.2 b.2) λe=>G (y6 fu (a.1,e)) λf=>Z f else G (Y8 fu a.2 b.2) λ(g,h)=>if h=0 then G (y6 fu (a.1,g)) λi=>Z i else G (Y8 fu b.2 a.2) λ(j,l)=>G (y6 fu (b.1,j)) λk=>Z k
def Vq(a:M):V M:=G (y6 fu<|((!a.1),a.2)) λb=>Z b
def KN(a:M)(b:M):V M:=G (Vq fu b) λd=>G (vD fu a d) λe=>Z e
def Za(a:M)(b:M):V J:=G (KN fu a b) λd=>G (qe fu d) λe=>Z e
def CL(b:N M)(d:N M):(J->V (Z2⊕v6))->J->V (Z2⊕v6):=λL a=>if 0<=a then zG a (X b) λf=>C ((b.getD f (wL,[]))) λg=>zG a (X d) λh=>C ((d.getD h (wL,[]))) λi=>G (Za fu g i) λe=>if e=0 then E (a-1) λj=>L j else if e<0 then Z (.inr I)else Z (.inr wL)else Z (.inl ())
def zjE(d:N M)(e:N M):V v6:=G (yQ fu d) λa=>G (yQ fu e) λb=>if(X a:J)=(X b:J)then E (((X a:J))-1) λf=>G (zg (CL fu a b) fu f) λg=>match g with
 |.inl _=>Z wL
 |.inr h=>Z h else if(X a:J)<(X b:J)then Z I else Z wL
def Vj(a:M):V M:=G (y6 fu (wL,a.2)) λb=>Z b
def Uy(fu:K)(a:N K):(((N K)×(N K)×(N K)×K×J)->V ((N K)×(N K)×(N K)×K))->((N K)×(N K)×(N K)×K×J)->V ((N K)×(N K)×(N K)×K):=λL (e,f,d,g,b)=>if b<(X a:J)then zG b (X a) λi=>C (a.getD i 0) λj=>C ((j*((2:K)))%18446744073709551616) λk=>C ((k+g)%18446744073709551616) λl=>C (l &&& ((4294967295:K))) λh=>ck ((X d+X ([h]))*8<=140737488355328)<|C (d++([h])) λm=>zG b (X a) λo=>C (a.getD o 0) λp=>C (p/2^(min (((31:K)):J).toNat 64)) λq=>E (b+1) λr=>L (e,f,m,q,r)else Z (e,f,d,g)
def K3(r:N K)(g:N K):(((N K)×J×(N K))->V ((N K)×(N K)))->((N K)×J×(N K))->V ((N K)×(N K)):=λL (m,a,d)=>if 0<=a then ck ((32:J)≠0)<|zf (xcw a (32:J)) λs=>zG s (X g) λt=>nm (g.getD t 0) λu=>ck ((32:J)≠0)<|nm (xbE a (32:J)) λo=>ck (0<=o)<|nm (u/2^(min (o:J).toNat 64)) λv=>nm (v &&& ((1:K))) λw=>bd (zg (Uy fu m) fu<|(r,g,[],w,(0:J))) λ(e,x,f,p)=>ck ((X f+X ([p]))*8<=140737488355328)<|nm (f++([p])) λh=>bd (Y9 fu h) λb=>bd ((bd (uc fu b e) λy=>if 0<=y then Z I else Z wL:V v6)) λA=>if A then bd (Xp fu b e) λi=>ck ((32:J)≠0)<|zf (xcw a (32:J)) λB=>ck ((32:J)≠0)<|zf (xcw a (32:J)) λC=>zG C (X d) λE=>nm ((d.getD E 0)) λG=>ck ((32:J)≠0)<|nm (xbE a (32:J)) λq=>ck (0<=q)<|nm (((1:K))*2^(min (q:J).toNat 64)%18446744073709551616) λm8=>nm (G|||m8) λH=>zG B (X d) λc=>nm (d.set c H) λj=>zf (a-1) λk=>L (i,k,j)else zf (a-1) λl=>L (b,l,d)else Z (m,d)
def KR(i:N K)(j:N K):V ((N K)×(N K)×J):=G (xz fu j) λg=>if(X g:J)=0 then Z (([],[],(3:J)))else G (xz fu i) λa=>kv ((X a:J)) λh=>ck (8*h<=281474976710656)<|C (Nm h 0) λk=>E ((32:J)*((X a:J))) λl=>E (l-1) λm=>G (zg (K3 fu g a) fu ([],m,k)) λ(b,d)=>G (qt fu d) λe=>G (qt fu b) λf=>Z<|(e,f,(0:J))
def YS(b:M)(d:M):V (M×M×J):=G (KR fu b.2 d.2) λ(e,a,f)=>if f=0 then G ((if b.1=I then if 0<(X a:J)then G (VT fu e [(1:K)]) λg=>G (Y8 fu d.2 a) λ(h,o)=>Z (g,h)else Z (e,a)else Z (e,a):V ((N K)×(N K)))) λ(i,j)=>C (!(b.1==d.1)) λk=>G (y6 fu (k,i)) λl=>G (y6 fu (wL,j)) λm=>Z ((l,m,(0:J)))else Z (((wL,[]),(wL,[]),f))
def lJ:((M×M)->V M)->(M×M)->V M:=λL (b,a)=>G (qe fu a) λd=>if d=0 then Z b else G (YS fu b a) λ(f,e,g)=>L (a,e)
def VH(a:M)(b:M):V M:=G (Vj fu a) λd=>G (Vj fu b) λe=>G (zg (lJ fu) fu (d,e)) λf=>Z f
def KJ(a:N M):((J×M)->V M)->(J×M)->V M:=λL (b,d)=>if b<(X a:J)then zG b (X a) λe=>C ((a.getD e (wL,[]))) λf=>G (VH fu d f) λg=>E (b+1) λh=>L (h,g)else Z d
def ja(d:N M):V M:=G (yQ fu d) λa=>G (wH fu (0:J)) λe=>G (zg (KJ fu a) fu<|((0:J),e)) λb=>if 0<(X a:J)then E (((X a:J))-1) λf=>zG f (X a) λg=>C (((a.getD g (wL,[]))).1) λh=>if h then G (Vq fu b) λi=>Z i else Z b else Z b
def Vc(b:M)(d:M):V (M×J):=G (YS fu b d) λ(e,f,a)=>if a=0 then G (qe fu f) λg=>if g=0 then Z ((e,(0:J)))else Z (((wL,[]),(4:J)))else Z (((wL,[]),a))
def JL(fu:K)(a:N M)(b:J):V M:=if 0<=b then if b<(X a:J)then zG b (X a) λd=>C (a.getD d (wL,[])) λe=>Z e else Z (wL,[])else Z (wL,[])
def mm(d:N M)(e:N M):(((N M)×J)->V (N M))->((N M)×J)->V (N M):=λL (b,a)=>C (max ((X d:J))<|(X e:J)) λg=>if a<g then G (JL fu d a) λh=>G (JL fu e a) λi=>G (vD fu h i) λf=>ck ((X b+X ([f]))*32<=140737488355328)<|C (b++([f])) λj=>E (a+1) λk=>L (j,k)else Z b
def Y7(a:N M)(b:N M):V (N M):=G (zg (mm fu a b) fu<|([],(0:J))) λd=>G (yQ fu d) λe=>Z e
def Ur(fu:K)(f:J):(((N K)×(N K)×K×J×(N K))->V ((N K)×(N K)×K×(N K)))->((N K)×(N K)×K×J×(N K))->V ((N K)×(N K)×K×(N K)):=λL (e,a,g,b,d)=>if b<(X a:J)then zG f (X e) λi=>C (e.getD i 0) λj=>zG b (X a) λk=>C (a.getD k 0) λl=>C ((j*l)%18446744073709551616) λm=>E (f+b) λo=>zG o (X d) λp=>C ((d.getD p 0)) λq=>C ((m+q)%18446744073709551616) λr=>C ((r+g)%18446744073709551616) λh=>E (f+b) λs=>C (h &&& ((4294967295:K))) λt=>zG s (X d) λu=>C (d.set u t) λv=>C (h/2^(min (((32:K)):J).toNat 64)) λw=>E (b+1) λx=>L (e,a,w,x,v)else Z (e,a,g,d)
def Ub(f:N K)(h:N K):((J×(N K))->V (N K))->(J×(N K))->V (N K):=λL (b,g)=>if b<(X f:J)then G (zg (Ur fu b) fu<|(f,h,(0:K),(0:J),g)) λ(m,d,i,a)=>E (b+((X d:J))) λj=>zG j (X a) λk=>C (a.set k i) λe=>E (b+1) λl=>L (l,e)else Z g
def YY(g:N K)(h:N K):V (N K):=G (xz fu g) λd=>G (xz fu h) λe=>E (((X d:J))+((X e:J))) λi=>kv i λf=>ck (8*f<=281474976710656)<|C (Nm f 0) λj=>G (zg (Ub fu d e) fu<|((0:J),j)) λa=>G (qt fu a) λb=>Z b
def wu(a:M)(b:M):V M:=C (!(a.1==b.1)) λd=>G (YY fu a.2 b.2) λe=>G (y6 fu (d,e)) λf=>Z f
def lS(f:J):(((N M)×(N M)×J×(N M))->V ((N M)×(N M)×(N M)))->((N M)×(N M)×J×(N M))->V ((N M)×(N M)×(N M)):=λL (e,a,b,d)=>if b<(X a:J)then E (f+b) λg=>E (f+b) λh=>zG h (X d) λi=>C ((d.getD i (wL,[]))) λj=>zG f (X e) λk=>C (e.getD k (wL,[])) λl=>zG b (X a) λm=>C (a.getD m (wL,[])) λo=>G (wu fu l o) λp=>G (vD fu j p) λq=>zG g (X d) λr=>C (d.set r q) λs=>E (b+1) λt=>L (e,a,t,s)else Z (e,a,d)
def mb(b:N M)(e:N M):((J×(N M))->V (N M))->(J×(N M))->V (N M):=λL (a,d)=>if a<(X b:J)then G (zg (lS fu a) fu<|(b,e,(0:J),d)) λ(h,i,f)=>E (a+1) λg=>L (g,f)else Z d
def VG(d:N M)(e:N M):V (N M):=E (((X d:J))+((X e:J))) λg=>kv g λf=>ck (32*f<=281474976710656)<|C (Nm f (wL,[])) λh=>G (zg (mb fu d e) fu<|((0:J),h)) λa=>G (yQ fu a) λb=>Z b
def cD(a:N M)(f:M):(((N M)×J)->V (N M))->((N M)×J)->V (N M):=λL (b,d)=>if d<(X a:J)then zG d (X a) λg=>C (a.getD g (wL,[])) λh=>G (wu fu h f) λe=>ck ((X b+X ([e]))*32<=140737488355328)<|C (b++([e])) λi=>E (d+1) λj=>L (i,j)else Z b
def vq(a:N M)(b:M):V (N M):=G (zg (cD fu a b) fu<|([],(0:J))) λd=>G (yQ fu d) λe=>Z e
def Vu(a:N M)(b:N M):V (N M):=G (wH fu (-1:J)) λd=>G (vq fu b d) λe=>G (Y7 fu a e) λf=>Z f
def WO:(((N M)×(N M)×(N M))->V ((N M)⊕Z2))->((N M)×(N M)×(N M))->V ((N M)⊕Z2):=λL (a,b,e)=>if 0<(X b:J)then E (((X b:J))-((X a:J))) λf=>E (((X b:J))-1) λk=>zG k (X b) λl=>C ((b.getD l (wL,[]))) λm=>E (((X a:J))-1) λo=>zG o (X a) λp=>C (a.getD p (wL,[])) λq=>G (Vc fu m q) λ(g,r)=>if f<0 then Z (.inr ())else if r=0 then kv f λh=>ck (32*h<=281474976710656)<|C (Nm h (wL,[])) λi=>ck ((X i+X ([g]))*32<=140737488355328)<|C (i++([g])) λj=>G (Y7 fu e j) λs=>G (VG fu j a) λt=>G (Vu fu b t) λd=>L (a,d,s)else Z (.inr ())else Z (.inl e)
def kJ(d:N M)(e:N M):V ((N M)×J):=G (yQ fu e) λb=>if(X b:J)=0 then Z (([],(3:J)))else G (yQ fu d) λf=>G (zg (WO fu) fu (b,f,[])) λg=>match g with
 |.inl a=>Z<|(a,(0:J))
 |.inr _=>Z<|([],(4:J))
def qb(b:N M):V (N M):=G (yQ fu b) λa=>if(X a:J)=0 then Z []else G (ja fu a) λd=>G (kJ fu a [d]) λ(e,f)=>Z e
def W2(d:M):V (J×v6):=G (y6 fu d) λa=>if(X a.2:J)=0 then Z (((0:J),I))else if 1<(X a.2:J)then Z (((0:J),wL))else zG 0 (X a.2) λe=>C (a.2.getD e 0) λb=>if a.1=I then if(b:J)<=(((9223372036854775808:K):K):J)then C (SZ b) λf=>E (0-f) λg=>Z (g,I)else if((!a.1))=I then if(b:J)<=(((9223372036854775807:K):K):J)then C (SZ b) λh=>Z (h,I)else Z (((0:J),wL))else Z (((0:J),wL))else if((!a.1))=I then if(b:J)<=(((9223372036854775807:K):K):J)then C (SZ b) λi=>Z (i,I)else Z (((0:J),wL))else Z (((0:J),wL))
def TG(fu:K)(b:J):(((N J)×J)->V (N J))->((N J)×J)->V (N J):=λL (f,a)=>E (a*a) λs=>E (0-b) λt=>C (max b t) λu=>if s<=u then ck (a≠0)<|C (xbE b a) λv=>if v=0 then E (0-a) λr=>ck ((X f+X ([a,r]))*8<=140737488355328)<|C (f++([a,r])) λh=>G ((E (a*a) λw=>E (0-b) λx=>C (max b x) λy=>if w=y then Z (b,wL)else Z (b,I):V (J×v6))) λ(g,A)=>if A then E (0-g) λi=>C (max g i) λj=>ck (a≠0)<|E (xcw j a) λd=>E (0-g) λk=>C (max g k) λl=>E (0-l) λm=>ck (a≠0)<|E (xcw m a) λe=>ck ((X h+X ([d,e]))*8<=140737488355328)<|C (h++([d,e])) λB=>E (a+1) λo=>L (B,o)else E (a+1) λp=>L (h,p)else E (a+1) λq=>L (f,q)else Z f
def rU(fu:K)(k:J):(((N J)×J×(N J))->V (((N J)×(N J))⊕Z2))->((N J)×J×(N J))->V (((N J)×(N J))⊕Z2):=λL (d,b,a)=>if k<=b then zG b (X d) λl=>nm (d.getD l 0) λm=>zf (b-k) λo=>zG o (X d) λp=>nm (d.getD p 0) λq=>zf (m-q) λe=>zG b (X a) λr=>nm ((a.getD r 0)) λs=>zf (b-1) λt=>zG t (X a) λu=>nm ((a.getD u 0)) λv=>zf (s-v) λw=>ck (e≠0)<|nm (xbE w e) λx=>if x=0 then zG b (X a) λy=>nm ((a.getD y 0)) λA=>zf (b-1) λf=>zG f (X a) λB=>nm ((a.getD B 0)) λg=>zf (A-g) λh=>ck (e≠0)<|zf (xcw h e) λi=>zG b (X a) λC=>nm (a.set C i) λE=>zf (b-1) λj=>L (d,j,E)else Z (.inr ())else Z (.inl (d,a))
def zcb(a:N J):((J×(N J))->V ((N J)⊕Z2))->(J×(N J))->V ((N J)⊕Z2):=λL (b,e)=>if b<(X a:J)then E (((X a:J))-1) λf=>G (zg (rU fu b) fu (a,f,e)) λg=>match g with
 |.inl (i,h)=>E (b+1) λd=>L (d,h)
 |.inr _=>Z (.inr ())else Z (.inl e)
def dm(fu:K):((J×K)->V J)->(J×K)->V J:=λL (a,b)=>if(((0:K):K):J)<(b:J)then E (a+1) λd=>ck ((2:K)≠0)<|C (b/((2:K))) λe=>L (d,e)else Z a
def Xj(b:N K):V J:=G (ZL fu b) λa=>if(X a:J)=0 then Z (0:J)else E (((X a:J))-1) λd=>E ((64:J)*d) λe=>E (((X a:J))-1) λf=>zG f (X a) λg=>C ((a.getD g 0)) λh=>G (zg (dm fu) fu (e,h)) λi=>Z i
def XU(fu:K)(b:J):(J->V (Z2⊕Z2))->J->V (Z2⊕Z2):=λL a=>E (a*a) λd=>if d<=b then ck (a≠0)<|C (xbE b a) λe=>if e=0 then Z (.inr ())else E (a+1) λf=>L f else Z (.inl ())
def X8(a:J):V v6:=if a<2 then Z wL else if 65521<a then Z wL else G (zg (XU fu a) fu (2:J)) λb=>match b with
 |.inl _=>Z I
 |.inr _=>Z wL
def Jy:(J->V J)->J->V J:=λL b=>E (b+1) λa=>G (X8 fu a) λd=>if d then Z a else L a
def ZB(a:J):V (J×J):=if 65521<=a then Z (((0:J),(5:J)))else C (max a (1:J)) λb=>G (zg (Jy fu) fu b) λd=>Z<|(d,(0:J))
def Ui(fu:K)(a:J):V (N K):=ck ((64:J)≠0)<|E (xcw a (64:J)) λf=>E (f+1) λg=>kv g λb=>ck (8*b<=281474976710656)<|C (Nm b 0) λd=>ck ((64:J)≠0)<|E (xcw a (64:J)) λh=>ck ((64:J)≠0)<|C (xbE a (64:J)) λe=>ck (0<=e)<|C (((1:K))*2^(min (e:J).toNat 64)%18446744073709551616) λi=>zG h (X d) λj=>C (d.set j i) λk=>Z k
def KG(b:N K)(a:J):V ((N K)×J):=if a<0 then Z (([],(1:J)))else if 262144<a then Z (([],(1:J)))else G (Ui fu a) λd=>G (YY fu b d) λe=>Z<|(e,(0:J))
def qH(f:M):((J×M×J×M)->V (J×M×M))->(J×M×J×M)->V (J×M×M):=λL (a,b,d,e)=>if d<a then G (wu fu e f) λg=>E (d+1) λh=>L (a,b,h,g)else Z (a,b,e)
def JO(f:M)(g:J):((J×M×M)->V (M×M))->(J×M×M)->V (M×M):=λL (a,b,d)=>if 0<=a then G (KG fu [(1:K)] a) λ(h,p)=>G (vD fu d (wL,h)) λe=>G (wH fu (1:J)) λi=>G (zg (qH fu e) fu<|(g,f,(0:J),i)) λ(q,j,k)=>G (Za fu k j) λl=>if l<=0 then E (a-1) λm=>L (m,b,e)else E (a-1) λo=>L (o,b,d)else Z (b,d)
def QL(b:M)(a:J):V (M×J):=if a<1 then Z (((wL,[]),(1:J)))else if 64<a then Z (((wL,[]),(1:J)))else G (qe fu b) λd=>if d<0 then Z (((wL,[]),(1:J)))else G (wH fu (0:J)) λe=>G (Xj fu b.2) λf=>ck (a≠0)<|E (xcw f a) λg=>G (zg (JO fu b a) fu<|(g,(wL,[]),e)) λ(i,h)=>Z<|(h,(0:J))
def qp(b:N M):V J:=G (yQ fu b) λa=>if(X a:J)=0 then Z (8:J)else if 65<(X a:J)then Z (6:J)else Z (0:J)
def Qk(a:N M):((J×M)->V M)->(J×M)->V M:=λL (b,d)=>if b<(X a:J)then zG b (X a) λe=>C ((a.getD e (wL,[]))) λf=>zG b (X a) λg=>C ((a.getD g (wL,[]))) λh=>G (wu fu f h) λi=>G (vD fu d i) λj=>E (b+1) λk=>L (k,j)else Z d
def Qc(e:N M):((J×M)->V M)->(J×M)->V M:=λL (d,a)=>if d<(X e:J)then G (vD fu a a) λb=>E (d+1) λf=>L (f,b)else Z a
def Vb(b:N M):V (M×J):=G (qp fu b) λd=>if d=0 then G (yQ fu b) λe=>G (wH fu (0:J)) λg=>G (zg (Qk fu e) fu<|((0:J),g)) λf=>G (QL fu f (2:J)) λ(a,o)=>G ((G (wu fu a a) λh=>G (Za fu h f) λi=>if i<0 then G (wH fu (1:J)) λj=>G (vD fu a j) λk=>Z k else Z a:V M)) λl=>G (zg (Qc fu e) fu<|((1:J),l)) λm=>Z ((m,(0:J)))else Z (((wL,[]),d))
def bU(b:N M):(((N M)×J)->V (N M))->((N M)×J)->V (N M):=λL (d,a)=>if a<(X b:J)then zG a (X b) λf=>C (b.getD f (wL,[])) λg=>G (wH fu a) λh=>G (wu fu g h) λe=>ck ((X d+X ([e]))*32<=140737488355328)<|C (d++([e])) λi=>E (a+1) λj=>L (i,j)else Z d
def Vg(a:N M):V (N M):=G (zg (bU fu a) fu<|([],(1:J))) λb=>G (yQ fu b) λd=>Z d
def WC(g:M):(((N M)×(N M)×(N M)×J)->V ((N M)×(N M)×J))->((N M)×(N M)×(N M)×J)->V ((N M)×(N M)×J):=λL (b,a,h,i)=>if(X b:J)<=(X a:J)then E (((X a:J))-((X b:J))) λo=>kv o λj=>ck (32*j<=281474976710656)<|C (Nm j (wL,[])) λk=>E (((X a:J))-1) λp=>zG p (X a) λq=>C ((a.getD q (wL,[]))) λl=>ck ((X k+X ([l]))*32<=140737488355328)<|C (k++([l])) λm=>G (vq fu h g) λr=>G (Y7 fu r m) λs=>G (vq fu a g) λd=>G (VG fu m b) λe=>G (Vu fu d e) λf=>E (i-1) λt=>L (b,f,s,t)else Z (a,h,i)
def Wc(f:M):(((N M)×(N M)×J)->V ((N M)×(N M)))->((N M)×(N M)×J)->V ((N M)×(N M)):=λL (a,b,g)=>if 0<g then G (vq fu b f) λd=>G (vq fu a f) λe=>E (g-1) λh=>L (e,d,h)else Z (a,b)
def uZ(i:N M)(j:N M):V ((N M)×(N M)×J):=G (yQ fu j) λa=>if(X a:J)=0 then Z (([],[],(3:J)))else G (yQ fu i) λg=>E (((X a:J))-1) λk=>zG k (X a) λl=>C ((a.getD l (wL,[]))) λh=>E (((X g:J))-((X a:J))) λm=>E (m+1) λo=>G (zg (WC fu h) fu (a,g,[],o)) λ(b,d,p)=>G (zg (Wc fu h) fu (b,d,p)) λ(e,f)=>Z<|(f,e,(0:J))
def mx:(((N M)×(N M))->V (N M))->((N M)×(N M))->V (N M):=λL (b,a)=>if 0<(X a:J)then G (uZ fu b a) λ(f,d,g)=>G (qb fu d) λe=>L (a,e)else Z b
def VL(a:N M)(b:N M):V (N M):=G (ja fu a) λd=>G (ja fu b) λe=>G (VH fu d e) λf=>G (qb fu a) λg=>G (qb fu b) λh=>G (zg (mx fu) fu (g,h)) λi=>G (vq fu i f) λj=>Z j
def ug(b:N M):V (N M):=G (qb fu b) λa=>G (Vg fu a) λd=>G (VL fu a d) λe=>G (kJ fu a e) λ(f,g)=>Z f
def Yq(a:N M):V ((N M)×J):=G (qp fu a) λb=>if b=0 then G (ug fu a) λd=>Z ((d,(0:J)))else Z ([],b)
def wC(a:J):V J:=G (X8 fu a) λb=>if !b then Z (1:J)else Z (0:J)
def Vo(fu:K)(d:J)(a:J):V J:=if a<1 then Z (0:J)else ck (a≠0)<|C (xbE d a) λb=>if b<0 then E (b+a) λe=>Z e else Z b
def cr(a:N J)(f:J):(((N J)×J)->V (N J))->((N J)×J)->V (N J):=λL (b,d)=>if d<(X a:J)then zG d (X a) λg=>C (a.getD g 0) λh=>G (Vo fu h f) λe=>ck ((X b+X ([e]))*8<=140737488355328)<|C (b++([e])) λi=>E (d+1) λj=>L (i,j)else Z b
def cM(fu:K)(b:N J):(J->V J)->J->V J:=λL a=>if 0<a then E (a-1) λd=>zG d (X b) λe=>C ((b.getD e 0)) λf=>if f=0 then E (a-1) λg=>L g else Z a else Z a
def yz(d:N J)(e:J):V (N J):=G (zg (cr fu d e) fu<|([],(0:J))) λa=>G (zg (cM fu a) fu<|(X a:J)) λf=>kv f λb=>ck (b<=X a)<|C (a.take b) λg=>Z g
def b8(fu:K)(e:J)(h:N J)(f:N J):((J×J×(N J))->V (J×(N J)))->(J×J×(N J))->V (J×(N J)):=λL (d,a,b)=>if a<(X f:J)then E (e+a) λi=>E (e+a) λj=>zG j (X b) λk=>C ((b.getD k 0)) λl=>zG e (X h) λm=>C ((h.getD m 0)) λo=>zG a (X f) λp=>C ((f.getD p 0)) λq=>E (o*q) λr=>E (l+r) λs=>ck (d≠0)<|C (xbE s d) λt=>zG i (X b) λu=>C (b.set u t) λv=>E (a+1) λg=>L (d,g,v)else Z (d,b)
def bM(g:J):((J×(N J)×(N J)×(N J))->V (N J))->(J×(N J)×(N J)×(N J))->V (N J):=λL (a,b,e,f)=>if a<(X b:J)then G (zg (b8 fu a b e) fu<|(g,(0:J),f)) λ(i,h)=>E (a+1) λd=>L (d,b,e,h)else Z f
def xu(h:N J)(i:N J)(a:J):V (N J):=G (yz fu h a) λe=>G (yz fu i a) λf=>E (((X e:J))+((X f:J))) λj=>kv j λg=>ck (8*g<=281474976710656)<|C (Nm g 0) λk=>G (zg (bM fu a) fu<|((0:J),e,f,k)) λb=>G (yz fu b a) λd=>Z d
def lL(fu:K)(a:J):((J×J×J)->V J)->(J×J×J)->V J:=λL (e,b,d)=>if 0<d then ck ((2:J)≠0)<|C (xbE d (2:J)) λi=>if i=1 then E (e*b) λj=>ck (a≠0)<|C (xbE j a) λk=>E (b*b) λl=>ck (a≠0)<|C (xbE l a) λm=>ck ((2:J)≠0)<|E (xcw d (2:J)) λo=>L (k,m,o)else E (b*b) λf=>ck (a≠0)<|C (xbE f a) λg=>ck ((2:J)≠0)<|E (xcw d (2:J)) λh=>L (e,g,h)else Z e
def KH(d:J)(b:J)(a:J):V (J×J):=G (wC fu a) λe=>if e=0 then if b<0 then Z (((0:J),(1:J)))else ck (a≠0)<|C (xbE (1:J) a) λf=>G (Vo fu d a) λg=>G (zg (lL fu a) fu (f,g,b)) λh=>Z ((h,(0:J)))else Z (((0:J),(1:J)))
def vO(b:J)(a:J):V J:=E (a-2) λd=>G (KH fu b d a) λ(e,f)=>if a=2 then Z (1:J)else Z e
def wE(d:N J)(b:J):V ((N J)×J):=G (wC fu b) λe=>if e=0 then G (yz fu d b) λa=>if(X a:J)=0 then Z (([],(0:J)))else E (((X a:J))-1) λf=>zG f (X a) λg=>C ((a.getD g 0)) λh=>G (vO fu h b) λi=>G (xu fu a [i] b) λj=>Z ((j,(0:J)))else Z (([],(1:J)))
def dR(fu:K)(b:N J)(d:N J):(J->V (Z2⊕Z2))->J->V (Z2⊕Z2):=λL a=>if a<(X b:J)then zG a (X b) λe=>C (b.getD e 0) λf=>zG a (X d) λg=>C (d.getD g 0) λh=>if f=h then E (a+1) λi=>L i else Z (.inr ())else Z (.inl ())
def ZK(a:N J)(b:N J):V v6:=if(X a:J)=(X b:J)then G (zg (dR fu a b) fu (0:J)) λd=>match d with
 |.inl _=>Z I
 |.inr _=>Z wL else Z wL
def Ym(fu:K)(a:J)(d:N J):(((N J)×J)->V (N J))->((N J)×J)->V (N J):=λL (e,b)=>if b<(X d:J)then ck (a≠0)<|C (xbE b a) λg=>zG b (X d) λh=>C ((d.getD h 0)) λi=>E (g*i) λj=>ck (a≠0)<|C (xbE j a) λf=>ck ((X e+X ([f]))*8<=140737488355328)<|C (e++([f])) λk=>E (b+1) λl=>L (k,l)else Z e
def W3(b:N J)(a:J):V ((N J)×J):=G (wC fu a) λd=>if d=0 then G (yz fu b a) λe=>G (zg (Ym fu a e) fu<|([],(1:J))) λf=>G (yz fu f a) λg=>Z ((g,(0:J)))else Z (([],(1:J)))
def Jx(fu:K)(a:N J)(b:J):V J:=if b<(X a:J)then zG b (X a) λd=>C (a.getD d 0) λe=>Z e else Z (0:J)
def lD(g:J):(((N J)×(N J)×(N J)×J)->V (N J))->((N J)×(N J)×(N J)×J)->V (N J):=λL (b,d,e,a)=>C (max ((X b:J))<|(X d:J)) λh=>if a<h then G (Jx fu b a) λi=>G (Jx fu d a) λj=>E (g*j) λk=>E (i+k) λf=>ck ((X e+X ([f]))*8<=140737488355328)<|C (e++([f])) λl=>E (a+1) λm=>L (b,d,l,m)else Z e
def YX(b:N J)(d:N J)(e:J)(a:J):V (N J):=G (yz fu b a) λf=>G (yz fu d a) λg=>G (zg (lD fu e) fu<|(f,g,[],(0:J))) λh=>G (yz fu h a) λi=>Z i
def Uw(fu:K)(g:J):((J×J×(N J)×J)->V (J×J×(N J)))->(J×J×(N J)×J)->V (J×J×(N J)):=λL (d,e,a,f)=>if f<g then ck ((X a+X ([(0:J)]))*8<=140737488355328)<|C (a++([(0:J)])) λh=>E (f+1) λb=>L (d,e,h,b)else Z (d,e,a)
def Uz(fu:K)(d:N J)(e:J)(k:J):(((N J)×J)->V (N J))->((N J)×J)->V (N J):=λL (a,f)=>if f<(X d:J)then zG f (X d) λl=>C ((d.getD l 0)) λg=>E (g*e) λh=>ck (k≠0)<|C (xbE h k) λb=>ck ((X a+X ([b]))*8<=140737488355328)<|C (a++([b])) λi=>E (f+1) λj=>L (i,j)else Z a
def K7(e:J)(j:J):(((N J)×(N J)×(N J))->V ((N J)×(N J)))->((N J)×(N J)×(N J))->V ((N J)×(N J)):=λL (a,d,f)=>if(X d:J)<=(X a:J)then E (((X a:J))-((X d:J))) λk=>E (((X a:J))-1) λm=>zG m (X a) λo=>C ((a.getD o 0)) λp=>E (p*j) λq=>ck (e≠0)<|C (xbE q e) λb=>zG k (X f) λr=>C (f.set r b) λs=>G (zg (Uw fu k) fu<|(e,j,[],(0:J))) λ(l,t,g)=>G (zg (Uz fu d b l) fu<|(g,(0:J))) λh=>G (YX fu a h (-1:J) l) λi=>L (i,d,s)else Z (a,f)
def Zw(i:N J)(j:N J)(a:J):V ((N J)×(N J)×J):=G (wC fu a) λk=>if k=0 then G (yz fu j a) λb=>if(X b:J)=0 then Z (([],[],(3:J)))else G (yz fu i a) λg=>E (((X g:J))+1) λl=>kv l λh=>ck (8*h<=281474976710656)<|C (Nm h 0) λm=>E (((X b:J))-1) λo=>zG o (X b) λp=>C ((b.getD p 0)) λq=>G (vO fu q a) λr=>G (zg (K7 fu a r) fu (g,b,m)) λ(d,e)=>G (yz fu e a) λf=>Z ((f,d,(0:J)))else Z (([],[],(1:J)))
def qx(j:N (N J))(k:N (N J))(l:N J):((J×(N<|N J)×J)->V (J×(N<|N J)))->(J×(N<|N J)×J)->V (J×(N<|N J)):=λL (d,a,e)=>if e<3 then zG e (X j) λm=>C ((j.getD m [])) λf=>zG e (X k) λo=>C ((k.getD o [])) λg=>G (xu fu l g d) λh=>G (YX fu f h (-1:J) d) λb=>ck ((X a+X ([b]))*24<=140737488355328)<|C (a++([b])) λi=>E (e+1) λp=>L (d,i,p)else Z (d,a)
def ZM(e:J):(((N<|N J)×(N<|N J))->V (N<|N J))->((N<|N J)×(N<|N J))->V (N<|N J):=λL (b,a)=>zG 0 (X a) λf=>C ((a.getD f [])) λg=>if 0<(X g:J)then zG 0 (X b) λh=>C ((b.getD h [])) λi=>zG 0 (X a) λj=>C ((a.getD j [])) λk=>G (Zw fu i k e) λ(l,m,o)=>G (zg (qx fu b a l) fu<|(e,[],(0:J))) λ(p,d)=>L (a,d)else Z b
def XW(r:N J)(s:N J)(b:J):V ((N J)×(N J)×(N J)×J):=G (wC fu b) λt=>if t=0 then G (yz fu r b) λu=>G (yz fu s b) λv=>G (zg (ZM fu b) fu<|([u,[(1:J)],[]],[v,[],[(1:J)]])) λa=>zG 0 (X a) λw=>nm ((a.getD w [])) λe=>if(X e:J)=0 then Z (([],[(1:J)],[],(0:J)))else zG 0 (X a) λx=>nm ((a.getD x [])) λd=>zG 0 (X a) λy=>nm ((a.getD y [])) λf=>E (((X f:J))-1) λA=>zG A (X d) λB=>nm (d.getD B 0) λC=>G (vO fu C b) λg=>zG 0 (X a) λh=>nm ((a.getD h [])) λi=>G (xu fu i [g] b) λj=>zG 1 (X a) λk=>nm ((a.getD k [])) λl=>G (xu fu l [g] b) λm=>zG 2 (X a) λo=>nm ((a.getD o [])) λp=>G (xu fu p [g] b) λq=>Z ((j,m,q,(0:J)))else Z (([],[],[],(1:J)))
def YZ(a:N J)(b:N J)(d:J):V ((N J)×J):=G (XW fu a b d) λ(e,g,h,f)=>Z (e,f)
def J5(a:N J)(b:N J)(d:J):V (N J):=G (Zw fu a b d) λ(e,f,g)=>Z e
def gz(fu:K)(a:N J)(f:J):(((N J)×J)->V (N J))->((N J)×J)->V (N J):=λL (b,d)=>if d<(X a:J)then zG d (X a) λg=>C (a.getD g 0) λe=>ck ((X b+X ([e]))*8<=140737488355328)<|C (b++([e])) λh=>E (d+f) λi=>L (h,i)else Z b
def Ji(a:N J)(b:J):V (N J):=G (zg (gz fu a b) fu<|([],(0:J))) λd=>Z d
def XP(f:N J)(a:J):(((N J)×(N J))->V (N J))->((N J)×(N J))->V (N J):=λL (b,d)=>if 1<(X d:J)then G (J5 fu b d a) λe=>G (YZ fu e f a) λ(g,h)=>L (e,g)else Z b
def Yw(a:N J)(b:N J)(d:J):V (N J):=G (YZ fu a b d) λ(e,g)=>G (zg (XP fu b d) fu (a,e)) λf=>Z f
def wU:K->(N J)->J->V (N J)
 |0,_,_=>wF
 |fu+1,g,a=>G (wE fu g a) λ(b,m)=>if(X b:J)<=1 then Z [(1:J)]else G (W3 fu b a) λ(d,o)=>if(X d:J)=0 then G (Ji fu b a) λh=>G (wU fu h a) λi=>Z i else G (YZ fu b d a) λ(e,p)=>G (J5 fu b e a) λf=>G (Yw fu e f a) λj=>G (wU fu j a) λk=>G (xu fu f k a) λl=>Z l
def K4(b:N J)(a:J):V J:=G (wC fu a) λd=>if d=0 then G (yz fu b a) λe=>if(X e:J)=0 then Z (8:J)else Z (0:J)else Z (1:J)
def aE(a:N J)(b:J):V (v6×J):=G (K4 fu a b) λd=>if d=0 then G (wE fu a b) λ(e,h)=>G (wU fu a b) λf=>G (ZK fu e f) λg=>Z ((g,(0:J)))else Z (wL,d)
def QN(b:M)(a:M):V (M×J):=G (qe fu a) λd=>if d<=0 then Z (((wL,[]),(1:J)))else G (YS fu b a) λ(f,e,g)=>Z<|(e,(0:J))
def K1(b:M)(d:J):V (J×J):=G (wH fu d) λe=>G (QN fu b e) λ(f,a)=>if a=0 then G (W2 fu f) λ(g,h)=>Z ((g,(0:J)))else Z (((0:J),a))
def lQ(a:N M)(f:J):(((N J)×J)->V (N J))->((N J)×J)->V (N J):=λL (b,d)=>if d<(X a:J)then zG d (X a) λg=>C (a.getD g (wL,[])) λh=>G (K1 fu h f) λ(e,k)=>ck ((X b+X ([e]))*8<=140737488355328)<|C (b++([e])) λi=>E (d+1) λj=>L (i,j)else Z b
def lk(fu:K)(b:N J):(J->V J)->J->V J:=λL a=>if 0<a then E (a-1) λd=>zG d (X b) λe=>C ((b.getD e 0)) λf=>if f=0 then E (a-1) λg=>L g else Z a else Z a
def KX(e:N M)(b:J):V ((N J)×J):=if b<1 then Z (([],(1:J)))else G (zg (lQ fu e b) fu<|([],(0:J))) λa=>G (zg (lk fu a) fu<|(X a:J)) λf=>kv f λd=>ck (d<=X a)<|C (a.take d) λg=>Z<|(g,(0:J))
def QW(a:N M)(b:J):V (v6×J):=G (qp fu a) λd=>if d=0 then G (X8 fu b) λf=>if !f then Z ((wL,(0:J)))else G (KX fu a b) λ(e,i)=>G (yQ fu a) λg=>if(X e:J)=(X g:J)then G (aE fu e b) λ(h,j)=>Z ((h,(0:J)))else Z ((wL,(0:J)))else Z (wL,d)
def vN(a:N M):((J×J)->V (Z2⊕Z2))->(J×J)->V (Z2⊕Z2):=λL (b,d)=>if d=0 then if 1<(X a:J)then G (QW fu a b) λ(e,h)=>if e then Z (.inr ())else G (ZB fu b) λ(f,g)=>L (f,g)else Z (.inl ())else Z (.inl ())
def vt(b:N M):V J:=G (qp fu b) λd=>if d=0 then G (Yq fu b) λ(a,p)=>G (Vb fu a) λ(e,q)=>G (wH fu (2:J)) λf=>E (((X a:J))-1) λg=>zG g (X a) λh=>C (a.getD h (wL,[])) λi=>G (wu fu e i) λj=>G (wu fu f j) λk=>G ((if 1<(X a:J)then G (Xj fu k.2) λl=>if 1000<l then Z (.inr ())else Z (.inl ())else Z (.inl ()):V (Z2⊕Z2))) λm=>match m with
 |.inl _=>(G (zg (vN fu a) fu<|((2:J),(0:J))) λo=>match o with
 |.inl _=>if 1<(X a:J)then Z (6:J)else Z (0:J)
 |.inr _=>Z (0:J))
 |.inr _=>Z (6:J)else Z d
def Zv(a:N M):V (v6×J):=G (qp fu a) λb=>if b=0 then G (qb fu a) λd=>G (ug fu a) λe=>G (ZG fu d e) λf=>Z ((f,(0:J)))else Z (wL,b)
def gQ(a:N M):V (v6×J):=G (ZP fu a) λb=>if b=0 then G (xL fu a) λd=>G (Yb fu d) λe=>G (YK fu d e) λf=>if(X f:J)=1 then Z ((I,(0:J)))else Z ((wL,(0:J)))else Z (wL,b)
def XC(fu:K)(a:N ((N M)×J)):(((N<|N M)×J×(N<|(N M)×J))->V (N<|N M))->((N<|N M)×J×(N<|(N M)×J))->V (N<|N M):=λL (b,d,e)=>G ((if d<(X a:J)then Z (((X a:J),I))else Z (((X a:J),wL)):V (J×v6))) λ(k,g)=>if g then zG d (X e) λh=>C ((e.getD h ([],0))) λf=>ck ((X b+X ([f.1]))*24<=140737488355328)<|C (b++([f.1])) λi=>E (d+1) λj=>L (i,j,e)else Z b
def vv(a:N M)(e:N J):V ((N<|N M)×J):=G (yS fu a e) λ(h,b,d)=>if d=0 then G (gQ fu a) λ(f,i)=>if !f then Z (([],(1:J)))else G (zg (XC fu b) fu<|([],(0:J),b)) λg=>Z ((g,(0:J)))else Z ([],d)
def jU(e:xS Zr)(t:J)(g:J):V v6:=bd (Vf fu) λa=>if 3<(X e:J)then Z a else bd (uu fu (3:J) (1:J) e) λu=>if !u then Z a else nm (gi t (127:J)) λh=>bd ((if 8<h then if h<62 then Z (8:J)else Z h else Z h:V J)) λd=>bd ((if 0<d then ck ((X (([]:xS Zr))+X e)*32<=140737488355328)<|nm ((([]:xS Zr))++e) λm=>kv d λo=>ck ((X m+o)*32<=140737488355328)<|nm (m++Nm o (wL,[])) λp=>bd (yi fu (1:J)) λq=>ck ((X p+X ([q]))*32<=140737488355328)<|nm (p++([q])) λv=>Z v else Z e:V (xS Zr))) λi=>bd ((bd ((nm (gi g (1:J)) λw=>if w=1 then if 0<(X i:J)then Z (g,a,d,I)else Z (g,a,d,wL)else Z (g,a,d,wL):V (J×v6×J×v6))) λ(x,R,S,y)=>if y then ck ((X (([]:xS Zr))+X i)*32<=140737488355328)<|nm ((([]:xS Zr))++i) λr=>nm (xeP x<|2^(min (((1:wr)):J).toNat 64)) λA=>nm (gi A (31:J)) λB=>zf ((1:J)+B) λC=>kv C λs=>ck (8*s<=281474976710656)<|nm (Nm s 0) λj=>zf (((X j:J))-1) λE=>zG E (X j) λG=>nm (j.set G (1:wr)) λH=>zG 0 (X r) λc=>nm (r.set c (wL,H)) λn=>Z n else Z i:V (xS Zr))) λb=>bd ((if 8<d then if d<64 then Z (.inr a)else if 9<(X b:J)then if(X b:J)<66 then Z (.inr a)else Z (.inl ())else Z (.inl ())else if 9<(X b:J)then if(X b:J)<66 then Z (.inr a)else Z (.inl ())else Z (.inl ()):V (Z2⊕v6))) λK=>match K with
 |.inl _=>bd (vt fu b) λf=>bd (yS fu b []) λ(U,M,k)=>bd (vv fu b []) λ(N,l)=>bd (Zv fu b) λ(z,P)=>if f=0 then if !z then if a then if k=0 then if l=1 then Z I else Z wL else Z wL else Z wL else if a then if k=f then if l=f then Z I else Z wL else Z wL else Z wL else if a then if k=f then if l=f then Z I else Z wL else Z wL else Z wL
 |.inr Q=>Z Q
end
end
section
set_option maxRecDepth 100000
section
open Go.Proofs.Tryz
variable(fu:wr)
def bC:yb ⟨112,[.d jC],[.own .u 54],λx=>ZL fu x.1,0⟩:=sq fu ⟨[],[],[(2,q1 [(3,.d .i)] 0 [(3,.d .i)])],[],[],[],[]⟩ func112<|cN
def qh:yb ⟨110,[.d zN],[.d zN],λx=>y6 fu x.1,0⟩:=sq fu wk func110<|B (bC fu)<|cN
def Zh:yb ⟨55,[.d .i],[.d zN],λx=>wH fu x.1,0⟩:=sq fu wk func55<|B (qh fu)<|cN
def ZQ:yb ⟨132,[.d zN],[.d .i],λx=>qe fu x.1,0⟩:=sq fu wk func132<|B (qh fu)<|cN
def wi:yb ⟨64,[.d y3],[.own zN 30],λx=>yQ fu x.1,0⟩:=sq fu ⟨[],[],[(2,q1 [(3,.d .i)] 0 [(3,.d .i)]),(6,q1 [(4,.own zN 30),(5,.d .i)] 2 [(4,.own zN 30)])],[],[],[],[]⟩ func64<|B (ZQ fu)<|B (qh fu)<|cN
def zah:yb ⟨50,[.d yK],[.own zN 30],λx=>nW fu x.1,0⟩:=sq fu ⟨[],[],[(3,q1 [(3,.own zN 30),(4,.d .i)] 0 [(3,.own zN 30)])],[],[],[],[]⟩ func50<|B (wi fu)<|B (Zh fu)<|cN
def L9:yb ⟨63,[.d jC,.d jC],[.d .b],λx=>Q7 fu x.1 x.2.1,0⟩:=sq fu ⟨[],[],[(4,⟨⟨[(5,.d .i)],[]⟩,⟨[],[(.x 0,⟨[],[]⟩),(.r,⟨[],[(4,.kb wL)]⟩)]⟩⟩)],[],[],[],[]⟩ func63<|cN
def IQ:yb ⟨17,[.d zN,.d zN],[.d .b],λx=>Q5 fu x.1 x.2.1,0⟩:=sq fu wk func17<|B (L9 fu)<|cN
def sw:yb ⟨69,[.d y3,.d y3],[.d .b],λx=>ZG fu x.1 x.2.1,0⟩:=sq fu ⟨[],[],[(4,⟨⟨[(5,.d .i)],[]⟩,⟨[],[(.x 0,⟨[],[]⟩),(.r,⟨[],[(4,.kb wL)]⟩)]⟩⟩)],[],[],[],[]⟩ func69<|B (IQ fu)<|cN
def MN:yb ⟨20,[.d (.l (.p y3 .i)),.d (.l (.p y3 .i))],[.d .b],λx=>pZ fu x.1 x.2.1,0⟩:=sq fu ⟨[],[],[(4,⟨⟨[(5,.d .i)],[]⟩,⟨[],[(.x 0,⟨[],[]⟩),(.r,⟨[],[(4,.kb wL)]⟩)]⟩⟩)],[],[],[],[]⟩ func20<|B (sw fu)<|cN
def Ef:yb ⟨215,[.d jC,.d .i],[.d .u],λx=>VP fu x.1 x.2.1,0⟩:=sq fu wk func215<|cN
def Pj:yb ⟨213,[.d .i,.d .u,.q jC,.q jC],[.d .u,.d .u],λx=>dS fu x.1 x.2.1 x.2.2.1 x.2.2.2.1,0⟩:=sq fu wk func213<|B (Ef fu)<|cN
def Yf:yb ⟨212,[.d .i,.fn [.i,.u] [.u,.u]],[.own .u 54,.d .u],λx=>qo fu x.1<|λz0 a=>x.2.1 (z0,a,()),0⟩:=sq fu ⟨[],[],[(4,q1 [(7,.d .u),(13,.d .i),(6,.own .u 54)] 0 [(7,.d .u),(6,.own .u 54)])],[],[],[],[]⟩ func212<|cN
def wK:yb ⟨157,[.d jC],[.d jC],λx=>wq fu x.1,0⟩:=sq fu ⟨[],[],[(1,q1 [(0,.d jC)] 0 [(0,.d jC)])],[],[],[],[]⟩ func157<|cN
def xf:yb ⟨157,[.own .u 54],[.own .u 54],λx=>xq fu x.1,0⟩:=sq fu ⟨[],[],[(1,q1 [(0,.own .u 54)] 0 [(0,.own .u 54)])],[],[],[],[]⟩ func157<|cN
def sK:yb ⟨139,[.d jC,.d jC],[.own .u 54],λx=>ZF fu x.1 x.2.1,0⟩:=sq fu wk func139<|B (Yf fu)<|B (Pj fu)<|B (xf fu)<|B (wK fu)<|cN
def Bt:yb ⟨297,[.d .i],[.d .b],λx=>Yx fu x.1,0⟩:=sq fu wk func297<|cN
def n7:yb ⟨216,[.d .i,.d .i],[.d .i],λx=>uJ fu x.1 x.2.1,0⟩:=sq fu wk func216<|B (Bt fu)<|cN
def nZ:yb ⟨298,[.d .u],[.d .b],λx=>kV fu x.1,0⟩:=sq fu wk func298<|cN
def gl:yb ⟨217,[.d .u,.d .u],[.d .i],λx=>ju fu x.1 x.2.1,0⟩:=sq fu wk func217<|B (nZ fu)<|cN
def Hl:yb ⟨140,[.d jC,.d jC],[.d .i],λx=>Jm fu x.1 x.2.1,0⟩:=sq fu ⟨[],[],[(5,⟨⟨[(5,.d .i)],[]⟩,⟨[],[(.x 0,⟨[],[]⟩),(.r,⟨[(4,.d .i)],[]⟩)]⟩⟩)],[],[],[],[]⟩ func140<|B (n7 fu)<|B (gl fu)<|B (xf fu)<|B (wK fu)<|cN
set_option maxRecDepth 100000 in
set_option maxHeartbeats 1000000 in
def Qv(l:N K)(v0:wN)(hd:X l<=17592186044416):Fn Tryz.prog 220 [v0].toArray [fV (eS eU) (l) v0] (λu:wN=>u) (λu=>[fV (eS eU) (l) u]) (λ_=>Z5):=by
 refine PZ func220 O O λwe Se rest=> ?_;refine zhw (λS w h=>znV h.1) λc=> ?_;refine zhw (λS w h=>zfk h.1) λhc=> ?_;refine VQ ?_;refine vU ?_;refine Hf 1 [(0,v0)] O λrest=> ?_;refine kP ?_;refine VQ ?_;refine VQ ?_;refine vU ?_;refine Hf 1 [(0,v0),(3,v0)] O λrest=> ?_;refine ziT O O (zjB (e:=eU) (xs:=l) Tryz.underlying28 O O<|λS w h=>h.1) λq1 d=> ?_;refine Hf 0 [(0,v0),(4,.bool<|q1)] O λrest=> ?_;refine kP ?_;refine zmU (q1) O (λb=> ?_)<|λb=> ?_
 ·refine VQ ?_;refine vU ?_;refine Hf 1 [(2,.slice wF 0 0)] O λrest=> ?_;refine kP ?_;refine zc0 ?_;exact zkA (.slice wF 0 0:wN) Tryz.results220 O wR<|λS w h=>⟨(cvt (show([])=(l)from by first|rfl|simp_all) zfl),wR⟩
 ·refine NZ ?_;refine VQ ?_;refine vU ?_;refine zha (e:=eU) O O Tryz.underlying28 zpO λv1=> ?_;refine Hf 1 [(5,v1),(6,v0)] O λrest=> ?_;refine zc2 (e:=eU) (xs:=[]) (ys:=l) 0 O O Tryz.underlying28 zpO O iI O O O (λS w h=>h.1) (by first|lia|(simp only[xbR,xaq,xaT,xaw,xas,xcf];lia)|(simp;lia)) (by first|lia|(simp only[xbR,xaq,xaT,xaw,xas,xcf];lia)|(simp;lia)) λa=> ?_;show TL _ _ _ _ [mO eU 54 a<|[]++l] _ _ _ _ _;refine Hf 1 [(2,a)] O λrest=> ?_;refine kP ?_;refine zc0 ?_;refine zc6 (λw h=>Nh 0 h O) ?_;exact zkA a Tryz.results220 O wR<|λS w h=>⟨(cvt (show([]++l)=(l)from by first|rfl|simp_all) h.1),wR⟩
def Qo(a0:N K)(a:wN)(r0:N K)(H:wb fu a0=Z r0):Fn Tryz.prog 220 [a].toArray [fV (eS eU) (a0) a] (λu:wN=>u) (λu=>[fV (eS eU) (r0) u]) (λ_=>Z5):=by
 have⟨b,H⟩:=Zm H;obtain rfl:=zm3 H;exact Qv a0 a b
def Qt:yb ⟨220,[.d jC],[.d jC],λx=>wb fu x.1,0⟩:=zmq (s:=jC) (t:=jC) iT λx r v h=>Qo fu x v r h
def nC:yb ⟨144,[.d jC],[.d jC],λx=>YC fu x.1,0⟩:=sq fu wk func144<|B (Qt fu)<|B (xf fu)<|B (wK fu)<|cN
def Rk:yb ⟨310,[.d .i,.d .u,.q jC,.q .i],[.d .u,.d .u],λx=>dk fu x.1 x.2.1 x.2.2.1 x.2.2.2.1,0⟩:=sq fu wk func310<|cN
def Aj:yb ⟨160,[.d jC,.d .i],[.own .u 54],λx=>Y2 fu x.1 x.2.1,0⟩:=sq fu wk func160<|cN
def sV:yb ⟨251,[.d jC,.d .i],[.own .u 54,.d .i],λx=>WE fu x.1 x.2.1,0⟩:=sq fu ⟨[],[],[],[(4,[23])],[],[],[]⟩ func251<|B (Aj fu)<|B (Yf fu)<|B (xf fu)<|B (wK fu)<|B (Rk fu)<|cN
def SC:yb ⟨344,[.d .i,.d .u,.q jC,.q .i],[.d .u,.d .u],λx=>gm fu x.1 x.2.1 x.2.2.1 x.2.2.2.1,0⟩:=sq fu wk func344<|B (Ef fu)<|cN
def H2:yb ⟨295,[.d jC,.d .i],[.own .u 54],λx=>U3 fu x.1 x.2.1,0⟩:=sq fu ⟨[2,3],[],[],[],[],[],[]⟩ func295<|B (SC fu)<|B (Yf fu)<|B (xf fu)<|B (wK fu)<|cN
set_option maxRecDepth 100000 in
set_option maxHeartbeats 1000000 in
def rV(fu:K)(a0:K)(b:au a0)(r0:J)(H:xW fu a0=Z r0):Fn Tryz.prog 252 [uv a0].toArray [] (λ_:Z2=>iv<|r0) (λ_=>[]) (λ_=>K8 r0):=by
 unfold xW at H;refine PZ func252 O O λwe Se rest=>VQ<|vU<|Xf 1 [(2,iv 0)] O<|kP<|VQ ?_
 have⟨B,d,e⟩:=iH H;refine T_X [(.n,JQ we Se (G:=K×J) (λ(d1,i1)=>(⟨[],[],[(0,uv d1),(2,iv<|i1)]⟩:Inv))<|λ(d1,i1)=>(d1,i1)=B/\au d1/\K8 i1)] ?_ ⟨?_,wR⟩
 ·replace H:=d
  refine VQ<|vU<|Xf 1 [(3,uv a0)] O<|zbg O O O O (λh1=> ?_) (λh1=> ?_)
  ·replace H:=zoa h1 H
   refine kP<|Kz O<|VQ<|vU<|Xf 1 [(5,uv a0)] O ?_
   have⟨f,q,H⟩:=xI H
   refine ZW O O (ED (c:=(f:J)) O O (xdg _)<|zeh q<|ph (a:=a0))<|Xf 1 [(0,uv f)] O<|kP<|vU<|Xf 1 [(2,iv 32)] O<|kP ?_
   exact zcN (f,32) (xfy (xdf H)<|xfy (EO b q) (iI:K8 (32))) O<|λw h=>St.weak h<|λS w h=>wR
  replace H:=zn2 h1 H
  refine kP<|QP O<|NZ ?_
  exact zcN (a0,0) (xfy (xdf H)<|xfy b (iI:K8 (0))) O<|λw h=>St.weak h<|λS w h=>wR
 refine zhH ?_;rintro⟨d1,i1⟩ ⟨g,r,C⟩ rest;subst g;replace H:=e;clear d;refine zk4 O<|VQ ?_
 have⟨D,d,e⟩:=iH H;refine T_X [(.n,JQ we Se (G:=K×J) (λ(d2,i2)=>(⟨[],[],[(0,uv d2),(2,iv<|i2)]⟩:Inv))<|λ(d2,i2)=>(d2,i2)=D/\au d2/\K8 i2)] ?_ ⟨?_,wR⟩
 ·replace H:=d
  refine VQ<|vU<|Xf 1 [(7,uv d1)] O<|zbg O O O O (λi=> ?_) (λi=> ?_)
  ·replace H:=zoa i H
   refine kP<|Kz O<|VQ<|vU<|Xf 1 [(9,uv d1)] O ?_
   have⟨j,hi,H⟩:=xI H
   refine ZW O O (ED (c:=(j:J)) O O (xdg _)<|zeh hi<|ph (a:=d1))<|Xf 1 [(0,uv j)] O<|kP<|vU<|Xf 1 [(11,iv<|i1)] O ?_
   have⟨k,hn,s,H⟩:=JM H
   refine ZW O O (Ev (c:=k) O O<|w_x hn s)<|Xf 1 [(2,iv<|k)] O<|kP ?_
   exact zcN (j,k) (xfy (xdf H)<|xfy (EO r hi) s) O<|λw h=>St.weak h<|λS w h=>wR
  replace H:=zn2 i H
  refine kP<|QP O<|NZ ?_
  exact zcN (d1,i1) (xfy (xdf H)<|xfy r C) O<|λw h=>St.weak h<|λS w h=>wR
 refine zhH ?_;rintro⟨d2,i2⟩ ⟨g,Q,R⟩ rest;subst g;replace H:=e;clear d;refine zk4 O<|VQ<|VQ<|vU<|Xf 1 [(13,uv d2)] O<|zbg O O O O (λl=> ?_) (λl=> ?_)
 ·replace H:=zoa l H
  refine kP<|Kz O<|VQ<|vU<|Xf 1 [(15,uv d2)] O ?_
  have⟨m,E,H⟩:=xI H
  refine ZW O O (ED (c:=(m:J)) O O (xdg _)<|zeh E<|ph (a:=d2))<|Xf 1 [(0,uv m)] O<|kP<|vU<|Xf 1 [(17,iv<|i2)] O ?_
  have⟨o,hp,F,H⟩:=JM H
  refine ZW O O (Ev (c:=o) O O<|w_x hp F)<|Xf 1 [(2,iv<|o)] O<|kP<|VQ<|vU<|Xf 2 [(20,uv m),(19,iv<|o)] O ?_
  have⟨L,hd,H⟩:=xI H
  refine ZW O O (V8 (c:=(L:J)) Tryz.underlying54 Tryz.underlying5 O<|iW hd<|wu8 _) ?_
  have⟨t,u,H⟩:=xI H
  refine ZW O O (zgO (z:=t) Tryz.underlying9 O iT O (Nu hd) u)<|ZW O O (V8 (c:=(t:J)) Tryz.underlying5 Tryz.underlying3 O<|w64<|b_r<|H6 (Nu hd) u) ?_
  have⟨v,M,x,H⟩:=JM H
  refine ZW O O (Ev (c:=v) O O<|w_x M x)<|Xf 1 [(2,iv<|v)] O<|kP<|zc0 ?_
  obtain rfl:=zm3 H
  exact zkA () Tryz.results252 O x<|λS w h=>wR
 replace H:=zn2 l H;refine kP<|QP O<|NZ<|VQ<|vU<|Xf 2 [(20,uv d2),(19,iv<|i2)] O ?_
 have⟨N,p,H⟩:=xI H;refine ZW O O (V8 (c:=(N:J)) Tryz.underlying54 Tryz.underlying5 O<|iW p<|wu8 _) ?_;have⟨y,hl,H⟩:=xI H;refine ZW O O (zgO (z:=y) Tryz.underlying9 O iT O (Nu p) hl)<|ZW O O (V8 (c:=(y:J)) Tryz.underlying5 Tryz.underlying3 O<|w64<|b_r<|H6 (Nu p) hl) ?_
 have⟨A,P,hc,H⟩:=JM H;refine ZW O O (Ev (c:=A) O O<|w_x P hc)<|Xf 1 [(2,iv<|A)] O<|kP<|zc0 ?_
 obtain rfl:=zm3 H;exact zkA () Tryz.results252 O hc<|λS w h=>wR
def XM:yb ⟨252,[.d .u],[.d .i],λx=>xW fu x.1,0⟩:=zmf iT λx r a h=>rV fu x a r h
def Zs:yb ⟨293,[.d .u],[.d .i],λx=>xB fu x.1,0⟩:=sq fu wk func293<|B (XM fu)<|cN
def KM:yb ⟨227,[.d .u,.d .u,.d .u],[.d .u,.d .u],λx=>jj fu x.1 x.2.1 x.2.2.1,0⟩:=sq fu ⟨[],[],[(17,q1 [(15,.d .u),(16,.d .u)] 0 [(15,.d .u)]),(24,q1 [(16,.d .u),(18,.d .u)] 2 [(18,.d .u)])],[],[],[],[]⟩ func227<|B (Zs fu)<|cN
def KT:yb ⟨302,[.d .u,.d .u],[.d .u,.d .u],λx=>jd fu x.1 x.2.1,0⟩:=sq fu wk func302<|cN
def RN:yb ⟨294,[.d .u,.d .u,.d .u,.d .u,.d .u],[.d .u],λx=>KO fu x.1 x.2.1 x.2.2.1 x.2.2.2.1 x.2.2.2.2.1,0⟩:=sq fu ⟨[],[],[(4,⟨⟨[(11,.d .u),(12,.d .u)],[]⟩,⟨[],[(.r,⟨[(10,.d .u)],[]⟩)]⟩⟩)],[],[],[],[]⟩ func294<|B (KM fu)<|B (KT fu)<|cN
def Pn:yb ⟨218,[.d .i,.d .u,.q jC,.q jC],[.d .u,.d .u],λx=>gf fu x.1 x.2.1 x.2.2.1 x.2.2.2.1,0⟩:=sq fu wk func218<|B (Ef fu)<|cN
def tZ:yb ⟨141,[.d jC,.d jC],[.own .u 54,.d .i],λx=>Jr fu x.1 x.2.1,0⟩:=sq fu wk func141<|B (Pn fu)<|B (Yf fu)<|B (xf fu)<|B (wK fu)<|cN
def Du:yb ⟨159,[.d jC,.d jC],[.own .u 54],λx=>X9 fu x.1 x.2.1,0⟩:=sq fu wk func159<|B (tZ fu)<|cN
def Rm:yb ⟨301,[.d .i,.d .u,.q jC,.q .u],[.d .u,.d .u],λx=>dh fu x.1 x.2.1 x.2.2.1 x.2.2.2.1,0⟩:=sq fu wk func301<|B (KT fu)<|cN
def Hi:yb ⟨225,[.d jC,.d .u],[.own .u 54],λx=>Jl fu x.1 x.2.1,0⟩:=sq fu wk func225<|B (Yf fu)<|B (Rm fu)<|cN
def AF:yb ⟨164,[.d jC,.d .u],[.own .u 54,.d .u],λx=>VD fu x.1 x.2.1,0⟩:=sq fu ⟨[],[],[(3,q1 [(7,.d .u),(8,.d .i),(6,.own .u 54)] 0 [(7,.d .u),(6,.own .u 54)])],[],[],[],[]⟩ func164<|B (KM fu)<|B (xf fu)<|B (wK fu)<|cN
def HI:yb ⟨203,[.d jC,.d jC],[.own .u 54,.d jC,.d .i],λx=>UI fu x.1 x.2.1,0⟩:=sq fu ⟨[],[(196612,⟨[],[(.n,⟨[(23,.d .b)],[]⟩)]⟩),(327686,⟨[],[(.n,⟨[(27,.d .b)],[]⟩)]⟩)],[(16,q1 [(10,.d jC),(16,.d .i),(12,.own .u 54),(15,.own .u 54)] 1 [(12,.own .u 54),(15,.own .u 54)]),(20,⟨⟨[(9,.d .i),(14,.d .i),(17,.d .u),(18,.d jC)],[]⟩,⟨[12,15],[(.x 3,⟨[(9,.d .i),(14,.d .i),(17,.d .u),(18,.d jC)],[]⟩)]⟩⟩)],[(23,[149])],[129],[],[]⟩ func203<|B (Hi fu)<|B (AF fu)<|B (Zs fu)<|B (RN fu)<|B (H2 fu)<|B (Hl fu)<|B (nC fu)<|B (sV fu)<|B (xf fu)<|B (wK fu)<|B (Du fu)<|cN
def jc:yb ⟨81,[.d .b,.d jC],[.d zN],λx=>xj fu x.1 x.2.1,0⟩:=sq fu wk func81<|B (nC fu)<|cN
def nS:yb ⟨137,[.d zN,.d zN],[.d zN,.d zN,.d .i],λx=>Wi fu x.1 x.2.1,0⟩:=sq fu ⟨[],[(327688,⟨[4,5],[(.n,⟨[(7,.own .u 54),(8,.d jC)],[]⟩)]⟩)],[],[],[],[],[]⟩ func137<|B (jc fu)<|B (HI fu)<|B (sK fu)<|B (tZ fu)<|cN
def Vz:yb ⟨73,[.d zN],[.d zN],λx=>jg fu x.1,0⟩:=sq fu wk func73<|B (jc fu)<|cN
def jo:yb ⟨70,[.d zN],[.d .i],λx=>xV fu x.1,0⟩:=sq fu ⟨[1],[],[],[],[],[],[]⟩ func70<|B (Vz fu)<|cN
def QJ:yb ⟨75,[.d zN,.d zN],[.d zN,.d .i],λx=>kU fu x.1 x.2.1,0⟩:=sq fu ⟨[],[(196612,⟨[4,6,7],[(.n,⟨[(16,.d .b)],[]⟩)]⟩)],[],[],[],[],[]⟩ func75<|B (nS fu)<|B (jo fu)<|cN
def My:yb ⟨158,[.d jC,.d jC],[.own .u 54],λx=>Q0 fu x.1 x.2.1,0⟩:=sq fu ⟨[],[(262149,⟨[5],[(.n,⟨[(0,.d jC),(18,.d jC),(19,.d .i),(21,.d .b)],[]⟩)]⟩),(524297,⟨[5,27],[(.n,⟨[(0,.d jC),(6,.d .i),(18,.d jC),(19,.d .i),(20,.d .i),(28,.d .i),(30,.d .b)],[]⟩)]⟩)],[(3,q1 [(20,.d .i),(5,.own .u 54)] 0 [(5,.own .u 54)]),(7,q1 [(8,.d .u),(29,.d .i),(5,.own .u 54),(27,.own .u 54)] 2 [(5,.own .u 54)])],[],[],[],[]⟩ func158<|B (Hi fu)<|B (xf fu)<|B (wK fu)<|cN
def zdK:X2:=⟨102,[.d jC,.d jC],[.own .u 54],λx=>Jo fu x.1 x.2.1,0⟩
def HD:∀fu:K,yb (zdK fu)
 |0=>sg0 iT λ_=>O
 |fu+1=>sq fu wk func102<|B (Aj fu)<|B (HD fu)<|B (sK fu)<|B (xf fu)<|B (wK fu)<|B (My fu)<|B (Du fu)<|cN
def xQ:yb ⟨78,[.d zN,.d zN],[.d zN],λx=>z8 fu x.1 x.2.1,0⟩:=sq fu wk func78<|B (jc fu)<|B (HD fu)<|cN
def YE:yb ⟨77,[.d zN,.d zN],[.d zN],λx=>qL fu x.1 x.2.1,0⟩:=sq fu ⟨[2,3],[(262150,⟨[4],[(.n,⟨[(2,.var zN 30),(3,.var zN 30)],[]⟩)]⟩)],[],[],[],[],[]⟩ func77<|B (jc fu)<|B (sK fu)<|B (Hl fu)<|B (tZ fu)<|cN
def nj:yb ⟨131,[.d zN],[.d zN],λx=>YN fu x.1,0⟩:=sq fu wk func131<|B (jc fu)<|cN
def Kd:yb ⟨138,[.d zN,.d zN],[.d zN],λx=>jv fu x.1 x.2.1,0⟩:=sq fu wk func138<|B (nj fu)<|B (YE fu)<|cN
def Dx:yb ⟨72,[.d .i,.d zN],[.d zN],λx=>JD fu x.1 x.2.1,0⟩:=sq fu wk func72<|B (Vz fu)<|cN
def xt:yb ⟨71,[.d y3,.fn [.i,zN] [zN]],[.own zN 30],λx=>zJ fu x.1<|λz0 a=>x.2.1 (z0,a,()),0⟩:=sq fu ⟨[],[(262149,⟨[5],[(.n,⟨[(11,.d y3),(12,.d .i),(14,.d .b)],[]⟩)]⟩)],[(3,q1 [(13,.d .i),(5,.own zN 30)] 0 [(5,.own zN 30)])],[],[],[],[]⟩ func71<|cN
def xl:yb ⟨21,[.d y3],[.own zN 30],λx=>zT fu x.1,0⟩:=sq fu ⟨[],[],[(1,q1 [(0,.d y3)] 0 [(0,.d y3)])],[],[],[],[]⟩ func21<|B (Dx fu)<|B (jo fu)<|B (xt fu)<|cN
def fK:X2:=⟨129,[.d y3,.d y3],[.own zN 30,.d .i],λx=>wz fu x.1 x.2.1,0⟩
def KK:yb (fK fu):=sq fu ⟨[],[(327687,⟨[1,6],[(.n,⟨[],[]⟩),(.r,⟨[],[(4,.nil),(5,.ci 4)]⟩)]⟩),(1048593,⟨[1,6,7,9],[(.n,⟨[(8,.d .i),(71,.d .i),(73,.d .b)],[]⟩)]⟩)],[(8,⟨⟨[(8,.d .i),(1,.own zN 30),(6,.own zN 30),(7,.own zN 30)],[]⟩,⟨[],[(.x 0,⟨[(6,.own zN 30),(7,.own zN 30)],[]⟩),(.r,⟨[(5,.d .i)],[(4,.nil)]⟩)]⟩⟩),(15,⟨⟨[(72,.d .i),(1,.own zN 30),(6,.own zN 30),(7,.own zN 30),(9,.var zN 30)],[(70,.al 1)]⟩,⟨[],[(.x 2,⟨[(1,.own zN 30),(6,.own zN 30),(7,.own zN 30)],[]⟩)]⟩⟩)],[(10,[])],[],[],[]⟩ func129<|B (Kd fu)<|B (QJ fu)<|B (xl fu)<|B (xQ fu)<|cN
def MM:yb ⟨61,[.d y3,.d y3],[.d .i],λx=>XH fu x.1 x.2.1,0⟩:=sq fu ⟨[],[],[(3,q1 [(5,.d .i),(6,.own zN 30),(7,.d .i)] 0 [(5,.d .i)])],[],[],[],[]⟩ func61<|B (KK fu)<|cN
def JZ:yb ⟨188,[.d .i],[.d .b],λx=>uQ fu x.1,0⟩:=sq fu ⟨[],[(131075,⟨[],[(.n,⟨[(3,.d .b)],[]⟩)]⟩)],[(3,q1 [(3,.d .b),(4,.d .i)] 0 [(3,.d .b)])],[],[],[],[]⟩ func188<|cN
def xw:yb ⟨28,[.d .i],[.d zN],λx=>yi fu x.1,0⟩:=sq fu wk func28<|B (jc fu)<|cN
def aZ:yb ⟨183,[.d jC],[.d .i],λx=>u5 fu x.1,0⟩:=sq fu wk func183<|B (XM fu)<|B (xf fu)<|B (wK fu)<|cN
def Tx:yb ⟨189,[.d zN,.d .i],[.d zN,.d .i],λx=>aF fu x.1 x.2.1,0⟩:=sq fu ⟨[],[(131075,⟨[4],[(.n,⟨[(8,.d .b)],[]⟩)]⟩)],[(7,⟨⟨[(1,.d .i),(7,.var zN 30),(6,.var zN 30)],[]⟩,⟨[4],[(.x 1,⟨[(6,.var zN 30)],[]⟩)]⟩⟩)],[],[],[],[]⟩ func189<|B (Vz fu)<|B (xw fu)<|B (xQ fu)<|B (aZ fu)<|cN
def JR:yb ⟨123,[.d .i,.d .i],[.d zN,.d .i],λx=>qN fu x.1 x.2.1,0⟩:=sq fu wk func123<|B (JZ fu)<|B (xw fu)<|B (Tx fu)<|cN
def db:yb ⟨336,[.d y3,.d zN,.fn [zN,zN] [zN,.i]],[.own zN 30,.d .i],λx=>qQ fu x.1 x.2.1<|λz0 a=>x.2.2.1 (z0,a,()),0⟩:=sq fu ⟨[],[(393223,⟨[8],[(.n,⟨[(4,.q zN),(17,.d y3),(18,.d .i),(20,.d .b)],[]⟩)]⟩)],[(5,q1 [(19,.d .i),(8,.own zN 30)] 0 [(8,.own zN 30)])],[],[],[],[]⟩ func336<|B (xl fu)<|B (jo fu)<|cN
def QU:yb ⟨313,[.d zN,.d zN],[.d zN,.d .i],λx=>jl fu x.1 x.2.1,0⟩:=sq fu wk func313<|B (nS fu)<|B (jo fu)<|cN
def oO:yb ⟨279,[.d y3,.d zN],[.own zN 30,.d .i],λx=>XA fu x.1 x.2.1,0⟩:=sq fu wk func279<|B (db fu)<|B (QU fu)<|cN
def Je:yb ⟨197,[.d y3,.d zN],[.own zN 30],λx=>xn fu x.1 x.2.1,0⟩:=sq fu wk func197<|B (oO fu)<|cN
def jH:yb ⟨268,[.d .i],[.d .i],λx=>w7 fu x.1,0⟩:=sq fu wk func268<|B (JZ fu)<|cN
def eN:yb ⟨317,[.d .i,.d .i],[.d .i],λx=>Ze fu x.1 x.2.1,0⟩:=sq fu wk func317<|cN
def DE:X2:=⟨329,[.d .i,.d .i],[.d .i,.d .i],λx=>Vr fu x.1 x.2.1,0⟩
def Ec:yb (DE fu):=sq fu ⟨[],[],[(5,⟨⟨[(7,.d .i),(8,.d .i),(9,.d .i),(10,.d .i)],[]⟩,⟨[],[(.x 0,⟨[(10,.d .i)],[]⟩),(.r,⟨[],[(4,.ci 0),(5,.ci 3)]⟩)]⟩⟩)],[],[],[],[]⟩ func329<|B (jH fu)<|B (eN fu)<|cN
def wa:yb ⟨269,[.d yK,.d .i],[.own .i 3],λx=>yg fu x.1 x.2.1,0⟩:=sq fu ⟨[],[],[(3,q1 [(13,.d .i),(5,.own .i 3)] 0 [(5,.own .i 3)]),(7,q1 [(5,.own .i 3)] 2 [(5,.own .i 3)])],[],[],[],[]⟩ func269<|B (eN fu)<|cN
def Ql:yb ⟨270,[.d yK,.d yK,.d .i],[.own .i 3,.own .i 3],λx=>xF fu x.1 x.2.1 x.2.2.1,0⟩:=sq fu ⟨[],[(851982,⟨[8,12],[(.n,⟨[(9,.d .i),(13,.d .i),(61,.d yK),(62,.d .i),(64,.d .b)],[]⟩)]⟩)],[(7,q1 [(9,.d .i),(8,.own .i 3),(12,.own .i 3)] 0 [(8,.own .i 3),(12,.own .i 3)]),(12,q1 [(1,.d yK),(2,.d .i),(10,.d .i),(63,.d .i),(8,.own .i 3),(12,.own .i 3)] 2 [(1,.d yK),(2,.d .i),(10,.d .i),(8,.own .i 3),(12,.own .i 3)])],[],[],[],[]⟩ func270<|B (Ec fu)<|B (wa fu)<|cN
def Yz:yb ⟨330,[.d yK,.d yK,.d .i],[.own .i 3],λx=>wQ fu x.1 x.2.1 x.2.2.1,0⟩:=sq fu ⟨[],[(262149,⟨[7],[(.n,⟨[(1,.d yK),(2,.d .i),(18,.d yK),(19,.d .i),(21,.d .b)],[]⟩)]⟩),(458760,⟨[7],[(.n,⟨[(1,.d yK),(2,.d .i),(8,.d .i),(9,.d .i),(18,.d yK),(19,.d .i),(20,.d .i),(25,.d yK),(26,.d .i),(28,.d .b)],[]⟩)]⟩)],[(3,q1 [(20,.d .i),(7,.own .i 3)] 0 [(7,.own .i 3)]),(6,q1 [(27,.d .i),(7,.own .i 3)] 2 [(7,.own .i 3)])],[],[],[],[]⟩ func330<|B (wa fu)<|cN
def dJ:yb ⟨371,[.d yK,.d yK,.d .i,.d .i],[.own .i 3],λx=>Y6 fu x.1 x.2.1 x.2.2.1 x.2.2.2.1,0⟩:=sq fu ⟨[],[(327686,⟨[9],[(.n,⟨[(2,.d .i),(3,.d .i),(21,.d yK),(22,.d .i),(24,.d .b)],[]⟩)]⟩)],[(4,q1 [(23,.d .i),(9,.own .i 3)] 0 [(9,.own .i 3)])],[],[],[],[]⟩ func371<|B (wa fu)<|cN
def Nb:yb ⟨333,[.d (.a 3 yK),.d (.a 3 yK),.d .i],[.d (.a 3 yK)],λx=>Xx fu x.1 x.2.1 x.2.2.1,0⟩:=sq fu ⟨[3],[(262149,⟨[3,6],[(.n,⟨[(2,.d .i),(4,.q (.a 3 yK)),(20,.d .b)],[]⟩)]⟩)],[(3,⟨⟨[(7,.d yK),(19,.d .i),(3,.var (.a 3 yK) 286),(6,.var (.a 3 yK) 286)],[]⟩,⟨[8],[(.x 0,⟨[(3,.var (.a 3 yK) 286),(6,.var (.a 3 yK) 286)],[]⟩)]⟩⟩)],[],[],[],[]⟩ func333<|B (Yz fu)<|B (dJ fu)<|B (Ql fu)<|cN
def gA:yb ⟨334,[.d yK,.d .i,.d .i],[.own .i 3],λx=>qK fu x.1 x.2.1 x.2.2.1,0⟩:=sq fu wk func334<|B (Ec fu)<|B (Yz fu)<|cN
def fE:yb ⟨277,[.d yK,.d yK,.d .i],[.d yK,.d yK,.d yK,.d .i],λx=>u7 fu x.1 x.2.1 x.2.2.1,0⟩:=sq fu ⟨[],[(589834,⟨[11],[(.n,⟨[(44,.d .b)],[]⟩)]⟩)],[(5,q1 [(11,.var (.a 3 yK) 286),(12,.var (.a 3 yK) 286)] 0 [(11,.var (.a 3 yK) 286)]),(11,q1 [(51,.d .i),(11,.var (.a 3 yK) 286)] 2 [(11,.var (.a 3 yK) 286)])],[],[],[],[]⟩ func277<|B (Nb fu)<|B (jH fu)<|B (wa fu)<|B (gA fu)<|cN
def fX:yb ⟨272,[.d yK,.d yK,.d .i],[.d yK,.d .i],λx=>kz fu x.1 x.2.1 x.2.2.1,0⟩:=sq fu wk func272<|B (fE fu)<|cN
def Kn:yb ⟨273,[.d yK,.d yK,.d .i],[.own .i 3,.d .i],λx=>kE fu x.1 x.2.1 x.2.2.1,0⟩:=sq fu wk func273<|B (Yz fu)<|B (jH fu)<|B (wa fu)<|cN
def Au:yb ⟨331,[.d yK,.d yK,.d .i],[.own .i 3,.d .i],λx=>VC fu x.1 x.2.1 x.2.2.1,0⟩:=sq fu wk func331<|B (dJ fu)<|B (jH fu)<|B (wa fu)<|cN
def DH:yb ⟨275,[.d yK,.d yK,.d .i],[.d .b],λx=>Xq fu x.1 x.2.1 x.2.2.1,0⟩:=sq fu wk func275<|B (Au fu)<|cN
def En:yb ⟨271,[.d yK,.d .i],[.d .b],λx=>XL fu x.1 x.2.1,0⟩:=sq fu ⟨[],[],[(2,⟨⟨[(9,.d .i)],[]⟩,⟨[],[(.x 0,⟨[],[]⟩),(.r,⟨[],[(4,.kb wL)]⟩)]⟩⟩)],[],[],[],[]⟩ func271<|cN
def U1:yb ⟨274,[.d (.l yK),.d .i],[.own .i 3],λx=>qu fu x.1 x.2.1,0⟩:=sq fu ⟨[],[],[(3,q1 [(5,.own .i 3),(11,.d .i)] 0 [(5,.own .i 3)])],[],[],[],[]⟩ func274<|B (Kn fu)<|cN
def Ni:yb ⟨314,[.d zN],[.d .i,.d .b],λx=>QK fu x.1,0⟩:=sq fu ⟨[1],[(196612,⟨[1],[(.n,⟨[(6,.d .b)],[]⟩)]⟩),(327686,⟨[1],[(.n,⟨[(11,.d .b)],[]⟩)]⟩),(458760,⟨[1],[(.n,⟨[(16,.d .b)],[]⟩)]⟩)],[],[],[],[],[]⟩ func314<|B (Vz fu)<|cN
def SF:yb ⟨256,[.d zN,.d .i],[.d .i,.d .i],λx=>KF fu x.1 x.2.1,0⟩:=sq fu ⟨[],[],[],[(1,[])],[],[],[]⟩ func256<|B (QU fu)<|B (Ni fu)<|B (xw fu)<|cN
def FR:yb ⟨255,[.d .i,.d zN,.q .i],[.d .i],λx=>WV fu x.1 x.2.1 x.2.2.1,0⟩:=sq fu wk func255<|B (SF fu)<|cN
def K5:yb ⟨254,[.d y3,.fn [.i,zN] [.i]],[.own .i 3],λx=>jJ fu x.1<|λz0 a=>x.2.1 (z0,a,()),0⟩:=sq fu ⟨[],[(262149,⟨[5],[(.n,⟨[(11,.d y3),(12,.d .i),(14,.d .b)],[]⟩)]⟩)],[(3,q1 [(13,.d .i),(5,.own .i 3)] 0 [(5,.own .i 3)])],[],[],[],[]⟩ func254<|cN
def VO:yb ⟨186,[.d y3,.d .i],[.own .i 3,.d .i],λx=>Zt fu x.1 x.2.1,0⟩:=sq fu ⟨[],[],[(4,q1 [(6,.own .i 3)] 0 [(6,.own .i 3)])],[],[],[],[]⟩ func186<|B (K5 fu)<|B (FR fu)<|cN
def DS:yb ⟨195,[.d y3,.d (.l yK),.d .i],[.d .b],λx=>vC fu x.1 x.2.1 x.2.2.1,0⟩:=sq fu ⟨[],[(393223,⟨[7],[(.n,⟨[(0,.d y3),(1,.d (.l yK)),(2,.d .i),(40,.d (.l yK)),(41,.d .i),(43,.d .b)],[]⟩)]⟩)],[(5,⟨⟨[(42,.d .i),(7,.own .i 3)],[]⟩,⟨[],[(.x 0,⟨[(7,.own .i 3)],[]⟩),(.r,⟨[],[(6,.kb wL)]⟩)]⟩⟩),(10,⟨⟨[(62,.d .i)],[]⟩,⟨[7],[(.x 2,⟨[],[]⟩),(.r,⟨[],[(6,.kb wL)]⟩)]⟩⟩)],[],[],[],[]⟩ func195<|B (En fu)<|B (fX fu)<|B (Kn fu)<|B (U1 fu)<|B (DH fu)<|B (VO fu)<|cN
def sS:yb ⟨335,[.d y3,.d y3,.d zN],[.d y3,.own zN 30],λx=>kq fu x.1 x.2.1 x.2.2.1,0⟩:=sq fu ⟨[],[(589834,⟨[8,9],[(.n,⟨[(10,.d .i),(47,.d y3),(48,.d .i),(50,.d .b)],[]⟩)]⟩)],[(4,q1 [(10,.d .i),(8,.own zN 30),(9,.own zN 30)] 0 [(8,.own zN 30),(9,.own zN 30)]),(8,q1 [(1,.d y3),(5,.q zN),(49,.d .i),(8,.own zN 30),(9,.own zN 30)] 2 [(1,.d y3),(5,.q zN),(8,.own zN 30),(9,.own zN 30)])],[(6,[])],[],[],[]⟩ func335<|B (QU fu)<|B (Kd fu)<|B (Je fu)<|B (xQ fu)<|cN
def FM:yb ⟨348,[.d .i,.d zN,.q y3],[.d zN],λx=>um fu x.1 x.2.1 x.2.2.1,0⟩:=sq fu wk func348<|B (YE fu)<|cN
def Af:yb ⟨309,[.d y3,.d y3],[.own zN 30],λx=>qs fu x.1 x.2.1,0⟩:=sq fu ⟨[3],[],[],[],[],[],[]⟩ func309<|B (FM fu)<|B (xl fu)<|B (xt fu)<|cN
def Ad:yb ⟨25,[.d y3,.d y3],[.own zN 30],λx=>xD fu x.1 x.2.1,0⟩:=sq fu ⟨[],[(262149,⟨[5],[(.n,⟨[(1,.d y3),(16,.d y3),(17,.d .i),(19,.d .b)],[]⟩)]⟩),(458760,⟨[5,7],[(.n,⟨[(1,.d y3),(6,.d .i),(16,.d y3),(17,.d .i),(18,.d .i),(23,.d y3),(24,.d .i),(26,.d .b)],[]⟩)]⟩)],[(3,q1 [(18,.d .i),(5,.own zN 30)] 0 [(5,.own zN 30)]),(6,q1 [(25,.d .i),(5,.own zN 30),(7,.var zN 30)] 2 [(5,.own zN 30)])],[],[],[],[]⟩ func25<|B (xl fu)<|B (YE fu)<|B (xQ fu)<|cN
def Dn:yb ⟨143,[.d .i,.d .i],[.d zN],λx=>XX fu x.1 x.2.1,0⟩:=sq fu wk func143<|B (xw fu)<|cN
def Uq:yb ⟨142,[.d yK,.fn [.i,.i] [zN]],[.own zN 30],λx=>jF fu x.1<|λz0 a=>x.2.1 (z0,a,()),0⟩:=sq fu ⟨[],[],[(3,q1 [(13,.d .i),(5,.own zN 30)] 0 [(5,.own zN 30)])],[],[],[],[]⟩ func142<|cN
def rA:yb ⟨80,[.d yK],[.own zN 30],λx=>ji fu x.1,0⟩:=sq fu wk func80<|B (xl fu)<|B (Uq fu)<|B (Dn fu)<|cN
def Et:yb ⟨27,[.d yK],[.own zN 30],λx=>Wo fu x.1,0⟩:=sq fu wk func27<|B (rA fu)<|cN
def By:yb ⟨249,[.d .i,.d zN,.q zN],[.d zN],λx=>VU fu x.1 x.2.1 x.2.2.1,0⟩:=sq fu wk func249<|B (xQ fu)<|cN
def W8:yb ⟨180,[.d y3,.d zN],[.own zN 30],λx=>qk fu x.1 x.2.1,0⟩:=sq fu wk func180<|B (By fu)<|B (xl fu)<|B (xt fu)<|cN
def AE:yb ⟨248,[.d y3,.d y3],[.own zN 30],λx=>kF fu x.1 x.2.1,0⟩:=sq fu wk func248<|B (W8 fu)<|B (xw fu)<|B (Af fu)<|cN
def sE:yb ⟨278,[.d (.a 4 y3),.d y3,.d zN],[.d (.a 4 y3)],λx=>kt fu x.1 x.2.1 x.2.2.1,0⟩:=sq fu wk func278<|B (Je fu)<|B (sS fu)<|B (Af fu)<|B (AE fu)<|B (Ad fu)<|B (Et fu)<|cN
def tV:yb ⟨372,[.d (.p zN (.p zN zN)),.d zN,.d (.p zN (.p zN zN))],[.d (.p zN (.p zN zN))],λx=>Zy fu x.1 x.2.1 x.2.2.1,0⟩:=sq fu wk func372<|B (Kd fu)<|B (xQ fu)<|cN
def FO:yb ⟨332,[.d zN,.d zN],[.d zN,.d zN,.d zN],λx=>Vd fu x.1 x.2.1,0⟩:=sq fu ⟨[],[(393224,⟨[4,5,6],[(.n,⟨[(7,.var (.p zN (.p zN zN)) 323)],[]⟩)]⟩),(524298,⟨[4,5,6],[(.n,⟨[(7,.var (.p zN (.p zN zN)) 323)],[]⟩)]⟩)],[(2,⟨⟨[(7,.var (.p zN (.p zN zN)) 323),(8,.var (.p zN (.p zN zN)) 323)],[]⟩,⟨[4,5,6],[(.x 0,⟨[(7,.var (.p zN (.p zN zN)) 323)],[]⟩)]⟩⟩)],[(1,[]),(9,[])],[],[],[]⟩ func332<|B (nj fu)<|B (jo fu)<|B (nS fu)<|B (jc fu)<|B (tV fu)<|B (xw fu)<|cN
def NW:yb ⟨276,[.d y3,.d zN],[.own zN 30],λx=>Jd fu x.1 x.2.1,0⟩:=sq fu ⟨[],[],[],[(1,[])],[],[],[]⟩ func276<|B (W8 fu)<|B (FO fu)<|B (Je fu)<|cN
def Gq:X2:=⟨196,[.d y3,.d (.l yK),.d .i,.d .i,.d zN],[.own y3 22],λx=>qq fu x.1 x.2.1 x.2.2.1 x.2.2.2.1 x.2.2.2.2.1,0⟩
def iY:∀fu:K,yb (Gq fu)
 |0=>sg0 iT λ_=>O
 |fu+1=>sq fu ⟨[],[],[(10,q1 [(22,.d .i),(21,.var (.a 4 y3) 252)] 0 [(21,.var (.a 4 y3) 252)])],[(14,[])],[],[],[]⟩ func196<|B (iY fu)<|B (rA fu)<|B (Kn fu)<|B (U1 fu)<|B (NW fu)<|B (fE fu)<|B (sE fu)<|B (VO fu)<|B (JR fu)<|cN
def mj:yb ⟨125,[.d y3,.d (.l yK),.d .i,.d .i],[.own y3 22,.d .i],λx=>jD fu x.1 x.2.1 x.2.2.1 x.2.2.2.1,0⟩:=sq fu wk func125<|B (DS fu)<|B (iY fu)<|B (Je fu)<|B (xl fu)<|B (JR fu)<|cN
def LQ:yb ⟨281,[.d y3,.d y3,.d zN],[.d y3,.d .i],λx=>Jg fu x.1 x.2.1 x.2.2.1,0⟩:=sq fu wk func281<|B (Ad fu)<|B (oO fu)<|cN
def Jw:yb ⟨76,[.d zN,.d zN],[.d .i],λx=>kM fu x.1 x.2.1,0⟩:=sq fu wk func76<|B (Kd fu)<|B (jo fu)<|cN
def NL:yb ⟨337,[.d zN,.d zN],[.d zN,.d .i],λx=>XO fu x.1 x.2.1,0⟩:=sq fu wk func337<|B (QU fu)<|B (Kd fu)<|B (Jw fu)<|B (YE fu)<|cN
def Gr:yb ⟨282,[.d y3,.d zN],[.own zN 30,.d .i],λx=>W4 fu x.1 x.2.1,0⟩:=sq fu wk func282<|B (db fu)<|B (NL fu)<|cN
def Df:yb ⟨130,[.d zN,.d zN],[.d zN],λx=>Ju fu x.1 x.2.1,0⟩:=sq fu ⟨[],[],[(2,⟨⟨[(5,.d jC),(6,.d jC)],[]⟩,⟨[4],[(.x 0,⟨[(5,.d jC)],[]⟩)]⟩⟩)],[],[],[],[]⟩ func130<|B (nC fu)<|B (jc fu)<|B (HI fu)<|cN
def Qe:yb ⟨62,[.d y3],[.d zN],λx=>vR fu x.1,0⟩:=sq fu ⟨[],[(327686,⟨[0,2,3],[(.n,⟨[(10,.d .i),(12,.d .b)],[]⟩)]⟩)],[(4,⟨⟨[(11,.d .i),(0,.own zN 30),(2,.var zN 30),(3,.var zN 30)],[(9,.al 0)]⟩,⟨[],[(.x 0,⟨[(0,.own zN 30),(2,.var zN 30),(3,.var zN 30)],[]⟩)]⟩⟩)],[],[],[],[]⟩ func62<|B (Df fu)<|B (nj fu)<|B (xw fu)<|B (xl fu)<|cN
def DD:yb ⟨74,[.d .i,.d zN,.q zN],[.d zN],λx=>J2 fu x.1 x.2.1 x.2.2.1,0⟩:=sq fu wk func74<|B (QJ fu)<|cN
def ay:X2:=⟨23,[.d y3],[.own zN 30],λx=>xL fu x.1,0⟩
def ZJ:yb (ay fu):=sq fu wk func23<|B (DD fu)<|B (xl fu)<|B (Qe fu)<|B (xt fu)<|cN
def ZY:X2:=⟨199,[.d y3,.d tzQ,.own .i 3,.d zN],[.d y3,.own .i 3],λx=>jV fu x.1 x.2.1 x.2.2.1 x.2.2.2.1,1⟩
def iM:yb (ZY fu):=sgb (fu:=fu) ⟨[],[(262149,⟨[2],[(.n,⟨[(1,.d tzQ),(7,.q zN),(18,.d .i),(20,.d .b)],[]⟩)]⟩)],[(3,⟨⟨[(9,.d y3),(19,.d .i),(2,.own .i 3)],[(17,.al 2)]⟩,⟨[],[(.x 0,⟨[(9,.d y3),(2,.own .i 3)],[]⟩)]⟩⟩)],[],[],[],[]⟩ func199 (B (LQ fu)<|B (Gr fu)<|B (ZJ fu)<|cN) iT λa x=>by kernel_rfl
def WB:Gf:=⟨280,[.q .i,.q .i],.i,3,λx _ _ g x0=>vj fu x.1 x.2.1 g x0⟩
def anC:An:=⟨[],[],[(2,⟨⟨[(4,.own .i 3),(12,.d .i)],[]⟩,⟨[0],[(.x 0,⟨[(4,.own .i 3)],[]⟩)]⟩⟩),(8,⟨⟨[(6,.d .i)],[]⟩,⟨[0,4],[(.x 4,⟨[(6,.d .i)],[]⟩)]⟩⟩),(13,⟨⟨[(7,.d .i),(4,.own .i 3)],[]⟩,⟨[0],[(.x 6,⟨[(4,.own .i 3)],[]⟩)]⟩⟩)],[],[],[],[]⟩
def zk3:Wn->Wn|.seq a _=>a|c=>c
def Il:Wn->Wn|.seq _ b=>b|c=>c
def kIn:Wn->Wn|.block _ c=>c|.loop c=>c|c=>c
def IF(f:QR):Wn:=match f.body with|some c=>c|none=> .skip
noncomputable def kA:Wn:=zk3<|IF f280
noncomputable def kB:Wn:=zk3<|Il<|IF f280
noncomputable def kC:Wn:=kIn<|kIn<|Il<|Il<|IF f280
section
variable{X Y R:Type}{mX:X->wN->MF}{mY:Y->wN->MF}{g:xS wl->X->ww (xS wl×(X⊕Y))}{n all:wl}
def cfC:Cf:=⟨tt,[],anC,fu,ex,[],[],[],[],[]⟩
def S0(mX:X->wN->MF)(mY:Y->wN->MF)(g:N J->X->V (N J×(X⊕Y)))(n all:J)(x0:X):Sg:=⟨1,[(0,0,.yd 0),(1,0,.q .i n),(2,0,.q .i all)],[(0,.hid .i 3 X Y mX mY g x0)]⟩
def S1(mX:X->wN->MF)(mY:Y->wN->MF)(g:N J->X->V (N J×(X⊕Y)))(n all:J)(x0:X)(xs:N J):Sg:=⟨2,[(4,0,.ow 1),(9,0,.ow 1),(8,0,.d .i n),(0,0,.yd 0),(1,0,.q .i n),(2,0,.q .i all)],[(1,.own .i 3 xs),(0,.hid .i 3 X Y mX mY g x0)]⟩
def S2(mX:X->wN->MF)(mY:Y->wN->MF)(g:N J->X->V (N J×(X⊕Y)))(n all:J)(x0:X)(xs ys:N J):Sg:=⟨3,[(4,0,.ow 2),(4,0,.ow 2),(11,0,.d .i (i7 xs:J)),(8,0,.d .i n),(0,0,.yd 0),(1,0,.q .i n),(2,0,.q .i all)],[(2,.own .i 3 ys),(0,.hid .i 3 X Y mX mY g x0)]⟩
def Sn(mX:X->wN->MF)(mY:Y->wN->MF)(g:N J->X->V (N J×(X⊕Y)))(n all:J)(x:X)(xs:N J)(b a c y x0:J):Sg:=
 ⟨5,[(4,0,.ow 4),(4,0,.ow 4),(51,0,.d .i b),(50,0,.d .i a),(48,0,.d .i c),(47,0,.d .i y),(45,0,.d .i a),(43,0,.kb wL),(42,0,.d .i a),(6,0,.d .i a),(6,0,.d .i a),(25,0,.d .i x0),(24,0,.d .i n),(23,0,.kb wL),(22,0,.kb I),(20,0,.yd 2),(0,0,.yd 2),(1,0,.q .i n),(2,0,.q .i all)],[(4,.own .i 3 xs),(2,.hid .i 3 X Y mX mY g x)]⟩
def Sr(mX:X->wN->MF)(mY:Y->wN->MF)(g:N J->X->V (N J×(X⊕Y)))(n all:J)(x:X)(x0 a:J)(xs:N J):Sg:=
 ⟨4,[(43,0,.kb I),(42,0,.d .i a),(6,0,.d .i a),(6,0,.d .i a),(25,0,.d .i x0),(24,0,.d .i n),(23,0,.kb wL),(22,0,.kb I),(21,0,.ow 1),(20,0,.yd 2),(4,0,.ow 1),(0,0,.yd 2),(1,0,.q .i n),(2,0,.q .i all)],[(2,.hid .i 3 X Y mX mY g x),(1,.own .i 3 xs)]⟩
def Sy(mY:Y->wN->MF)(n all:J)(y:Y)(xs:N J):Sg:=
 ⟨3,[(23,0,.kb I),(22,0,.kb wL),(21,0,.ow 1),(20,0,.yd 2),(4,0,.ow 1),(0,0,.yd 2),(1,0,.q .i n),(2,0,.q .i all)],[(2,.hiy Y mY y),(1,.own .i 3 xs)]⟩
def zrt(x0:X)(K:Tg->Sg->V R):iR (cfC fu) kA ⟨0,[],[]⟩ (S0 mX mY g n all x0) K=kv n λm=>ck (8*m<=281474976710656)<|C (Nm m 0) λxs=>K .n (S1 mX mY g n all x0 xs):=iT
def zrb(x0:X)(xs:N J)(K:Tg->Sg->V R):iR (cfC fu) kB ⟨0,[],[]⟩ (S1 mX mY g n all x0 xs) K=G (zg (λL (z:N J×J)=>
 if z.2<(i7 xs:J)then
  zG z.2 (i7 z.1) λj=>
  C (z.1.set j z.2) λxs=>
  E (z.2+1) λi=>L (xs,i)
 else Z z.1) fu (xs,0)) λys=>K .n (S2 mX mY g n all x0 xs ys):=iT
def zrx(x:X)(xs:N J)(K:Tg->Sg->V R):iR (cfC fu) kC ⟨0,[],[]⟩ (chS 3 mX mY g n all x xs) K=
 qA fu n all g x xs (λx xs a b c d e=>K .n<|Sn mX mY g n all x xs a b c d e) (λx a b xs=>K .r<|Sr mX mY g n all x a b xs) λy xs=>K .r (Sy mY n all y xs):=iT
def zi4(g:xS J->X->V (xS J×(X⊕Y)))(x0:X)(r:X⊕Y)(l:wr)(v1 H u:wN)(we:wP)(Se:wr->Prop)(F:xS MF)(G:xS FF)(w:wP)(hY:Oq Tryz.prog l eI 3 mX mY g)
 (hg:St we Se (mX x0 u::F) (ky Tryz.prog [.q .i,.q .i] (n,all,()) [v1,H]++G) w) (hM:vj fu n all g x0=Z r):
 Ul Tryz.prog 280 #[.func (.yield l) #[] #[],v1,H] w λe w'=>(∃v,e=.returned v)/\∃B,St we Se (xfe (λx=>mX x B) (λy=>mY y B) r::F) G w':=by
 have hX:Cx Tryz.prog (cfC fu):=.of zaS O;have hD:∀c,TB 66 c=I->Hp Tryz.prog (cfC fu) 66 c:=λc h=>X4 S6 zal zaP cN hX c h;refine U4 (args:=[.func (.yield l) #[] #[],v1,H]) (c:=IF f280) func280 O iT λrest=> ?_;have hi:Z1 Tryz.prog (Fr.wd ⟨we,Se,F,G⟩ []) ⟨0,[],[]⟩ (S0 mX mY g n all x0) (L ((([Value.func (.yield l) #[] #[],v1,H]:xS wN).zipIdx 0).map λx=>(x.2,x.1)) rest) w:=by
  refine⟨⟨λe D=> ?_,λ_ D=>wS D H1,λe D q hq=> ?_,λ_ D=>wS D H1⟩,λ_=>K6 (.int .i64 (l:J)) [u],?_⟩
  ·obtain rfl:=xad.1 D;exact xen
  ·simp only[S0,xag,H1,gC]at D;obtain rfl|rfl|rfl:=D<;>cases hq<;>exact xen
  ·have h1:St we Se (Ki (λ_=>K6 (.int .i64 (l:J)) [u]) (0,.hid .i 3 X Y mX mY g x0)::F) (ky Tryz.prog [.q .i,.q .i] (n,all,()) [v1,H]++G) w:=St.grp.2<|St.pr hY hg;exact h1.weak λS w T=>⟨O,T.1,T.2.1,T.2.2⟩
 have⟨f2,hd⟩:∃f2:xS J->V (X⊕Y),f2=λxs=>zg (λL (q:X×xS J)=>qA fu n all g q.1 q.2 (λx xs _ _ _ _ _=>L (x,xs)) (λx _ _ _=>Z (.inl x)) λy _=>Z (.inr y)) fu (x0,xs):=⟨_,O⟩;have⟨f1,hf⟩:∃f1:xS J->V (X⊕Y),f1=λxs=>bd (zg (λL (z:xS J×J)=>
  if z.2<(i7 xs:J)then
   zG z.2 (i7 z.1) λj=>
   C (z.1.set j z.2) λxs=>
   E (z.2+1) λi=>L (xs,i)
  else Z z.1) fu (xs,0)) f2:=⟨_,O⟩
 have hj:(kv n λm=>ck (8*m<=281474976710656)<|C (Nm m 0) f1)=Z r:=by rw[hf,hd];exact hM
 refine BP (x:=kA) (y:=Il<|IF f280) ?_;have⟨K,k1,k2⟩:=zeV (λxs:xS J=>(Tg.n,S1 mX mY g n all x0 xs)) f1 (λi j h=>by
  have f:Od.own .i 3 i=Od.own .i 3 j:=by simpa[S1]using h
  cases f;rfl)
 have k1:∀xs,K .n (S1 mX mY g n all x0 xs)=f1 xs:=k1;refine hD kA iT (N:=Nd.of 66) (K:=K) O (.inl O) (r:=r) ((zrt fu x0 K).trans<|by simp only[k1];exact hj) (λt σ' M Ds env w _ s=> ?_) hi;have⟨xs,e1,e2⟩:=k2 _ _ _ M;cases e1;refine BP (x:=kB) (y:=Il<|Il<|IF f280) ?_;have⟨K,k1,k2⟩:=zeV (λys:xS J=>(Tg.n,S2 mX mY g n all x0 xs ys)) f2 (λi j h=>by
  have f:Od.own .i 3 i=Od.own .i 3 j:=by simpa[S2]using h
  cases f;rfl)
 have k1:∀ys,K .n (S2 mX mY g n all x0 xs ys)=f2 ys:=k1;refine hD kB iT (N:=Nd.of 66) (K:=K) O (.inl O) (r:=r) ((zrb fu x0 xs K).trans<|by simp only[k1];rw[hf]at e2;exact e2) (λt σ' M Ds env w _ s=> ?_) s;have⟨ys,e3,e4⟩:=k2 _ _ _ M;cases e3;have hm:Z1 Tryz.prog (Fr.wd ⟨we,Se,F,G⟩ Ds) ⟨0,[],[]⟩ (chS 3 mX mY g n all x0 ys) env w:=zk8 (o:=0) (p:=2) O O O O O O O s;refine HO (id:=2) (c:=.loop kC) ?_;have⟨body,hb⟩:∃body:((X×xS J)->V (X⊕Y))->(X×xS J)->V (X⊕Y),body=λL q=>qA fu n all g q.1 q.2 (λx xs _ _ _ _ _=>L (x,xs)) (λx _ _ _=>Z (.inl x)) λy _=>Z (.inr y):=⟨_,O⟩;refine PW (G:=wr×(X×xS J)) (λq Ds env w=>zg body q.1 q.2=Z r/\Z1 Tryz.prog (Fr.wd ⟨we,Se,F,G⟩ Ds) ⟨0,[],[]⟩ (chS 3 mX mY g n all q.2.1 q.2.2) env w) (λq=>q.1) (fu,(x0,ys)) ⟨by rw[hb];rw[hd]at e4;exact e4,hm⟩ ?_;rintro⟨k,x,xs⟩ Ds env w ⟨hl,s⟩
 cases k with
 |zero=>exact(zcL hl).elim
 |succ k=>
  have hl:=zbB hl
  have⟨K,k1,k2⟩:=zeV (ι:=(X×xS J×J×J×J×J×J)⊕((X×J×J×xS J)⊕(Y×xS J)))
   (λq=>match q with
    |.inl (x,xs,a,b,c,d,e)=>(Tg.n,Sn mX mY g n all x xs a b c d e)
    |.inr (.inl (x,a,b,xs))=>(Tg.r,Sr mX mY g n all x a b xs)
    |.inr (.inr (y,xs))=>(Tg.r,Sy mY n all y xs))
   (λq=>match q with
    |.inl (x,xs,_,_,_,_,_)=>zg body k (x,xs)
    |.inr (.inl (x,_,_,_))=>Z (.inl x)
    |.inr (.inr (y,_))=>Z (.inr y)) (λi j h=>by
   rcases i with⟨x,xs,a,b,c,d,e⟩|⟨x,a,b,xs⟩|⟨y,xs⟩<;>rcases j with⟨U,A,a',b',c',d',e'⟩|⟨U,a',b',A⟩|⟨y',A⟩
   ·have f:=kW (λq:Tg×Sg=>q.2.ob) h
    simp only[Sn,xeG,xdd,true_and,and_true]at f
    have⟨P,h4⟩:=f
    cases P;cases h4;rfl
   ·cases kW Prod.fst h
   ·cases kW Prod.fst h
   ·cases kW Prod.fst h
   ·have f:=kW (λq:Tg×Sg=>q.2.ob) h
    simp only[Sr,xeG,xdd,true_and,and_true]at f
    have⟨P,h4⟩:=f
    cases P;rfl
   ·exact wS (kW (λq:Tg×Sg=>q.2.nx) h)<|by simp[Sr,Sy]
   ·cases kW Prod.fst h
   ·exact wS (kW (λq:Tg×Sg=>q.2.nx) h)<|by simp[Sr,Sy]
   ·have f:=kW (λq:Tg×Sg=>q.2.ob) h
    simp only[Sy,xeG,xdd,true_and,and_true]at f
    have⟨P,h4⟩:=f
    cases P;rfl)
  have q1:∀x xs a b c d e,K .n (Sn mX mY g n all x xs a b c d e)=zg body k (x,xs):=λx xs a b c d e=>k1 (.inl (x,xs,a,b,c,d,e));have q2:∀x a b xs,K .r (Sr mX mY g n all x a b xs)=Z (.inl x):=λx a b xs=>k1 (.inr (.inl (x,a,b,xs)));have q3:∀y xs,K .r (Sy mY n all y xs)=Z (.inr y):=λy xs=>k1 (.inr (.inr (y,xs)));refine hD kC iT (N:=Nd.of 66) (K:=K) O (.inl O) (r:=r) ((zrx fu x xs K).trans<|by simp only[q1,q2,q3];rw[hb]at hl⊢;exact hl) (λt σ' M Ds env w _ s=> ?_) s;have⟨i,e5,e6⟩:=k2 _ _ _ M
  have Q:∀(t:Tg) (env:y4) (w:wP),(∃B,St we Se (xfe (λx=>mX x B) (λy=>mY y B) r::F) G<|jM Ds w)->DP Ds w->∀a:V6,yR a=env->
   ∃v,(Jp f280 a.tmps).run Tryz.prog (jM Ds w)=.ok v (jM Ds w)/\(∃v',xeI v=.returned v')/\∃B,St we Se (xfe (λx=>mX x B) (λy=>mY y B) r::F) G (jM Ds w):=λt env w h1 f a T=>⟨_,VI (rs:=[]) (vs:=[]) O wR,⟨_,O⟩,h1⟩
  rcases i with⟨U,A,a,b,c,d,e⟩|⟨U,a,b,A⟩|⟨y',A⟩
  ·cases e5;exact⟨(k,(U,A)),⟨e6,zk8 (o:=2) (p:=4) O O O O O O O s⟩,xdj k⟩
  ·cases e5;cases e6;have⟨hc,s⟩:=JS s;exact⟨.inr O,hc,Q .r _ _ (zng (o:=2) O s) hc⟩
  ·cases e5;cases e6;have⟨hc,s⟩:=JS s;exact⟨.inr O,hc,Q .r _ _ (znW (o:=2) O s) hc⟩
end
def tH:zfD Tryz.prog (WB fu):=by
 refine⟨iT,?_⟩;rintro⟨n,a,_⟩ X Y h i g x0 r b l vs c d u we Se F G w e
 match vs,c with
 |[v1,f],_=>exact zi4 fu g x0 r l v1 f u we Se F G w d e b
def Xy:PY:=⟨198,[.i,.i],280,λx=>[⟨.i,x.2.1⟩,⟨.i,x.1⟩]⟩
def Fu:zaA Tryz.prog Xy:=zmz (s:=Xy) (cf:=⟨tt,[],wk,0,ex,[],[],[],[],[]⟩) S6 zal zaP cN (.of zaS O) func198 iT λx=>by kernel_rfl
def Xz:yb ⟨338,[.d yK,.d .i],[.d .i],λx=>Xu fu x.1 x.2.1,0⟩:=sq fu ⟨[],[],[(2,⟨⟨[(8,.d .i)],[]⟩,⟨[],[(.x 0,⟨[],[]⟩),(.r,⟨[(4,.d .i)],[]⟩)]⟩⟩)],[],[],[],[]⟩ func338<|cN
def Kk:yb ⟨338,[.own .i 3,.d .i],[.d .i,.own .i 3],λx=>qX fu x.1 x.2.1,1⟩:=sgb (fu:=fu) ⟨[],[],[(2,⟨⟨[(8,.d .i)],[]⟩,⟨[0],[(.x 0,⟨[],[]⟩),(.r,⟨[(4,.d .i)],[]⟩)]⟩⟩)],[],[],[],[]⟩ func338 (cN) iT λa x=>by kernel_rfl
def Kj:yb ⟨283,[.d yK,.d .i],[.d .b],λx=>ZT fu x.1 x.2.1,0⟩:=sq fu wk func283<|B (Xz fu)<|cN
def Qi:yb ⟨283,[.own .i 3,.d .i],[.d .b,.own .i 3],λx=>wc fu x.1 x.2.1,1⟩:=sgb (fu:=fu) wk func283 (B (Kk fu)<|B (Xz fu)<|cN) iT λa x=>by kernel_rfl
def qZ:X2:=⟨200,[.d tzQ,.own .i 3],[.d tzQ,.own .i 3],λx=>xN fu x.1 x.2.1,1⟩
def Kl:yb (qZ fu):=sgb (fu:=fu) ⟨[],[(262149,⟨[1,5],[(.n,⟨[(8,.d tzQ),(9,.d .i),(11,.d .b)],[]⟩)]⟩)],[(3,q1 [(5,.own y3 22),(10,.d .i),(1,.own .i 3)] 0 [(5,.own y3 22),(1,.own .i 3)])],[],[],[],[]⟩ func200 (B (Qi fu)<|B (Kj fu)<|cN) iT λa x=>by kernel_rfl
def lY:X2:=⟨126,[.d y3,.d tzQ,.d zN],[.own y3 22],λx=>Yg fu x.1 x.2.1 x.2.2.1,0⟩
def GX:yb (lY fu):=zac (s:=lY fu) (cf:=⟨tt,[ZY fu,fK fu,qZ fu,ay fu],⟨[3,4],[],[(3,q1 [(3,.var y3 22),(4,.var tzQ 55),(7,.bo y3 22 55),(8,.d .i)] 0 [(3,.var y3 22),(4,.var tzQ 55),(7,.bo y3 22 55)]),(6,q1 [(3,.var y3 22),(4,.var tzQ 55),(7,.bo y3 22 55)] 1 [])],[(13,[56,57])],[],[7],[]⟩,fu,ex,[],[Xy],[WB fu],[],[]⟩) S6 zal zaP (B (iM fu)<|B (KK fu)<|B (Kl fu)<|B (ZJ fu)<|cN) ⟨zaS,λs h=>by obtain rfl:=xad.1 h;exact Fu,λ_ h=>wS h H1,λs h=>by obtain rfl:=xad.1 h;exact tH fu,O,λ_ h=>wS h H1,λ_ h=>wS h H1⟩ func126 iT O λx r h=>(id iT:zar ⟨tt,[ZY fu,fK fu,qZ fu,ay fu],⟨[3,4],[],[(3,q1 [(3,.var y3 22),(4,.var tzQ 55),(7,.bo y3 22 55),(8,.d .i)] 0 [(3,.var y3 22),(4,.var tzQ 55),(7,.bo y3 22 55)]),(6,q1 [(3,.var y3 22),(4,.var tzQ 55),(7,.bo y3 22 55)] 1 [])],[(13,[56,57])],[],[7],[]⟩,fu,ex,[],[Xy],[WB fu],[],[]⟩ f126 [.d y3,.d tzQ,.d zN] [.own y3 22] x=Yg fu x.1 x.2.1 x.2.2.1).trans h
def Ln:yb ⟨24,[.d y3,.d y3],[.d .b],λx=>ZS fu x.1 x.2.1,0⟩:=sq fu ⟨[],[],[(5,⟨⟨[(5,.d .i)],[]⟩,⟨[0,1],[(.x 0,⟨[],[]⟩),(.r,⟨[(4,.d .b)],[]⟩)]⟩⟩)],[],[],[],[]⟩ func24<|B (Jw fu)<|B (xl fu)<|cN
def CF:yb ⟨128,[.d y3,.d y3],[.d .i],λx=>j8 fu x.1 x.2.1,0⟩:=sq fu wk func128<|B (Ln fu)<|cN
def Ru:yb ⟨250,[.d zN,.d .i],[.d zN,.d .i],λx=>KP fu x.1 x.2.1,0⟩:=sq fu ⟨[],[],[(6,⟨⟨[(4,.var zN 30),(6,.var zN 30),(9,.var zN 30)],[]⟩,⟨[],[(.r,⟨[(4,.var zN 30)],[(5,.ci 0)]⟩)]⟩⟩),(11,⟨⟨[(1,.d .i),(2,.q zN),(52,.d .i),(11,.var zN 30)],[]⟩,⟨[4,6,9,10],[(.x 2,⟨[(1,.d .i),(2,.q zN),(11,.var zN 30)],[]⟩)]⟩⟩)],[],[],[],[]⟩ func250<|B (jo fu)<|B (H2 fu)<|B (Jw fu)<|B (YE fu)<|B (xQ fu)<|B (jc fu)<|B (aZ fu)<|B (sV fu)<|B (xw fu)<|cN
def bg:yb ⟨116,[.d y3],[.d .i],λx=>ZP fu x.1,0⟩:=sq fu wk func116<|B (xl fu)<|cN
def Q3:yb ⟨182,[.d y3],[.d zN,.d .i],λx=>vo fu x.1,0⟩:=sq fu ⟨[],[(524297,⟨[0,2,5],[(.n,⟨[(22,.d .i),(24,.d .b)],[]⟩)]⟩)],[(7,⟨⟨[(23,.d .i),(0,.own zN 30),(2,.var zN 30),(5,.var zN 30)],[(21,.al 0)]⟩,⟨[],[(.x 0,⟨[(0,.own zN 30),(2,.var zN 30),(5,.var zN 30)],[]⟩)]⟩⟩)],[],[],[],[]⟩ func182<|B (Vz fu)<|B (YE fu)<|B (xQ fu)<|B (bg fu)<|B (xl fu)<|B (Ru fu)<|B (sV fu)<|B (xw fu)<|cN
def FJ:yb ⟨122,[.d y3,.d .i],[.d .i],λx=>W9 fu x.1 x.2.1,0⟩:=sq fu ⟨[],[],[(5,⟨⟨[(9,.d .i),(8,.var zN 30)],[]⟩,⟨[5,7],[(.x 0,⟨[(9,.d .i)],[]⟩)]⟩⟩)],[(2,[])],[],[],[]⟩ func122<|B (xQ fu)<|B (xw fu)<|B (Q3 fu)<|B (Jw fu)<|cN
def MI:yb ⟨120,[.d y3],[.d .b],λx=>QM fu x.1,0⟩:=sq fu ⟨[],[],[],[(2,[])],[],[],[]⟩ func120<|B (xQ fu)<|B (xw fu)<|B (Q3 fu)<|B (aZ fu)<|cN
def Fe:yb ⟨261,[.d yK,.d yK],[.d .i],λx=>vH fu x.1 x.2.1,0⟩:=sq fu ⟨[],[],[(4,⟨⟨[(5,.d .i)],[]⟩,⟨[],[(.x 0,⟨[],[]⟩),(.r,⟨[(4,.d .i)],[]⟩)]⟩⟩)],[],[],[],[]⟩ func261<|cN
def Wg:X2:=⟨376,[.d yK,.q .i],[.d .b],λx=>kh fu x.1 x.2.1,0⟩
def sW:yb (Wg fu):=sq fu wk func376<|cN
def az:X2:=⟨375,[.d yK,.d .i],[.own .i 3],λx=>Xm fu x.1 x.2.1,0⟩
def LA:yb (az fu):=sq fu ⟨[],[],[(3,q1 [(13,.d .i),(5,.own .i 3)] 0 [(5,.own .i 3)])],[],[],[],[]⟩ func375<|B (eN fu)<|cN
def aV:X2:=⟨351,[.d (.l yK),.d .i],[.d .i],λx=>XB fu x.1 x.2.1,0⟩
def rJ:yb (aV fu):=sq fu ⟨[],[(393223,⟨[],[(.n,⟨[(0,.d (.l yK)),(17,.d (.l yK)),(18,.d .i),(20,.d .b)],[]⟩)]⟩)],[(5,⟨⟨[(19,.d .i)],[]⟩,⟨[],[(.x 0,⟨[],[]⟩),(.r,⟨[],[(4,.ci 1)]⟩)]⟩⟩)],[],[],[],[]⟩ func351<|B (jH fu)<|cN
def Va:Er:=⟨377,.i,23,3,λb ix r a p lo n=>qj fu b ix r a p lo n⟩
def GF(c:wN)(b:N (N J))(ix:N K)(r:K)(a p:J)(lo n:K):zn9 ⟨tt,[],(⟨[],[],[(1,q1 [(3,.matv .i 23 3),(13,.view 0),(0,.row 0),(15,.d .i)] 0 [(3,.matv .i 23 3)]),(5,q1 [(3,.matv .i 23 3),(13,.view 0),(0,.row 0),(23,.row 0),(9,.row 0),(25,.d .i)] 2 [(3,.matv .i 23 3),(13,.view 0),(0,.row 0)])],[],[],[],[]⟩:An),fu,ex,[],[],[],[],[]⟩ f377 .i 23 3 c b ix r a p lo n=qj fu b ix r a p lo n:=iT
def GJ:S9 Tryz.prog (Va fu):=zmX (s:=Va fu) (cf:=⟨tt,[],(⟨[],[],[(1,q1 [(3,.matv .i 23 3),(13,.view 0),(0,.row 0),(15,.d .i)] 0 [(3,.matv .i 23 3)]),(5,q1 [(3,.matv .i 23 3),(13,.view 0),(0,.row 0),(23,.row 0),(9,.row 0),(25,.d .i)] 2 [(3,.matv .i 23 3),(13,.view 0),(0,.row 0)])],[],[],[],[]⟩:An),fu,ex,[],[],[],[],[]⟩) S6 zal zaP cN (.of zaS O) func377 iT λc b ix r a p lo n z h=>(GF fu c b ix r a p lo n).trans h
def qE:X2:=⟨267,[.d (.l yK),.fn [yK] [.b]],[.d .i],λx=>yU fu x.1<|λz0=>x.2.1 (z0,()),0⟩
def Zu:yb (qE fu):=sq fu ⟨[],[],[(2,⟨⟨[(8,.d .i)],[]⟩,⟨[],[(.x 0,⟨[],[]⟩),(.r,⟨[(4,.d .i)],[]⟩)]⟩⟩)],[],[],[],[]⟩ func267<|cN
def eF:X2:=⟨352,[.d (.l yK),.d .i],[.d (.l yK),.d .i],λx=>Zg fu x.1 x.2.1,0⟩
def DK:yb (eF fu):=zac (s:=eF fu) (cf:=⟨tt,[aV fu,az fu,qE fu,DE fu,Wg fu],⟨[],[],[(6,q1 [(7,.mat .i 23 3),(25,.d .i)] 0 [(7,.mat .i 23 3)]),(12,q1 [(7,.mat .i 23 3),(10,.d .i),(11,.var .i 3)] 2 [(7,.mat .i 23 3),(10,.d .i)]),(19,q1 [(7,.mat .i 23 3),(90,.row 0),(92,.d .i)] 4 [(7,.mat .i 23 3)])],[(16,[]),(23,[]),(24,[])],[52,117,128],[33],[]⟩,fu,ex,[Va fu],[],[],[],[]⟩) S6 zal zaP (B (rJ fu)<|B (LA fu)<|B (Zu fu)<|B (Ec fu)<|B (sW fu)<|cN) ⟨zaS,λ_ h=>wS h H1,λs h=>by obtain rfl:=xad.1 h;exact GJ fu,λ_ h=>wS h H1,O,λ_ h=>wS h H1,λ_ h=>wS h H1⟩ func352 iT O λx r h=>(id iT:zar ⟨tt,[aV fu,az fu,qE fu,DE fu,Wg fu],⟨[],[],[(6,q1 [(7,.mat .i 23 3),(25,.d .i)] 0 [(7,.mat .i 23 3)]),(12,q1 [(7,.mat .i 23 3),(10,.d .i),(11,.var .i 3)] 2 [(7,.mat .i 23 3),(10,.d .i)]),(19,q1 [(7,.mat .i 23 3),(90,.row 0),(92,.d .i)] 4 [(7,.mat .i 23 3)])],[(16,[]),(23,[]),(24,[])],[52,117,128],[33],[]⟩,fu,ex,[Va fu],[],[],[],[]⟩ f352 [.d (.l yK),.d .i] [.d (.l yK),.d .i] x=Zg fu x.1 x.2.1).trans h
def GG:yb ⟨379,[.d .i],[.d .b],λx=>Yd fu x.1,0⟩:=sq fu wk func379<|cN
def VV:yb ⟨378,[.d yK,.fn [.i] [.b]],[.d .i],λx=>xp fu x.1<|λz0=>x.2.1 (z0,()),0⟩:=sq fu ⟨[],[],[(2,⟨⟨[(8,.d .i)],[]⟩,⟨[],[(.x 0,⟨[],[]⟩),(.r,⟨[(4,.d .i)],[]⟩)]⟩⟩)],[],[],[],[]⟩ func378<|cN
def Ax:yb ⟨355,[.d yK],[.d .i],λx=>VJ fu x.1,0⟩:=sq fu wk func355<|B (VV fu)<|B (GG fu)<|cN
def Gm:yb ⟨354,[.d yK,.q .i],[.d .b],λx=>jw fu x.1 x.2.1,0⟩:=sq fu wk func354<|B (Ax fu)<|cN
def Vs:yb ⟨353,[.d (.l yK),.fn [yK] [.b]],[.d .b],λx=>xR fu x.1<|λz0=>x.2.1 (z0,()),0⟩:=sq fu wk func353<|B (Zu fu)<|cN
def SB:yb ⟨322,[.d (.l yK),.d .i,.d .i],[.own yK 23,.d .i],λx=>VR fu x.1 x.2.1 x.2.2.1,0⟩:=sq fu ⟨[],[(131076,⟨[],[(.n,⟨[],[]⟩),(.r,⟨[],[(6,.nil),(7,.ci 1)]⟩)]⟩),(458760,⟨[10],[(.n,⟨[(1,.d .i),(2,.d .i),(8,.d (.l yK)),(46,.d .i),(48,.d .b)],[]⟩)]⟩),(851982,⟨[10,12],[(.n,⟨[(1,.d .i),(2,.d .i),(8,.d (.l yK)),(11,.q .i),(46,.d .i),(47,.d .i),(58,.d (.l yK)),(59,.d .i),(61,.d .b)],[]⟩)]⟩)],[(6,q1 [(10,.own yK 23),(47,.d .i)] 0 [(10,.own yK 23)]),(12,q1 [(60,.d .i),(10,.own yK 23),(12,.own .i 3)] 2 [(10,.own yK 23),(12,.own .i 3)])],[],[],[],[]⟩ func322<|B (DK fu)<|B (Vs fu)<|B (Gm fu)<|B (Ax fu)<|B (eN fu)<|B (rJ fu)<|cN
def de:yb ⟨194,[.d yK,.d yK,.d .i],[.own .i 3,.own .i 3,.d .i],λx=>kG fu x.1 x.2.1 x.2.2.1,0⟩:=sq fu wk func194<|B (jH fu)<|B (wa fu)<|B (Ql fu)<|cN
def gy:yb ⟨321,[.d yK,.d zN,.d yK,.d .i],[.own .i 3,.d .i],λx=>Zp fu x.1 x.2.1 x.2.2.1 x.2.2.2.1,0⟩:=sq fu ⟨[],[],[(9,⟨⟨[(11,.own .i 3),(13,.d yK),(14,.d .i)],[]⟩,⟨[10,12],[(.x 0,⟨[(11,.own .i 3)],[]⟩)]⟩⟩)],[],[],[],[]⟩ func321<|B (jo fu)<|B (Yz fu)<|B (jH fu)<|B (wa fu)<|B (Ql fu)<|B (aZ fu)<|cN
def Lv:yb ⟨259,[.d yK,.d .i],[.own yK 23],λx=>XJ fu x.1 x.2.1,0⟩:=sq fu ⟨[],[],[(4,q1 [(6,.mat .i 23 3),(23,.d .i)] 0 [(6,.mat .i 23 3)]),(11,q1 [(6,.mat .i 23 3),(10,.d yK),(8,.d yK),(43,.d .i)] 2 [(6,.mat .i 23 3)]),(14,q1 [(6,.mat .i 23 3),(48,.d .i)] 4 [(6,.mat .i 23 3)])],[],[],[20],[]⟩ func259<|B (xw fu)<|B (gy fu)<|B (Kn fu)<|B (de fu)<|B (SB fu)<|cN
def zed:yb ⟨320,[.d yK,.d yK,.d .i],[.own .i 3],λx=>iC fu x.1 x.2.1 x.2.2.1,0⟩:=sq fu wk func320<|B (de fu)<|cN
def zab:yb ⟨318,[.d yK,.d yK,.d .i],[.d yK],λx=>aw fu x.1 x.2.1 x.2.2.1,0⟩:=sq fu wk func318<|B (fX fu)<|cN
def Bm:yb ⟨316,[.d .i,.q yK,.q .i],[.d .i],λx=>Yr fu x.1 x.2.1 x.2.2.1,0⟩:=sq fu wk func316<|B (eN fu)<|cN
def SV:yb ⟨350,[.d yK,.d yK,.d .i],[.own .i 3,.d .i],λx=>KY fu x.1 x.2.1 x.2.2.1,0⟩:=sq fu wk func350<|B (dJ fu)<|B (jH fu)<|B (wa fu)<|cN
def MQ:yb ⟨319,[.d yK,.d .i,.d yK,.d .i],[.own .i 3],λx=>QT fu x.1 x.2.1 x.2.2.1 x.2.2.2.1,0⟩:=sq fu wk func319<|B (gy fu)<|B (Au fu)<|B (xw fu)<|B (SV fu)<|cN
def Gu:yb ⟨258,[.d yK,.d (.l yK),.d .i,.d yK],[.own yK 23],λx=>WX fu x.1 x.2.1 x.2.2.1 x.2.2.2.1,0⟩:=sq fu ⟨[],[(524297,⟨[10],[(.n,⟨[(11,.d .i),(28,.d (.l yK)),(29,.d .i),(31,.d .b)],[]⟩)]⟩),(983056,⟨[10],[(.n,⟨[(1,.d (.l yK)),(6,.q .i),(7,.q yK),(11,.d .i),(13,.d yK),(28,.d (.l yK)),(29,.d .i),(30,.d .i),(73,.d .b)],[]⟩)]⟩)],[(4,q1 [(10,.own yK 23),(11,.d .i)] 0 [(10,.own yK 23)]),(7,⟨⟨[(1,.d (.l yK)),(6,.q .i),(7,.q yK),(10,.own yK 23),(30,.d .i)],[]⟩,⟨[],[(.x 0,⟨[(10,.own yK 23)],[]⟩),(.x 2,⟨[(1,.d (.l yK)),(6,.q .i),(7,.q yK),(10,.own yK 23)],[]⟩)]⟩⟩),(10,⟨⟨[(10,.own yK 23),(14,.d .i)],[]⟩,⟨[],[(.x 0,⟨[(10,.own yK 23)],[]⟩),(.x 4,⟨[(10,.own yK 23)],[]⟩)]⟩⟩)],[],[],[],[]⟩ func258<|B (zed fu)<|B (Bm fu)<|B (zab fu)<|B (MQ fu)<|cN
def lO:yb ⟨349,[.d yK,.d .i],[.own .i 3,.d .i],λx=>vA fu x.1 x.2.1,0⟩:=sq fu wk func349<|B (jH fu)<|B (wa fu)<|B (gA fu)<|cN
def Mm:yb ⟨315,[.d yK,.d .i],[.own .i 3,.d .i],λx=>aD fu x.1 x.2.1,0⟩:=sq fu wk func315<|B (lO fu)<|cN
def Ga:yb ⟨312,[.d yK,.d .i],[.own .i 3,.d .i],λx=>W5 fu x.1 x.2.1,0⟩:=sq fu ⟨[],[(458760,⟨[7,17],[(.n,⟨[(1,.d .i),(18,.d .i),(20,.d .b)],[]⟩)]⟩)],[(6,q1 [(7,.own .i 3),(19,.d .i),(17,.own .i 3)] 0 [(7,.own .i 3)])],[],[],[],[]⟩ func312<|B (jH fu)<|B (wa fu)<|cN
def Mj:yb ⟨311,[.d yK,.d .i],[.own .i 3,.d .i],λx=>Xn fu x.1 x.2.1,0⟩:=sq fu wk func311<|B (lO fu)<|cN
def H5:yb ⟨253,[.d yK,.d .i],[.d .b,.d .i],λx=>uw fu x.1 x.2.1,0⟩:=sq fu wk func253<|B (Ga fu)<|B (fX fu)<|B (Mj fu)<|cN
def FP:yb ⟨257,[.d yK,.d .i],[.d yK,.d .i],λx=>ux fu x.1 x.2.1,0⟩:=sq fu wk func257<|B (Mm fu)<|B (H5 fu)<|cN
def cc:yb ⟨202,[.d .u],[.d .i],λx=>ui fu x.1,0⟩:=sq fu wk func202<|B (XM fu)<|cN
def ZX:yb ⟨356,[.own yK 23,.d .i,.d .i,.fn [yK,yK] [.i]],[.own yK 23],λx=>vY fu x.1 x.2.1 x.2.2.1<|λz0 a=>x.2.2.2.1 (z0,a,()),1⟩:=sgb (fu:=fu) ⟨[],[],[(1,q1 [(8,.d .i),(0,.own yK 23)] 0 [(0,.own yK 23)]),(4,q1 [(1,.d .i),(2,.d .i),(9,.d .i),(0,.own yK 23)] 2 [(1,.d .i),(2,.d .i),(0,.own yK 23)])],[(6,[])],[],[],[]⟩ func356 (cN) iT λb x=>by kernel_rfl
def Wu:X2:=⟨323,[.own yK 23,.d .i,.d .i,.d .i,.fn [yK,yK] [.i]],[.own yK 23],λx=>kg fu x.1 x.2.1 x.2.2.1 x.2.2.2.1<|λz0 a=>x.2.2.2.2.1 (z0,a,()),1⟩
def j7:∀fu:K,yb (Wu fu)
 |0=>sg0 iT λ_=>O
 |fu+1=>sgb (fu:=fu) ⟨[],[],[(2,⟨⟨[(1,.d .i),(2,.d .i),(3,.d .i),(0,.own yK 23)],[(10,.kb I),(11,.kb I)]⟩,⟨[],[(.r,⟨[(0,.own yK 23)],[]⟩)]⟩⟩)],[],[],[],[]⟩ func323 (B (j7 fu)<|B (ZX fu)<|cN) iT λa x=>by kernel_rfl
def Qm:yb ⟨260,[.own yK 23,.fn [yK,yK] [.i]],[.own yK 23],λx=>wj fu x.1<|λz0 a=>x.2.1 (z0,a,()),1⟩:=sgb (fu:=fu) wk func260 (B (cc fu)<|B (j7 fu)<|cN) iT λb x=>by kernel_rfl
def MB:yb ⟨187,[.d yK,.d .i,.d yK],[.own yK 23,.d .i],λx=>Xr fu x.1 x.2.1 x.2.2.1,0⟩:=sq fu wk func187<|B (FP fu)<|B (Gu fu)<|B (Lv fu)<|B (Qm fu)<|B (Fe fu)<|cN
def Lh:yb ⟨184,[.d .i],[.d .i,.d .i],λx=>wI fu x.1,0⟩:=sq fu ⟨[],[],[(4,q1 [(0,.d .i)] 0 [(0,.d .i)])],[],[],[],[]⟩ func184<|B (JZ fu)<|cN
def NB:yb ⟨185,[.d y3,.d .i],[.d .b,.d .i],λx=>QQ fu x.1 x.2.1,0⟩:=sq fu wk func185<|B (xl fu)<|B (Q3 fu)<|B (VO fu)<|B (JZ fu)<|B (H5 fu)<|cN
def IU:yb ⟨121,[.d y3,.d yK],[.d .i,.own yK 23],λx=>Jf fu x.1 x.2.1,0⟩:=sq fu ⟨[],[],[(4,q1 [(6,.d .i),(7,.d .i),(8,.own yK 23),(9,.d .i),(10,.d .i)] 0 [(6,.d .i),(8,.own yK 23)])],[],[],[],[]⟩ func121<|B (Lh fu)<|B (NB fu)<|B (VO fu)<|B (MB fu)<|cN
def Fg:yb ⟨263,[.d .i],[.d zN],λx=>ey fu x.1,0⟩:=sq fu ⟨[],[(262149,⟨[2,3],[(.n,⟨[(0,.d .i),(6,.d .i),(8,.d .b)],[]⟩)]⟩)],[(3,q1 [(7,.d .i),(2,.var zN 30),(3,.var zN 30)] 0 [(2,.var zN 30),(3,.var zN 30)])],[(5,[])],[],[],[]⟩ func263<|B (QJ fu)<|B (xw fu)<|B (xQ fu)<|cN
def Gw:yb ⟨262,[.d zN,.d .i],[.d zN],λx=>Yh fu x.1 x.2.1,0⟩:=sq fu ⟨[2],[],[(2,⟨⟨[(1,.d .i),(2,.var zN 30),(5,.var zN 30)],[]⟩,⟨[4],[(.x 0,⟨[(5,.var zN 30)],[]⟩)]⟩⟩)],[],[],[],[]⟩ func262<|B (xw fu)<|B (xQ fu)<|cN
def Gl:yb ⟨364,[.d y3,.d y3],[.d zN],λx=>mr fu x.1 x.2.1,0⟩:=sq fu ⟨[],[(262149,⟨[4,5],[(.n,⟨[(1,.d y3),(9,.d y3),(10,.d .i),(12,.d .b)],[]⟩)]⟩)],[(3,q1 [(11,.d .i),(4,.var zN 30),(5,.var zN 30)] 0 [(4,.var zN 30),(5,.var zN 30)])],[],[],[],[]⟩ func364<|B (xw fu)<|B (YE fu)<|B (xQ fu)<|cN
def Gi:yb ⟨324,[.d y3,.d y3],[.d zN,.d .i],λx=>lj fu x.1 x.2.1,0⟩:=sq fu wk func324<|B (Gl fu)<|cN
def C9:yb ⟨264,[.d y3],[.d zN],λx=>fi fu x.1,0⟩:=sq fu wk func264<|B (Gi fu)<|cN
def ME:yb ⟨190,[.d y3,.d .i,.d .i],[.d .i,.d .i],λx=>oq fu x.1 x.2.1 x.2.2.1,0⟩:=sq fu ⟨[],[],[(13,⟨⟨[(16,.d .i),(15,.var zN 30)],[]⟩,⟨[8,13,14],[(.x 0,⟨[],[]⟩),(.r,⟨[(6,.d .i)],[(7,.ci 0)]⟩)]⟩⟩)],[],[],[],[]⟩ func190<|B (Gw fu)<|B (Fg fu)<|B (C9 fu)<|B (Jw fu)<|B (xw fu)<|B (xQ fu)<|B (Q3 fu)<|B (ZJ fu)<|B (JZ fu)<|cN
def Bl:yb ⟨193,[.d yK,.q yK,.q .i],[.d .b],λx=>AV fu x.1 x.2.1 x.2.2.1,0⟩:=sq fu wk func193<|B (de fu)<|cN
def Gz:yb ⟨124,[.d y3,.d (.l yK),.d .i],[.own y3 22,.d y3,.d (.l yK)],λx=>WQ fu x.1 x.2.1 x.2.2.1,0⟩:=sq fu ⟨[],[],[(2,⟨⟨[(0,.d y3),(1,.d (.l yK))],[(9,.nil)]⟩,⟨[],[(.x 0,⟨[(0,.d y3),(1,.d (.l yK))],[(9,.nil)]⟩)]⟩⟩)],[],[],[],[]⟩ func124<|B (KK fu)<|B (Bl fu)<|B (VO fu)<|B (mj fu)<|B (ME fu)<|cN
def uD:yb ⟨284,[.own y3 22,.d .i,.d .i,.fn [y3,y3] [.i]],[.own y3 22],λx=>w6 fu x.1 x.2.1 x.2.2.1<|λz0 a=>x.2.2.2.1 (z0,a,()),1⟩:=sgb (fu:=fu) ⟨[],[],[(1,q1 [(8,.d .i),(0,.own y3 22)] 0 [(0,.own y3 22)]),(4,q1 [(1,.d .i),(2,.d .i),(9,.d .i),(0,.own y3 22)] 2 [(1,.d .i),(2,.d .i),(0,.own y3 22)])],[(6,[])],[],[],[]⟩ func284 (cN) iT λb x=>by kernel_rfl
def YJ:X2:=⟨201,[.own y3 22,.d .i,.d .i,.d .i,.fn [y3,y3] [.i]],[.own y3 22],λx=>qO fu x.1 x.2.1 x.2.2.1 x.2.2.2.1<|λz0 a=>x.2.2.2.2.1 (z0,a,()),1⟩
def qM:∀fu:K,yb (YJ fu)
 |0=>sg0 iT λ_=>O
 |fu+1=>sgb (fu:=fu) ⟨[],[],[(2,⟨⟨[(1,.d .i),(2,.d .i),(3,.d .i),(0,.own y3 22)],[(10,.kb I),(11,.kb I)]⟩,⟨[],[(.r,⟨[(0,.own y3 22)],[]⟩)]⟩⟩)],[],[],[],[]⟩ func201 (B (qM fu)<|B (uD fu)<|cN) iT λa x=>by kernel_rfl
def ZV:yb ⟨127,[.own y3 22,.fn [y3,y3] [.i]],[.own y3 22],λx=>yM fu x.1<|λz0 a=>x.2.1 (z0,a,()),1⟩:=sgb (fu:=fu) wk func127 (B (qM fu)<|B (cc fu)<|cN) iT λb x=>by kernel_rfl
def LD:yb ⟨60,[.d y3,.d yK],[.own y3 22,.d .b],λx=>QO fu x.1 x.2.1,0⟩:=sq fu wk func60<|B (CF fu)<|B (MI fu)<|B (IU fu)<|B (FJ fu)<|B (JR fu)<|B (Gz fu)<|B (mj fu)<|B (GX fu)<|B (ZV fu)<|cN
def Nq:yb ⟨161,[.d zN,.d .i],[.d zN],λx=>Q6 fu x.1 x.2.1,0⟩:=sq fu ⟨[],[],[(3,⟨⟨[(8,.d .i),(5,.var zN 30)],[]⟩,⟨[4],[(.x 0,⟨[(5,.var zN 30)],[]⟩)]⟩⟩)],[],[],[],[]⟩ func161<|B (xw fu)<|B (xQ fu)<|cN
def Gg:yb ⟨179,[.d y3,.d y3],[.own zN 30,.own zN 30,.d .i],λx=>Yl fu x.1 x.2.1,0⟩:=sq fu ⟨[],[],[(9,⟨⟨[(1,.d y3),(9,.own zN 30),(11,.d .i),(10,.own zN 30)],[]⟩,⟨[8],[(.x 0,⟨[(9,.own zN 30),(10,.own zN 30)],[]⟩)]⟩⟩)],[(12,[]),(13,[1])],[],[],[]⟩ func179<|B (Nq fu)<|B (QJ fu)<|B (W8 fu)<|B (xl fu)<|B (AE fu)<|cN
def C4:yb ⟨118,[.d y3,.d y3],[.own zN 30],λx=>YK fu x.1 x.2.1,0⟩:=sq fu ⟨[],[],[(3,⟨⟨[(6,.d y3),(7,.own zN 30)],[]⟩,⟨[5],[(.x 0,⟨[(6,.d y3)],[]⟩)]⟩⟩)],[],[],[],[]⟩ func118<|B (Df fu)<|B (Gg fu)<|B (W8 fu)<|B (ZJ fu)<|B (Qe fu)<|cN
def Be:yb ⟨181,[.d .i,.d zN],[.d zN],λx=>Qu fu x.1 x.2.1,0⟩:=sq fu wk func181<|B (xw fu)<|B (xQ fu)<|cN
def mh:yb ⟨119,[.d y3],[.own zN 30],λx=>Yb fu x.1,0⟩:=sq fu wk func119<|B (xl fu)<|B (Be fu)<|B (xt fu)<|cN
def zd5:yb ⟨117,[.d y3,.d y3],[.own zN 30],λx=>tW fu x.1 x.2.1,0⟩:=sq fu wk func117<|B (KK fu)<|cN
def EF:yb ⟨59,[.d y3],[.own zN 30,.d .i],λx=>qG fu x.1,0⟩:=sq fu wk func59<|B (bg fu)<|B (zd5 fu)<|B (C4 fu)<|B (mh fu)<|B (ZJ fu)<|cN
def Xw:yb ⟨15,[.d y3,.d yK],[.d zN,.own (.p y3 .i) 42,.d .i],λx=>yS fu x.1 x.2.1,0⟩:=sq fu ⟨[],[(655371,⟨[4,11,32],[(.n,⟨[(0,.d y3),(33,.d .i),(35,.d .b)],[]⟩)]⟩)],[(9,q1 [(11,.own (.p y3 .i) 42),(34,.d .i),(4,.var zN 30),(32,.own y3 22)] 0 [(11,.own (.p y3 .i) 42),(4,.var zN 30)])],[],[],[],[]⟩ func15<|B (EF fu)<|B (LD fu)<|B (MM fu)<|B (Qe fu)<|cN
def nG:yb ⟨16,[.d y3],[.d .b,.d .i],λx=>YF fu x.1,0⟩:=sq fu wk func16<|B (Xw fu)<|cN
def Vw:yb ⟨228,[.own .ch 5],[.own .ch 5],λx=>kD fu x.1,1⟩:=sgb (fu:=fu) ⟨[],[],[(1,q1 [(2,.d .i),(3,.d .i),(0,.own .ch 5)] 0 [(0,.own .ch 5)])],[(3,[])],[],[],[]⟩ func228 (cN) iT λa x=>by kernel_rfl
def LB:yb ⟨165,[.d .u,.d .b],[.d .tx],λx=>bF fu x.1 x.2.1,0⟩:=sq fu ⟨[],[],[(2,q1 [(0,.d .u),(5,.own .ch 5)] 0 [(5,.own .ch 5)])],[],[],[],[]⟩ func165<|B (Vw fu)<|cN
def Xc:yb ⟨166,[.own .tx 9],[.own .tx 9],λx=>qV fu x.1,1⟩:=sgb (fu:=fu) ⟨[],[],[(1,q1 [(2,.d .i),(3,.d .i),(0,.own .tx 9)] 0 [(0,.own .tx 9)])],[(3,[])],[],[],[]⟩ func166 (cN) iT λa x=>by kernel_rfl
def Fz:yb ⟨167,[.d (.l .tx),.d .tx],[.d .tx],λx=>fG fu x.1 x.2.1,0⟩:=zgN iT Tryz.strings_Join_none Tryz.strings_Join
def zbi:yb ⟨106,[.d jC],[.d .tx],λx=>nJ fu x.1,0⟩:=sq fu ⟨[],[],[(3,q1 [(0,.d jC),(3,.own .tx 9)] 0 [(3,.own .tx 9)])],[],[],[],[]⟩ func106<|B (AF fu)<|B (LB fu)<|B (Xc fu)<|B (Fz fu)<|B (xf fu)<|B (wK fu)<|cN
def SR:yb ⟨49,[.d zN],[.d .tx],λx=>Al fu x.1,0⟩:=sq fu wk func49<|B (zbi fu)<|B (jo fu)<|cN
def Gb:yb ⟨12,[],[.d .b],λx=>Vf fu,0⟩:=sq fu wk func12<|B (Xw fu)<|B (nG fu)<|B (SR fu)<|B (zah fu)<|B (MN fu)<|B (Et fu)<|cN
def Hb:yb ⟨13,[.d .i,.d .i,.d y3],[.d .b],λx=>uu fu x.1 x.2.1 x.2.2.1,0⟩:=sq fu ⟨[],[],[(4,⟨⟨[(7,.d .i)],[]⟩,⟨[],[(.x 0,⟨[],[]⟩),(.r,⟨[],[(6,.kb wL)]⟩)]⟩⟩)],[],[],[],[]⟩ func13<|cN
def mH:yb ⟨232,[.d jC,.d .i],[.d .u],λx=>qF fu x.1 x.2.1,0⟩:=sq fu wk func232<|cN
def dU:yb ⟨236,[.d jC],[.d jC],λx=>Y9 fu x.1,0⟩:=sq fu ⟨[],[],[(2,q1 [(3,.d .i)] 0 [(3,.d .i)])],[],[],[],[]⟩ func236<|cN
def XV:yb ⟨172,[.d jC],[.d jC],λx=>xz fu x.1,0⟩:=sq fu ⟨[],[],[(3,q1 [(3,.own .u 54),(4,.d .i)] 0 [(3,.own .u 54)])],[],[],[],[]⟩ func172<|B (dU fu)<|cN
def Vh:yb ⟨173,[.d jC],[.own .u 54],λx=>qt fu x.1,0⟩:=sq fu ⟨[],[],[(3,q1 [(3,.own .u 54),(4,.d .i)] 0 [(3,.own .u 54)])],[],[],[],[]⟩ func173<|B (bC fu)<|cN
def Ao:yb ⟨168,[.d jC,.d jC],[.own .u 54],λx=>VT fu x.1 x.2.1,0⟩:=sq fu ⟨[],[],[(6,q1 [(7,.own .u 54),(8,.d .u),(9,.d .i)] 0 [(7,.own .u 54)])],[],[],[],[]⟩ func168<|B (mH fu)<|B (XV fu)<|B (Vh fu)<|cN
def cK:yb ⟨233,[.d jC,.d jC],[.d .i],λx=>uc fu x.1 x.2.1,0⟩:=sq fu ⟨[],[],[(2,⟨⟨[(5,.d .i)],[]⟩,⟨[],[(.x 0,⟨[],[]⟩),(.r,⟨[(4,.d .i)],[]⟩)]⟩⟩)],[],[],[],[]⟩ func233<|B (mH fu)<|cN
def oe:yb ⟨234,[.d jC,.d jC],[.d jC],λx=>Xp fu x.1 x.2.1,0⟩:=sq fu ⟨[],[],[(4,q1 [(5,.own .u 54),(6,.d .u),(7,.d .i)] 0 [(5,.own .u 54)])],[],[],[],[]⟩ func234<|B (mH fu)<|B (dU fu)<|cN
def Ay:yb ⟨169,[.d jC,.d jC],[.own .u 54,.d .i],λx=>Y8 fu x.1 x.2.1,0⟩:=sq fu wk func169<|B (cK fu)<|B (oe fu)<|B (XV fu)<|B (Vh fu)<|cN
def Vm:yb ⟨107,[.d zN,.d zN],[.d zN],λx=>vD fu x.1 x.2.1,0⟩:=sq fu wk func107<|B (Ao fu)<|B (Ay fu)<|B (qh fu)<|cN
def AA:yb ⟨66,[.d zN],[.d zN],λx=>Vq fu x.1,0⟩:=sq fu wk func66<|B (qh fu)<|cN
def SE:yb ⟨171,[.d zN,.d zN],[.d zN],λx=>KN fu x.1 x.2.1,0⟩:=sq fu wk func171<|B (AA fu)<|B (Vm fu)<|cN
def Ag:yb ⟨109,[.d zN,.d zN],[.d .i],λx=>Za fu x.1 x.2.1,0⟩:=sq fu wk func109<|B (SE fu)<|B (ZQ fu)<|cN
def PT:yb ⟨133,[.d zN],[.d zN],λx=>Vj fu x.1,0⟩:=sq fu wk func133<|B (qh fu)<|cN
def OU:yb ⟨204,[.d jC,.d jC],[.own .u 54,.own .u 54,.d .i],λx=>KR fu x.1 x.2.1,0⟩:=sq fu ⟨[],[(1245204,⟨[9],[(.n,⟨[(72,.d .b)],[]⟩)]⟩)],[(8,q1 [(10,.d jC),(11,.d .i),(9,.own .u 54)] 0 [(10,.d jC),(9,.own .u 54)]),(13,⟨⟨[(7,.d jC),(8,.d jC),(12,.own .u 54),(13,.d .u),(14,.d .i)],[]⟩,⟨[9],[(.x 2,⟨[(7,.d jC),(8,.d jC),(12,.own .u 54),(13,.d .u)],[]⟩)]⟩⟩)],[],[],[],[]⟩ func204<|B (cK fu)<|B (oe fu)<|B (XV fu)<|B (dU fu)<|B (Vh fu)<|cN
def dG:yb ⟨134,[.d zN,.d zN],[.d zN,.d zN,.d .i],λx=>YS fu x.1 x.2.1,0⟩:=sq fu ⟨[],[(327688,⟨[4,5],[(.n,⟨[(7,.own .u 54),(8,.own .u 54)],[]⟩)]⟩)],[],[],[],[],[]⟩ func134<|B (Ao fu)<|B (Ay fu)<|B (OU fu)<|B (qh fu)<|cN
def Aw:yb ⟨65,[.d zN,.d zN],[.d zN],λx=>VH fu x.1 x.2.1,0⟩:=sq fu ⟨[],[],[(3,⟨⟨[(5,.var zN 30),(6,.var zN 30)],[]⟩,⟨[4],[(.x 0,⟨[(5,.var zN 30)],[]⟩)]⟩⟩)],[],[],[],[]⟩ func65<|B (ZQ fu)<|B (PT fu)<|B (dG fu)<|cN
def bN:yb ⟨18,[.d y3],[.d zN],λx=>ja fu x.1,0⟩:=sq fu ⟨[],[],[(4,⟨⟨[(5,.d .i),(4,.var zN 30)],[]⟩,⟨[2,3],[(.x 0,⟨[(4,.var zN 30)],[]⟩)]⟩⟩)],[],[],[],[]⟩ func18<|B (wi fu)<|B (Aw fu)<|B (AA fu)<|B (Zh fu)<|cN
def FU:yb ⟨205,[.d zN,.d zN],[.d zN,.d .i],λx=>Vc fu x.1 x.2.1,0⟩:=sq fu wk func205<|B (ZQ fu)<|B (dG fu)<|cN
def zay:yb ⟨296,[.d y3,.d .i],[.d zN],λx=>JL fu x.1 x.2.1,0⟩:=sq fu wk func296<|cN
def dF:yb ⟨206,[.d y3,.d y3],[.own zN 30],λx=>Y7 fu x.1 x.2.1,0⟩:=sq fu ⟨[],[],[(3,q1 [(5,.own zN 30),(6,.d .i)] 0 [(5,.own zN 30)])],[],[],[],[]⟩ func206<|B (zay fu)<|B (wi fu)<|B (Vm fu)<|cN
def Aa:yb ⟨111,[.d jC,.d jC],[.own .u 54],λx=>YY fu x.1 x.2.1,0⟩:=sq fu ⟨[],[],[(5,q1 [(8,.d .i),(7,.own .u 54)] 0 [(7,.own .u 54)]),(9,q1 [(5,.d jC),(6,.d jC),(9,.d .u),(10,.d .i),(7,.own .u 54)] 2 [(5,.d jC),(6,.d jC),(9,.d .u),(7,.own .u 54)])],[],[],[],[]⟩ func111<|B (XV fu)<|B (Vh fu)<|cN
def YU:yb ⟨54,[.d zN,.d zN],[.d zN],λx=>wu fu x.1 x.2.1,0⟩:=sq fu wk func54<|B (qh fu)<|B (Aa fu)<|cN
def AH:yb ⟨208,[.d y3,.d y3],[.own zN 30],λx=>VG fu x.1 x.2.1,0⟩:=sq fu ⟨[],[],[(3,q1 [(6,.d .i),(5,.own zN 30)] 0 [(5,.own zN 30)]),(6,q1 [(0,.d y3),(1,.d y3),(7,.d .i),(5,.own zN 30)] 2 [(0,.d y3),(1,.d y3),(5,.own zN 30)])],[],[],[],[]⟩ func208<|B (wi fu)<|B (Vm fu)<|B (YU fu)<|cN
def UC:yb ⟨222,[.d y3,.d zN],[.own zN 30],λx=>vq fu x.1 x.2.1,0⟩:=sq fu ⟨[],[],[(3,q1 [(5,.own zN 30),(6,.d .i)] 0 [(5,.own zN 30)])],[],[],[],[]⟩ func222<|B (wi fu)<|B (YU fu)<|cN
def Az:yb ⟨207,[.d y3,.d y3],[.own zN 30],λx=>Vu fu x.1 x.2.1,0⟩:=sq fu wk func207<|B (dF fu)<|B (UC fu)<|B (Zh fu)<|cN
def Ai:yb ⟨135,[.d y3,.d y3],[.own zN 30,.d .i],λx=>kJ fu x.1 x.2.1,0⟩:=sq fu ⟨[],[],[(6,⟨⟨[(6,.d y3),(7,.own zN 30),(8,.own zN 30)],[]⟩,⟨[],[(.x 0,⟨[(8,.own zN 30)],[]⟩),(.r,⟨[],[(4,.nil),(5,.ci 4)]⟩)]⟩⟩)],[(8,[])],[],[],[]⟩ func135<|B (wi fu)<|B (FU fu)<|B (dF fu)<|B (Az fu)<|B (AH fu)<|cN
def ax:yb ⟨67,[.d y3],[.own zN 30],λx=>qb fu x.1,0⟩:=sq fu wk func67<|B (wi fu)<|B (bN fu)<|B (Ai fu)<|cN
def FT:yb ⟨238,[.d zN],[.d .i,.d .b],λx=>W2 fu x.1,0⟩:=sq fu wk func238<|B (qh fu)<|cN
def pO:yb ⟨56,[.d jC],[.d .i],λx=>Xj fu x.1,0⟩:=sq fu ⟨[],[],[(6,⟨⟨[(4,.d .i),(5,.d .u)],[]⟩,⟨[3],[(.x 0,⟨[(4,.d .i)],[]⟩)]⟩⟩)],[],[],[],[]⟩ func56<|B (bC fu)<|cN
def nH:yb ⟨113,[.d .i],[.d .b],λx=>X8 fu x.1,0⟩:=sq fu ⟨[],[],[(4,⟨⟨[(3,.d .i)],[]⟩,⟨[],[(.x 0,⟨[],[]⟩),(.r,⟨[],[(2,.kb wL)]⟩)]⟩⟩)],[],[],[],[]⟩ func113<|cN
def Ll:yb ⟨57,[.d .i],[.d .i,.d .i],λx=>ZB fu x.1,0⟩:=sq fu ⟨[],[],[(4,⟨⟨[(4,.d .i)],[]⟩,⟨[],[(.r,⟨[(2,.d .i)],[(3,.ci 0)]⟩)]⟩⟩)],[],[],[],[]⟩ func57<|B (nH fu)<|cN
def Gj:yb ⟨235,[.d .i],[.own .u 54],λx=>Ui fu x.1,0⟩:=sq fu wk func235<|cN
def O3:yb ⟨170,[.d jC,.d .i],[.own .u 54,.d .i],λx=>KG fu x.1 x.2.1,0⟩:=sq fu wk func170<|B (Gj fu)<|B (Aa fu)<|cN
def NP:yb ⟨108,[.d zN,.d .i],[.d zN,.d .i],λx=>QL fu x.1 x.2.1,0⟩:=sq fu ⟨[],[],[(5,q1 [(7,.d .i),(4,.var zN 30),(6,.var zN 30)] 0 [(4,.var zN 30),(6,.var zN 30)]),(11,⟨⟨[(1,.d .i),(2,.q zN),(12,.d .i),(11,.var zN 30)],[]⟩,⟨[4,6,10],[(.x 2,⟨[(1,.d .i),(2,.q zN),(11,.var zN 30)],[]⟩)]⟩⟩)],[],[],[],[]⟩ func108<|B (ZQ fu)<|B (O3 fu)<|B (Vm fu)<|B (Ag fu)<|B (YU fu)<|B (Zh fu)<|B (pO fu)<|cN
def Yc:yb ⟨51,[.d y3],[.d .i],λx=>qp fu x.1,0⟩:=sq fu wk func51<|B (wi fu)<|cN
def Ha:yb ⟨53,[.d y3],[.d zN,.d .i],λx=>Vb fu x.1,0⟩:=sq fu ⟨[],[(786446,⟨[2,5,6],[(.n,⟨[(8,.var zN 30)],[]⟩)]⟩)],[(7,⟨⟨[(7,.d .i),(6,.var zN 30)],[]⟩,⟨[2,5],[(.x 0,⟨[(6,.var zN 30)],[]⟩)]⟩⟩),(14,⟨⟨[(10,.d .i),(8,.var zN 30)],[]⟩,⟨[2,5,6],[(.x 2,⟨[(8,.var zN 30)],[]⟩)]⟩⟩)],[],[],[],[]⟩ func53<|B (wi fu)<|B (Vm fu)<|B (NP fu)<|B (Ag fu)<|B (Yc fu)<|B (YU fu)<|B (Zh fu)<|cN
def GQ:yb ⟨146,[.d y3],[.own zN 30],λx=>Vg fu x.1,0⟩:=sq fu ⟨[],[],[(3,q1 [(3,.own zN 30),(4,.d .i)] 0 [(3,.own zN 30)])],[],[],[],[]⟩ func146<|B (wi fu)<|B (YU fu)<|B (Zh fu)<|cN
def CD:yb ⟨221,[.d y3,.d y3],[.own zN 30,.own zN 30,.d .i],λx=>uZ fu x.1 x.2.1,0⟩:=sq fu ⟨[],[],[(8,⟨⟨[(7,.d y3),(8,.own zN 30),(9,.own zN 30),(11,.d .i)],[]⟩,⟨[10],[(.x 0,⟨[(8,.own zN 30),(9,.own zN 30),(11,.d .i)],[]⟩)]⟩⟩),(14,⟨⟨[(8,.own zN 30),(9,.own zN 30),(11,.d .i)],[]⟩,⟨[10],[(.x 2,⟨[(8,.own zN 30),(9,.own zN 30)],[]⟩)]⟩⟩)],[],[],[],[]⟩ func221<|B (wi fu)<|B (dF fu)<|B (Az fu)<|B (AH fu)<|B (UC fu)<|cN
def OY:yb ⟨145,[.d y3,.d y3],[.own zN 30],λx=>VL fu x.1 x.2.1,0⟩:=sq fu ⟨[],[],[(4,⟨⟨[(6,.d y3),(7,.own zN 30)],[]⟩,⟨[5],[(.x 0,⟨[(6,.d y3)],[]⟩)]⟩⟩)],[],[],[],[]⟩ func145<|B (Aw fu)<|B (ax fu)<|B (bN fu)<|B (CD fu)<|B (UC fu)<|cN
def cJ:yb ⟨83,[.d y3],[.own zN 30],λx=>ug fu x.1,0⟩:=sq fu wk func83<|B (OY fu)<|B (GQ fu)<|B (ax fu)<|B (Ai fu)<|cN
def Ba:yb ⟨52,[.d y3],[.own zN 30,.d .i],λx=>Yq fu x.1,0⟩:=sq fu wk func52<|B (cJ fu)<|B (Yc fu)<|cN
def uq:yb ⟨239,[.d .i],[.d .i],λx=>wC fu x.1,0⟩:=sq fu wk func239<|B (nH fu)<|cN
def Ah:yb ⟨305,[.d .i,.d .i],[.d .i],λx=>Vo fu x.1 x.2.1,0⟩:=sq fu wk func305<|cN
def jE:yb ⟨240,[.d yK,.d .i],[.own .i 3],λx=>yz fu x.1 x.2.1,0⟩:=sq fu ⟨[],[],[(3,q1 [(5,.own .i 3),(6,.d .i)] 0 [(5,.own .i 3)]),(7,⟨⟨[(7,.d .i)],[]⟩,⟨[5],[(.x 2,⟨[(7,.d .i)],[]⟩)]⟩⟩)],[],[],[],[]⟩ func240<|B (Ah fu)<|cN
def Um:yb ⟨241,[.d yK,.d yK,.d .i],[.own .i 3],λx=>xu fu x.1 x.2.1 x.2.2.1,0⟩:=sq fu ⟨[],[],[(5,q1 [(10,.d .i),(7,.own .i 3),(8,.own .i 3),(9,.own .i 3)] 0 [(9,.own .i 3)]),(8,⟨⟨[(2,.d .i),(11,.d .i),(9,.own .i 3)],[]⟩,⟨[7,8],[(.x 2,⟨[(2,.d .i),(9,.own .i 3)],[]⟩)]⟩⟩)],[],[],[],[]⟩ func241<|B (jE fu)<|cN
def O8:yb ⟨306,[.d .i,.d .i,.d .i],[.d .i,.d .i],λx=>KH fu x.1 x.2.1 x.2.2.1,0⟩:=sq fu ⟨[],[],[(6,q1 [(8,.d .i),(9,.d .i),(10,.d .i)] 0 [(8,.d .i)])],[],[],[],[]⟩ func306<|B (Ah fu)<|B (uq fu)<|cN
def Qf:yb ⟨242,[.d .i,.d .i],[.d .i],λx=>vO fu x.1 x.2.1,0⟩:=sq fu wk func242<|B (O8 fu)<|cN
def lH:yb ⟨176,[.d yK,.d .i],[.own .i 3,.d .i],λx=>wE fu x.1 x.2.1,0⟩:=sq fu wk func176<|B (jE fu)<|B (Um fu)<|B (Qf fu)<|B (uq fu)<|cN
def IV:yb ⟨177,[.d yK,.d yK],[.d .b],λx=>ZK fu x.1 x.2.1,0⟩:=sq fu ⟨[],[],[(4,⟨⟨[(5,.d .i)],[]⟩,⟨[],[(.x 0,⟨[],[]⟩),(.r,⟨[],[(4,.kb wL)]⟩)]⟩⟩)],[],[],[],[]⟩ func177<|cN
def GN:yb ⟨243,[.d yK,.d .i],[.own .i 3,.d .i],λx=>W3 fu x.1 x.2.1,0⟩:=sq fu ⟨[],[],[(6,⟨⟨[(7,.own .i 3),(8,.d .i)],[]⟩,⟨[6],[(.x 0,⟨[(7,.own .i 3)],[]⟩)]⟩⟩)],[],[],[],[]⟩ func243<|B (jE fu)<|B (uq fu)<|cN
def zaE:yb ⟨374,[.d yK,.d .i],[.d .i],λx=>Jx fu x.1 x.2.1,0⟩:=sq fu wk func374<|cN
def Ar:yb ⟨347,[.d yK,.d yK,.d .i,.d .i],[.own .i 3],λx=>YX fu x.1 x.2.1 x.2.2.1 x.2.2.2.1,0⟩:=sq fu ⟨[],[],[(5,q1 [(9,.d yK),(10,.d yK),(11,.own .i 3),(12,.d .i)] 0 [(11,.own .i 3)])],[],[],[],[]⟩ func347<|B (jE fu)<|B (zaE fu)<|cN
def Ab:yb ⟨308,[.d yK,.d yK,.d .i],[.own .i 3,.own .i 3,.d .i],λx=>Zw fu x.1 x.2.1 x.2.2.1,0⟩:=sq fu ⟨[],[],[(9,q1 [(10,.own .i 3),(9,.own .i 3),(11,.own .i 3)] 0 [(10,.own .i 3),(11,.own .i 3)]),(15,⟨⟨[(2,.d .i),(12,.d .i),(15,.own .i 3),(16,.d .i)],[]⟩,⟨[9,10,11],[(.x 2,⟨[(2,.d .i),(12,.d .i),(15,.own .i 3)],[]⟩)]⟩⟩),(19,⟨⟨[(15,.own .i 3),(17,.d .i)],[]⟩,⟨[9,10,11],[(.x 4,⟨[(15,.own .i 3)],[]⟩)]⟩⟩)],[],[],[],[]⟩ func308<|B (jE fu)<|B (Qf fu)<|B (Ar fu)<|B (uq fu)<|cN
def Fq:yb ⟨307,[.d yK,.d yK,.d .i],[.d yK,.d yK,.own .i 3,.d .i],λx=>XW fu x.1 x.2.1 x.2.2.1,0⟩:=sq fu ⟨[],[],[(5,q1 [(10,.own yK 23),(11,.own yK 23)] 0 [(10,.own yK 23)]),(9,⟨⟨[(2,.d .i),(15,.own yK 23),(16,.d .i)],[]⟩,⟨[10,11],[(.x 2,⟨[(2,.d .i),(15,.own yK 23)],[]⟩)]⟩⟩)],[],[],[],[]⟩ func307<|B (uq fu)<|B (jE fu)<|B (Um fu)<|B (Qf fu)<|B (Ab fu)<|B (Ar fu)<|cN
def Ae:yb ⟨245,[.d yK,.d yK,.d .i],[.d yK,.d .i],λx=>YZ fu x.1 x.2.1 x.2.2.1,0⟩:=sq fu wk func245<|B (Fq fu)<|cN
def C0:yb ⟨246,[.d yK,.d yK,.d .i],[.own .i 3],λx=>J5 fu x.1 x.2.1 x.2.2.1,0⟩:=sq fu wk func246<|B (Ab fu)<|cN
def Nf:yb ⟨244,[.d yK,.d .i],[.own .i 3],λx=>Ji fu x.1 x.2.1,0⟩:=sq fu ⟨[],[],[(3,q1 [(5,.own .i 3),(6,.d .i)] 0 [(5,.own .i 3)])],[],[],[],[]⟩ func244<|cN
def Bk:yb ⟨247,[.d yK,.d yK,.d .i],[.d yK],λx=>Yw fu x.1 x.2.1 x.2.2.1,0⟩:=sq fu ⟨[],[],[(2,q1 [(0,.d yK),(7,.d yK)] 0 [(0,.d yK)])],[],[],[],[]⟩ func247<|B (Ae fu)<|B (C0 fu)<|cN
def BB:X2:=⟨178,[.d yK,.d .i],[.own .i 3],λx=>wU fu x.1 x.2.1,0⟩
def cB:∀fu:K,yb (BB fu)
 |0=>sg0 iT λ_=>O
 |fu+1=>sq fu wk func178<|B (lH fu)<|B (Um fu)<|B (cB fu)<|B (GN fu)<|B (Nf fu)<|B (Ae fu)<|B (C0 fu)<|B (Bk fu)<|cN
def GZ:yb ⟨175,[.d yK,.d .i],[.d .i],λx=>K4 fu x.1 x.2.1,0⟩:=sq fu wk func175<|B (jE fu)<|B (uq fu)<|cN
def zaH:yb ⟨115,[.d yK,.d .i],[.d .b,.d .i],λx=>aE fu x.1 x.2.1,0⟩:=sq fu wk func115<|B (lH fu)<|B (IV fu)<|B (cB fu)<|B (GZ fu)<|cN
end
end
section
set_option maxRecDepth 100000
section
open Go.Proofs.Tryz
variable(fu:wr)
def Nv:yb ⟨237,[.d zN,.d zN],[.d zN,.d .i],λx=>QN fu x.1 x.2.1,0⟩:=sq fu wk func237<|B (ZQ fu)<|B (dG fu)<|cN
def R1:yb ⟨174,[.d zN,.d .i],[.d .i,.d .i],λx=>K1 fu x.1 x.2.1,0⟩:=sq fu ⟨[],[],[],[(1,[])],[],[],[]⟩ func174<|B (Nv fu)<|B (FT fu)<|B (Zh fu)<|cN
def Sc:yb ⟨114,[.d y3,.d .i],[.own .i 3,.d .i],λx=>KX fu x.1 x.2.1,0⟩:=sq fu ⟨[],[],[(5,q1 [(6,.own .i 3),(7,.d .i)] 0 [(6,.own .i 3)]),(10,⟨⟨[(10,.d .i)],[]⟩,⟨[6],[(.x 2,⟨[(10,.d .i)],[]⟩)]⟩⟩)],[],[],[],[]⟩ func114<|B (R1 fu)<|cN
def IM:yb ⟨58,[.d y3,.d .i],[.d .b,.d .i],λx=>QW fu x.1 x.2.1,0⟩:=sq fu wk func58<|B (wi fu)<|B (nH fu)<|B (Sc fu)<|B (Yc fu)<|B (zaH fu)<|cN
def GW:yb ⟨14,[.d y3],[.d .i],λx=>vt fu x.1,0⟩:=sq fu ⟨[],[(524298,⟨[6,8],[(.n,⟨[],[]⟩),(.r,⟨[],[(2,.ci 6)]⟩)]⟩)],[(10,⟨⟨[(9,.d .i),(10,.d .i)],[]⟩,⟨[6,8],[(.x 0,⟨[],[]⟩),(.r,⟨[],[(2,.ci 0)]⟩)]⟩⟩)],[(6,[])],[],[],[]⟩ func14<|B (Yc fu)<|B (Ba fu)<|B (Ha fu)<|B (YU fu)<|B (Zh fu)<|B (pO fu)<|B (Ll fu)<|B (IM fu)<|cN
def zaD:yb ⟨30,[.d y3],[.d .b,.d .i],λx=>Zv fu x.1,0⟩:=sq fu wk func30<|B (cJ fu)<|B (ax fu)<|B (Yc fu)<|B (sw fu)<|cN
def zdq:yb ⟨82,[.d y3],[.d .b,.d .i],λx=>gQ fu x.1,0⟩:=sq fu wk func82<|B (bg fu)<|B (mh fu)<|B (C4 fu)<|B (ZJ fu)<|cN
def MC:yb ⟨29,[.d y3,.d yK],[.own y3 22,.d .i],λx=>vv fu x.1 x.2.1,0⟩:=sq fu ⟨[],[(655371,⟨[11,31],[(.n,⟨[(32,.d .i),(34,.d .b)],[]⟩)]⟩)],[(9,⟨⟨[(11,.own y3 22),(33,.d .i),(31,.own (.p y3 .i) 42)],[]⟩,⟨[6],[(.x 0,⟨[(11,.own y3 22)],[]⟩)]⟩⟩)],[],[],[],[]⟩ func29<|B (zdq fu)<|B (Xw fu)<|cN
def iL:yb ⟨9,[.d y3,.d .i,.d .i],[.d .b],λx=>jU fu x.1 x.2.1 x.2.2.1,0⟩:=sq fu ⟨[],[(458761,⟨[],[(.n,⟨[(9,.d .i)],[]⟩)]⟩),(589836,⟨[],[(.n,⟨[(8,.d y3)],[]⟩)]⟩),(786449,⟨[],[(.n,⟨[(8,.d y3)],[]⟩)]⟩),(786445,⟨[],[(.n,⟨[(2,.d .i),(7,.d .b),(9,.d .i),(56,.d .b)],[]⟩)]⟩),(1114131,⟨[],[(.n,⟨[],[]⟩),(.r,⟨[(6,.d .b)],[]⟩)]⟩)],[],[],[],[],[]⟩ func9<|B (Gb fu)<|B (Hb fu)<|B (GW fu)<|B (Xw fu)<|B (xw fu)<|B (MC fu)<|B (zaD fu)<|cN
end
end
section
variable{x k:wr}{r a b l:xS wr}
def nv:N K->K
 |[]=>0
 |x::r=>x+18446744073709551616*nv r
def vu:K->K->N K
 |0,_=>[]
 |k+1,n=>n%18446744073709551616::vu k (n/18446744073709551616)
def sn:K->K->N K
 |0,_=>[]
 |f+1,n=>if n=0 then[]else n%18446744073709551616::sn f (n/18446744073709551616)
def yD(n:K):N K:=sn n n
def HC:N K->N K
 |[]=>[]
 |x::r=>match HC r with
  |[]=>if x=0 then[]else[x]
  |y::s=>x::y::s
def zm.nil:zm []:=λx c=>wS c H1
def zm.cons(h:x<18446744073709551616)(c:zm r):zm (x::r):=λy hy=>by
 obtain rfl|hy:=xag.1 hy
 ·exact h
 ·exact c y hy
def zm.head(h:zm (x::r)):x<18446744073709551616:=h x<|FS
def zm.tail(h:zm (x::r)):zm r:=λy c=>h y<|UV _ c
def zm.append(c:zm a)(d:zm b):zm (a++b):=λx e=>by
 obtain h|h:=So.1 e
 ·exact c x h
 ·exact d x h
theorem zm.take{a:N K}(h:zm a)(k:K):zm (a.take k):=λx c=>h x<|xel c
theorem zm.drop{a:N K}(h:zm a)(k:K):zm (a.drop k):=λx c=>h x<|xfH c
theorem zm.getD{a:N K}(h:zm a)(k:K):a.getD k 0<18446744073709551616:=by
 rw[xaa];by_cases c:k<X a
 ·rw[xak c];exact h _<|xcd c
 ·simp_all
def zm.replicate(k:K):zm (Nm k 0):=λx c=>by rw[List.eq_of_mem_replicate c];exact Nat.zero_lt_succ _
def Fc:nv []=0:=O
def k9(x:K)(r:N K):nv (x::r)=x+18446744073709551616*nv r:=O
theorem uy:∀(a b:N K),nv (a++b)=nv a+18446744073709551616^X a*nv b
 |[],b=>by simp[nv]
 |x::a,b=>by
  rw[xbL,k9,uy a b,k9];grind
def XI:∀k,nv (Nm k 0)=0
 |0=>rfl
 |k+1=>by rw[xdQ,k9,XI k]
theorem qm:∀{l:N K},zm l->nv l<18446744073709551616^X l
 |[],_=>by simp[nv]
 |x::r,h=>by
  have h1:=h.head;have c:=qm h.tail;rw[k9,xaw];lia
theorem pF(l:N K)(x:K):nv (l++[x])=nv l+18446744073709551616^X l*x:=by
 rw[uy,k9,Fc];simp
def yc:∀k n,X (vu k n)=k
 |0,_=>rfl
 |k+1,n=>by rw[vu,xaw,yc]
def wm:∀k n,zm (vu k n)
 |0,_=>zm.nil
 |k+1,n=>zm.cons (xaM _ iI)<|wm k _
def kK:∀k n,nv (vu k n)=n%18446744073709551616^k
 |0,n=>by simp[vu,nv,Nat.mod_one]
 |k+1,n=>by rw[vu,k9,kK k,xbq,xaL<|18446744073709551616^k,Nat.mod_mul]
def gR:∀{l:N K},zm l->vu (X l) (nv l)=l
 |[],_=>rfl
 |x::r,h=>by
  have h1:=h.head;rw[xaw,vu,k9,xcr,xam h1,xcA _ _ iI,xbi h1,xaJ,gR h.tail]
def sF(c:zm a)(d:zm b)(hl:X a=X b)(h:nv a=nv b):a=b:=by
 rw[<-gR c,<-gR d,hl,h]
def HT:∀k,vu k 0=Nm k 0
 |0=>rfl
 |k+1=>by rw[vu,HT k,xdQ]
def UR:∀k n,vu (k+1) n=vu k n++[n/18446744073709551616^k%18446744073709551616]
 |0,n=>by simp[vu]
 |k+1,n=>by rw[vu,UR k,vu,xbL,xaG,<-xdM]
def DN:∀f n,zm (sn f n)
 |0,_=>zm.nil
 |f+1,n=>by
  rw[sn];split
  ·exact zm.nil
  ·exact zm.cons (xaM _ iI)<|DN f _
theorem zz(n:K):zm (yD n):=DN n n
def zcW:∀f n,n<=f->nv (sn f n)=n
 |0,n,h=>by rw[sn,Fc];lia
 |f+1,n,h=>by
  rw[sn];split
  ·rename_i h0;rw[Fc,h0]
  ·rename_i h0;have c:n/18446744073709551616<=f:=W
   rw[k9,zcW f _ c,xeo]
theorem ye(n:K):nv (yD n)=n:=zcW n n<|IR _
def zb2:∀f f' n,n<=f->n<=f'->sn f n=sn f' n
 |0,f',n,h,c=>by
  have:n=0:=W
  subst this;cases f'<;>simp[sn]
 |f+1,0,n,h,c=>by
  have:n=0:=W
  subst this;rfl
 |f+1,f'+1,n,h,c=>by
  rw[sn,sn];split
  ·rfl
  ·rename_i h0;rw[zb2 f f' _ W W]
theorem ah:yD 0=[]:=O
theorem ry{n:K}(h:0<n):yD n=n%18446744073709551616::yD (n/18446744073709551616):=by
 have e:yD n=sn ((n-1)+1) n:=by unfold yD;congr 1;lia
 rw[e,sn,zA];congr 1;exact zb2 _ _ _ W W
theorem HL{n:K}(h0:0<n)(h:n<18446744073709551616):yD n=[n]:=by grind [ry,ah]
theorem Ns{n:K}:yD n=[]↔n=0:=by
 constructor
 ·intro h;rw[<-ye n,h];rfl
 ·rintro rfl;rfl
theorem vF{n:K}(h:0<n):0<X (yD n):=by rw[ry h,xaw];lia
def zK:∀(k n:K),X (yD n)<=k↔n<18446744073709551616^k
 |0,n=>by rw[Nat.le_zero,xbv,Ns];simp
 |k+1,n=>by
  by_cases h:n=0
  ·subst h;simp[ah];exact xaV iI
  ·rw[ry W,xaw,Nat.add_le_add_iff_right,zK k,xaS iI,xbq]
def zfh{n:K}(h:0<n):(yD n).getD (X (yD n)-1) 0≠0:=by
 intro h0;have hp:=vF h;have e:=gR<|zz n;rw[ye]at e;have⟨k,c⟩:∃k,X (yD n)=k+1:=⟨X (yD n)-1,W⟩;have h1:=(zK k n).2;rw[c,UR]at e;rw[<-e]at h0;simp at h0;have d:=(zK (k+1) n).1 W;have f:n/18446744073709551616^k<18446744073709551616:=by rw[xaS<|xaV iI];rwa[xbq,xaL]at d
 rw[xam f]at h0;have g:n<18446744073709551616^k:=by
  obtain h|h:=Nat.div_eq_zero_iff.1 h0
  ·lia
  ·exact h
 lia
def me:∀(l:N K) (k:K),k+1=X l->l.getD k 0≠0->HC l=l
 |[],_,h,_=>by simp at h
 |[x],0,_,h=>by simp at h;simp[HC,h]
 |[x],k+1,h,_=>by simp at h
 |x::y::r,0,h,_=>by simp at h
 |x::y::r,k+1,h,h0=>by
  have:=me (y::r) k (by simpa using h) (by simpa using h0);simp only[HC]at this⊢;rw[this]
theorem Sm:∀{l:N K},zm l->HC l=yD (nv l)
 |[],_=>rfl
 |x::r,h=>by
  have c:=Sm h.tail;have d:=h.head;rw[HC,c,k9];by_cases e:nv r=0
  ·rw[e,ah];by_cases h0:x=0
   ·simp[h0,ah]
   ·simp only[h0,uS,xcQ,xbO];rw[HL W d]
  ·have e1:=ry (n:=nv r) W;have f:=ry (n:=x+18446744073709551616*nv r) W;grind
theorem SH(hl:zm l)(h:l=[]\/l.getD (X l-1) 0≠0):yD (nv l)=l:=by
 rw[<-Sm hl];obtain rfl|h:=h
 ·rfl
 ·cases hn:X l with
  |zero=>rw[xbe hn];rfl
  |succ k=>exact me l k hn.symm<|by rw[hn]at h;exact h
def B3(hl:zm l)(k:K):nv (l.take k)=nv l%18446744073709551616^k:=by
 by_cases c:k<=X l
 ·have e:=uy (l.take k)<|l.drop k;rw[xbA,xas,xcF c]at e;have:=qm<|hl.take k;rw[xas,xcF c]at this;rw[e,xcr,xam this]
 ·rw[xaW W,xam];exact xaj (qm hl)<|xau iI W
def Mi(hl:zm l)(k:K):nv (l.drop k)=nv l/18446744073709551616^k:=by
 by_cases c:k<=X l
 ·have e:=uy (l.take k)<|l.drop k;rw[xbA,xas,xcF c]at e;have:=qm<|hl.take k;rw[xas,xcF c]at this;rw[e,xcA _ _ (xaV iI),xbi this,xaJ]
 ·rw[xbW W,Fc,xbi];exact xaj (qm hl)<|xau iI W
def Kv:∀{l:N K},zm l->∀k,l.getD k 0=nv l/18446744073709551616^k%18446744073709551616
 |[],_,k=>by simp[nv]
 |x::r,h,0=>by rw[List.getD_cons_zero,k9,xdU,xcr,xam h.head]
 |x::r,h,k+1=>by rw[xdo,Kv h.tail k,k9,xdM,<-xaG,xcA _ _ iI,xbi h.head,xaJ]
theorem zj9{α:Type}{l:N α}{n:K}{z x:α}(hl:X l=k)(c:k<n):(l++Nm (n-k) z).set k x=(l++[x])++Nm (n-(k+1)) z:=by
 have⟨m,d⟩:∃m,n-k=m+1:=⟨n-k-1,W⟩;rw[xfx _ _ W,hl];grind
def vJ(step:K->K->K×K):K->N K×K
 |0=>([],0)
 |k+1=>((vJ step k).1++[(step k (vJ step k).2).1],(step k (vJ step k).2).2)
theorem wv(step:K->K->K×K):∀k,(vJ step k).1.length=k
 |0=>rfl
 |k+1=>by rw[vJ,xaq,wv step k];rfl
def Bc(a b:N K)(k c:K):K×K:=((a.getD k 0+b.getD k 0+c)%18446744073709551616,(a.getD k 0+b.getD k 0+c)/18446744073709551616)
theorem zau{c:K}(d:zm a)(e:zm b)(hc:c<=1):(Bc a b k c).2<=1:=by grind [Bc,zm.getD]
theorem jr(l:N K):∀k,nv (l.take<|k+1)=nv (l.take k)+18446744073709551616^k*l.getD k 0:=by
 induction l with
 |nil=>intro k;simp[nv]
 |cons x r c=>
  intro k
  cases k with
  |zero=>simp[nv]
  |succ k=>
   rw[xeu,k9,c k,xeu,k9,xdo,xbq,xcj];rw[xaL (18446744073709551616^k) 18446744073709551616,xbl,xcM]
theorem Ew(a b:N K):∀k,nv (vJ (Bc a b) k).1+18446744073709551616^k*(vJ (Bc a b) k).2=nv (a.take k)+nv (b.take k)/\zm (vJ (Bc a b) k).1
 |0=>⟨by simp[vJ,nv],zm.nil⟩
 |k+1=>by
  have⟨f,d⟩:=Ew a b k;rw[vJ,jr,jr,pF,wv];refine⟨?_,d.append<|zm.cons (xaM _ iI) zm.nil⟩;generalize hc:(vJ (Bc a b) k).2=c at*
  simp only[Bc];have e:=xeo (a.getD k 0+b.getD k 0+c) 18446744073709551616;grind
theorem zge{n:K}(c:X a<=n)(d:X b<=n):nv ((vJ (Bc a b) n).1++[(vJ (Bc a b) n).2])=nv a+nv b:=by grind [pF,wv,Ew,xaW]
end
section
variable{x y k m j i:wr}{l a b o o0 r:xS wr}
def CM(h:X (yD x)<X (yD y)):x<y:=by
 have h1:=(zK (X (yD x)) x).1<|IR _;have d:¬y<18446744073709551616^X (yD x):=λc=>by have:=(zK _ y).2 c;lia
 lia
theorem JK(x B k:K)(c:0<B):x/B^k=B*(x/B^(k+1))+x/B^k%B:=by grind [xbp,xaG]
def zhv(h:x/18446744073709551616^(k+1)=y/18446744073709551616^(k+1))(hd:x/18446744073709551616^k%18446744073709551616<y/18446744073709551616^k%18446744073709551616):x<y:=by
 have h1:=JK x 18446744073709551616 k iI;have e:=JK y 18446744073709551616 k iI;refine xdk λd=> ?_;have f:=Nat.div_le_div_right (c:=18446744073709551616^k) d;lia
theorem zmA(h:x/18446744073709551616^(k+1)=y/18446744073709551616^(k+1))(hd:x/18446744073709551616^k%18446744073709551616=y/18446744073709551616^k%18446744073709551616):
 x/18446744073709551616^k=y/18446744073709551616^k:=by grind [JK]
theorem Xh(n k:K):(yD n).getD k 0=n/18446744073709551616^k%18446744073709551616:=by rw[Kv<|zz n,ye]
def zg1(h:X (yD x)=X (yD y)):x/18446744073709551616^X (yD x)=y/18446744073709551616^X (yD x):=by
 rw[xbi<|(zK _ x).1<|IR _,xbi<|(zK _ y).1 W]
theorem xb(h:zm l):X (yD<|nv l)<=X l:=(zK _ _).2<|qm h
theorem zgR(c:0<m)(h:x/18446744073709551616^m=y/18446744073709551616^m)(hd:(yD x).getD (m-1) 0=(yD y).getD (m-1) 0):x/18446744073709551616^(m-1)=y/18446744073709551616^(m-1):=by grind [zmA,Xh]
def zju(h:X (yD x)≠X (yD y)):jy (X (yD x):K) (X (yD y):K)=jy x y:=by
 obtain h|h:=Nat.lt_or_gt_of_ne h
 ·have:=CM h;rw[qf W,qf W]
 ·have:=CM h;rw[vM W,vM W]
def zdW(d:0<m)(h:x/18446744073709551616^m=y/18446744073709551616^m)(hd:(yD x).getD (m-1) 0≠(yD y).getD (m-1) 0):
 jy ((yD x).getD (m-1) 0:K) ((yD y).getD (m-1) 0:K)=jy x y:=by
 rw[(W:m=m-1+1)]at h;obtain hd|hd:=Nat.lt_or_gt_of_ne hd
 ·have c:=hd;rw[Xh,Xh]at c;have:=zhv h c;rw[qf W,qf W]
 ·have c:=hd;rw[Xh,Xh]at c;have:=zhv h.symm c;rw[vM W,vM W]
def cR(a b:N K)(k c:K):K×K:=((a.getD k 0+18446744073709551616-b.getD k 0-c)%18446744073709551616,if a.getD k 0<b.getD k 0+c then 1 else 0)
def De(a b:N K)(k c:K):(cR a b k c).2<=1:=by
 simp only[cR];split<;>lia
theorem Sb{a b:N K}(d:zm a)(f:zm b):∀k,nv (vJ (cR a b) k).1+nv (b.take k)=nv (a.take k)+18446744073709551616^k*(vJ (cR a b) k).2/\zm (vJ (cR a b) k).1/\(vJ (cR a b) k).2<=1
 |0=>⟨by simp[vJ,nv],zm.nil,xac _⟩
 |k+1=>by
  have⟨h,g,n⟩:=Sb d f k;rw[vJ,jr,jr,pF,wv];refine⟨?_,g.append<|zm.cons (xaM _ iI) zm.nil,De a b k _⟩;generalize hc:(vJ (cR a b) k).2=c at*
  simp only[cR];have h1:=d.getD k;have p:=f.getD k;generalize a.getD k 0=x at*
  generalize b.getD k 0=y at*
  have e:(x+18446744073709551616-y-c)%18446744073709551616+y+c=x+18446744073709551616*(if x<y+c then 1 else 0):=by grind
  grind
def EK{n:K}(c:zm a)(d:zm b)(hc:X a<=n)(hd:X b<=n):
 nv (vJ (cR a b) n).1+nv b=nv a+18446744073709551616^n*(vJ (cR a b) n).2/\zm (vJ (cR a b) n).1/\(vJ (cR a b) n).2<=1:=by
 have:=Sb c d n;rwa[xaW hc,xaW hd]at this
theorem Hr{n:K}(c:zm a)(d:zm b)(hc:X a<=n)(hd:X b<=n):0<(vJ (cR a b) n).2↔nv a<nv b:=by
 have⟨h1,e,g⟩:=EK c d hc hd;have f:=qm e;rw[wv]at f;constructor
 ·grind
 ·grind
theorem zc7{n:K}(c:zm a)(d:zm b)(hc:X a<=n)(hd:X b<=n)(h:¬nv a<nv b):nv (vJ (cR a b) n).1=nv a-nv b:=by
 have⟨h1,e,f⟩:=EK c d hc hd;have:¬0<(vJ (cR a b) n).2:=λhp=>h<|(Hr c d hc hd).1 hp;grind
def dQ(a:N K)(x:K)(k c:K):K×K:=((a.getD k 0*x+c)%18446744073709551616,(a.getD k 0*x+c)/18446744073709551616)
def pE{a c:K}(d:a<18446744073709551616)(e:x<18446744073709551616)(hc:c<18446744073709551616):(a*x+c)/18446744073709551616<18446744073709551616:=by
 have:a*x<=18446744073709551615*18446744073709551615:=xbM W W;lia
def TR{c:K}(d:zm a)(e:x<18446744073709551616)(hc:c<18446744073709551616):(dQ a x k c).2<18446744073709551616:=pE (d.getD k) e hc
theorem OM(a:N K)(x:K):∀k,nv (vJ (dQ a x) k).1+18446744073709551616^k*(vJ (dQ a x) k).2=nv (a.take k)*x/\zm (vJ (dQ a x) k).1
 |0=>⟨by simp[vJ,nv],zm.nil⟩
 |k+1=>by
  have⟨f,d⟩:=OM a x k;rw[vJ,jr,pF,wv];refine⟨?_,d.append<|zm.cons (xaM _ iI) zm.nil⟩;generalize hc:(vJ (dQ a x) k).2=c at*
  simp only[dQ];have e:=xeo (a.getD k 0*x+c) 18446744073709551616;grind
def Oa(hc:(vJ (dQ a x) (X a)).2<18446744073709551616):(vJ (dQ a x) (X a)).1++[(vJ (dQ a x) (X a)).2]=vu (X a+1) (nv a*x):=by
 have⟨h1,c⟩:=OM a x (X a);have hl:=c.append<|zm.cons hc zm.nil;have hn:nv ((vJ (dQ a x) (X a)).1++[(vJ (dQ a x) (X a)).2])=nv a*x:=by rw[pF,wv,h1,xaW<|IR _]
 have:=gR hl;rw[xaq,wv]at this;simp_all
def Fy(c:zm a)(d:x<18446744073709551616):nv a*x<18446744073709551616^(X a+1):=by
 have:=qm c
 calc nv a*x<=nv a*18446744073709551616:=xaA _ W
  _<_:=xbT this iI
theorem zaf:∀(o:N K) (j v:K),j<X o->nv (o.set j v)+18446744073709551616^j*o.getD j 0=nv o+18446744073709551616^j*v
 |[],j,v,h=>by simp at h
 |x::r,0,v,h=>by simp[nv];lia
 |x::r,j+1,v,h=>by
  have c:=zaf r j v (by simpa using h);rw[xfd,k9,k9,xdo,xbq,xaL<|18446744073709551616^j,xbl,xbl];lia
def zm.set{o:N K}(h:zm o)(j:K){v:K}(hv:v<18446744073709551616):zm (o.set j v):=λx c=>by
 obtain h1|h1:=xcS c
 ·exact h x h1
 ·lia
theorem zfq{c:K}(d:j+i<X o)(h:nv o+18446744073709551616^(j+i)*c=nv o0+18446744073709551616^j*nv (r.take i)):
 nv (o.set (j+i)<|(o.getD (j+i) 0+r.getD i 0+c)%18446744073709551616)+18446744073709551616^(j+(i+1))*((o.getD (j+i) 0+r.getD i 0+c)/18446744073709551616)=nv o0+18446744073709551616^j*nv (r.take<|i+1):=by grind [zaf,jr,xcj,xbl,xbu,xeo]
def Q9(c:zm a)(d:zm b):nv a*nv (b.take k)<18446744073709551616^(X a+k):=by
 have h1:=qm c;have e:=qm<|d.take k;have f:18446744073709551616^X (b.take k)<=18446744073709551616^k:=xau iI (by rw[xas];lia);rw[xbu];exact xdF h1 W
def zkG{c:K}(h:nv o+18446744073709551616^(j+X r)*c=nv o0+18446744073709551616^j*nv r)(hn:nv o0+18446744073709551616^j*nv r<18446744073709551616^(j+X r)):
 c=0/\nv o=nv o0+18446744073709551616^j*nv r:=by
 have hc:c=0:=by
  refine xfk λhp=> ?_;have:18446744073709551616^(j+X r)*1<=18446744073709551616^(j+X r)*c:=xaA _ hp;lia
 simp_all
def OD{p:N K}{c:K}(d:zm a)(f:zm b)(hi:¬i<X a+1)(hd:i<=X a+1)(g:nv o=nv a*nv (b.take k))(hp:nv p+18446744073709551616^(k+i)*c=nv o+18446744073709551616^k*nv ((vu (X a+1)<|nv a*b.getD k 0).take i)):nv p=nv a*nv (b.take<|k+1):=by
 obtain rfl:i=X a+1:=W
 have hl:=yc (X a+1)<|nv a*b.getD k 0;rw[xaW W]at hp;have h:nv (vu (X a+1)<|nv a*b.getD k 0)=nv a*b.getD k 0:=by rw[kK,xam<|Fy d<|f.getD k]
 have e:nv o+18446744073709551616^k*nv (vu (X a+1)<|nv a*b.getD k 0)=nv a*nv (b.take<|k+1):=by rw[h,g,jr,xcj,xfp]
 have hc:nv o+18446744073709551616^k*nv (vu (X a+1)<|nv a*b.getD k 0)<18446744073709551616^(k+X (vu (X a+1)<|nv a*b.getD k 0)):=by
  rw[e,hl,(W:k+(X a+1)=X a+(k+1))];exact Q9 d f
 generalize vu (X a+1) (nv a*b.getD k 0)=r at*
 rw[<-hl]at hp;rw[(zkG hp hc).2,e]
def m32{a b:K}(c:a<4294967296)(d:b<4294967296):a*b<=18446744065119617025:=xbM (W:a<=4294967295) (W:b<=4294967295)
def zkr(c:x<18446744073709551616)(d:y<18446744073709551616):(x%4294967296)*(y%4294967296)<=18446744065119617025/\(x/2^32)*(y%4294967296)<=18446744065119617025/\
 (x%4294967296)*(y/2^32)<=18446744065119617025/\(x/2^32)*(y/2^32)<=18446744065119617025:=
 ⟨m32 W W,m32 W W,m32 W W,m32 W W⟩
theorem zhR(x y:K):x*y=18446744073709551616*((x/2^32)*(y/2^32))+4294967296*((x/2^32)*(y%4294967296))+4294967296*((x%4294967296)*(y/2^32))+(x%4294967296)*(y%4294967296):=by
 have h1:x=4294967296*(x/2^32)+x%4294967296:=W
 have c:y=4294967296*(y/2^32)+y%4294967296:=W
 grind
def Zj(c:X (yD x)<=k)(d:X (yD y)<=k):X (yD<|x+y)<=k+1:=by
 rw[zK]at*
 lia
theorem zrc{x0 c d f P:K}:x0*d+P*((x0+c)*(d+f)-x0*d-c*f)+P*P*(c*f)=(x0+P*c)*(d+P*f):=by
 have e:(x0+c)*(d+f)-x0*d-c*f=x0*f+c*d:=by grind
 grind
theorem zkT(x0 d c e:K):x0*c<=(x0+d)*(c+e)/\d*e<=(x0+d)*(c+e)-x0*c:=by grind
theorem Oe(h:K):l.take (min h (X l))=l.take h:=by
 rw[Nat.min_def];split
 ·rfl
 ·grind
def R8(h:K):l.drop (min h (X l))=l.drop h:=by
 rw[Nat.min_def];split
 ·rfl
 ·rw[xbW<|IR _,xbW W]
def EN(n:K)(l:N K):nv (Nm n 0++l)=18446744073709551616^n*nv l:=by simp_all [uy,XI]
def Ia(h:K):nv (l.take h)+18446744073709551616^h*nv (l.drop h)=nv l:=by
 by_cases c:h<=X l
 ·have e:=uy (l.take h)<|l.drop h;simp_all
 ·rw[xbW W,xaW W,Fc,xcQ,xbO]
theorem zjb{A B:N K}(h:K):nv (A.take h)*nv (B.take h)+18446744073709551616^h*((nv (A.take h)+nv (A.drop h))*(nv (B.take h)+nv (B.drop h))-nv (A.take h)*nv (B.take h)-nv (A.drop h)*nv (B.drop h))+
 18446744073709551616^(2*h)*(nv (A.drop h)*nv (B.drop h))=nv A*nv B:=by
 have:= @zrc (nv<|A.take h) (nv<|A.drop h) (nv<|B.take h) (nv<|B.drop h)<|18446744073709551616^h;rw[Ia,Ia]at this;rw[Nat.two_mul,xbu];exact this
def Xa(c:X (yD x)<=j)(d:X (yD y)<=k):X (yD<|x*y)<=j+k:=by
 rw[zK]at*
 rw[xbu];exact xdF c d
def Su(q:K)(c:X (yD x)<=k):X (yD<|18446744073709551616^q*x)<=q+k:=by
 rw[zK]at*
 rw[xbu];exact Nat.mul_lt_mul_of_pos_left c<|xaV iI
def JB(h:x<=y):X (yD x)<=X (yD y):=by
 have:=(zK (X (yD y)) y).1<|IR _;exact(zK _ x).2 W
theorem zeF(a b h:K){x0 c d e:K}(f:x0=nv ((yD a).take h))(g:c=nv ((yD a).drop h))(hc:d=nv ((yD b).take h))(hd:e=nv ((yD b).drop h)):
 x0*d+18446744073709551616^h*((x0+c)*(d+e)-x0*d-c*e)+18446744073709551616^(2*h)*(c*e)=a*b:=by grind [zjb,ye]
end
section
variable{a b:xS wr}{k fu x:wr}
def zw{α β:Type}{f:(β->V α)->β->V α}(i:β->Prop)(m:β->K)(r:α)
 (step:∀s L,i s->(∀c,i c->m c<m s->L c=Z r)->f L s=Z r):∀(n:K) (s:β),i s->m s<n->zg f n s=Z r
 |0,s,_,h=>wS h<|xbC _
 |n+1,s,d,h=>step s _ d λc e g=>zw i m r step n c e ii
def zf7(h:zm a):a.take (X (yD<|nv a))=yD (nv a):=by
 refine sF (h.take _) (zz _) (by rw[xas];have:=xb h;omega) ?_;rw[B3 h,ye];exact xam<|(zK _ _).1<|IR _
def rq(c:k+1<=X a)(h0:a.getD k 0=0):nv (a.take k)=nv (a.take<|k+1):=by
 rw[jr,h0];simp
theorem o8(h:zm a)(c:k+1<=X a)(h0:a.getD k 0≠0):yD (nv<|a.take<|k+1)=a.take (k+1):=by grind [SH,zm.take]
theorem xm(h:zm a)(hl:X a<=17592186044416)(d:X a<fu):xq fu a=Z (yD<|nv a):=by
 unfold xq;rw[Y (v:=yD<|nv a)];refine zw (λl=>zm l/\nv l=nv a/\X l<=17592186044416) (λl=>X l) _ ?_ _ _ ⟨h,O,hl⟩ d;rintro l L ⟨c,hn,g⟩ e;unfold Kt;by_cases h0:0<(X l:J)
 ·have⟨k,f⟩:∃k,X l=k+1:=⟨X l-1,ii⟩;have e1:(X l:J)-1=(k:J):=ii
  rw[iq h0,e1,zb,yj,Q];by_cases h1:l.getD k 0=0
  ·rw[iq (by rw[h1]),zb,yJ,yL,Q];refine e _ ⟨c.take _,?_,by rw[xas];omega⟩ (by rw[xas];omega);rw[rq ii h1,<-f,xcJ,hn]
  ·rw[zA,<-hn];have:=o8 c (k:=k) ii h1;grind
 ·rw[ir h0,<-hn];have:l=[]:=xbv.1 ii;rw[this];rfl
theorem xZ(h:zm a)(hl:X a<=17592186044416)(c:X a<fu):wq fu a=Z (yD<|nv a):=by
 have:=xm h hl c;assumption
theorem Ve(h:zm a)(hl:X a<=17592186044416:=by omega)(c:X a<fu:=by omega):YC fu a=Z (yD<|nv a):=by grind [YC,wb,Y,xZ,xr,xb]
theorem Qz(h:zm a)(hl:X a<=17592186044416)(g:X a<fu):ZL fu a=Z (yD<|nv a):=by
 unfold ZL;have e:=xb h;rw[Y (v:=(X (yD<|nv a):J)),yJ,xr e,Q,zf7 h,xr (by simp;omega),Q];rfl;refine zw (λi:J=>0<=i/\i<=X a/\nv (a.take i.toNat)=nv a) (λi=>i.toNat) _ ?_ _ _ ⟨ii,ii,iP⟩ ii;rintro i L ⟨h0,h1,hn⟩ f;obtain⟨k,rfl⟩:=xaz h0;unfold fF;simp only[xaN]at*
 by_cases d:0<(k:J)
 ·obtain⟨j,rfl⟩:∃j,k=j+1:=⟨k-1,ii⟩;have e1:((j+1:K):J)-1=(j:J):=ii
  rw[iq d,e1,zb,yj,Q];by_cases c:a.getD j 0=0
  ·rw[iq (by rw[c]),zb];refine f _ ⟨ii,ii,?_⟩ ii;rw[xaN,rq ii c,hn]
  ·rw[zA,<-hn,o8 h ii c,xas];grind
 ·rw[ir d,<-hn];have:k=0:=ii
  subst this;rfl
def Da(x:K):x &&& 4294967295=x%4294967296:=Nat.and_two_pow_sub_one_eq_mod x 32
def EC:min (((32:K):J)).toNat 64=32:=iI
def VN{y:K}(c:x<18446744073709551616)(d:y<18446744073709551616):jd fu x y=Z (x*y/18446744073709551616,x*y%18446744073709551616):=by
 unfold jd;simp only[nm,Da,EC];have⟨b1,b2,b3,f⟩:=zkr c d;have e:=zhR x y;generalize g:(x%4294967296)*(y%4294967296)=A at*
 generalize h:(x/2^32)*(y%4294967296)=B at*
 generalize i:(x%4294967296)*(y/2^32)=C at*
 generalize j:(x/2^32)*(y/2^32)=D at*
 have l:x*y<18446744073709551616*18446744073709551616:=xdF c d;generalize x*y=z at*
 congr 2;omega
def j9{n:K}{f:J->K->V (K×K)}{step:K->K->K×K}(hn:n<=17179869184)(c:n<fu)(h:∀k,k<n->f (k:J) (vJ step k).2=Z (step k (vJ step k).2)):qo fu n f=Z (vJ step n):=by
 unfold qo;rw[yJ,yL,Q,Y (v:=((vJ step n).2,(vJ step n).1))];refine zw (λs:K×J×N K=>∃k:K,k<=n/\s=((vJ step k).2,(k:J),(vJ step k).1++Nm (n-k) 0)) (λs=>n-s.2.1.toNat) _ ?_ _ _ ⟨0,ii,O⟩ (by simpa using c);rintro s L ⟨k,e,rfl⟩ d;unfold bO;simp only[xaT];by_cases h1:(k:J)<(n:J)
 ·have hl:(vJ step k).1.length=k:=wv step k;rw[iq h1,Y (h k ii),zp (by simp[hl];omega),Q,zb];refine d _ ⟨k+1,ii,?_⟩ (by show n-((k:J)+1).toNat<n-((k:J)).toNat;omega);rw[zj9 hl ii];rfl
 ·rw[ir h1];obtain rfl:k=n:=ii
  simp
theorem VK(a:N K)(hl:X a<=9223372036854775807):VP fu a (k:J)=Z (a.getD k 0):=by grind [VP,zp,Q]
def ZO(c:zm a)(d:zm b)(hd:X a<=8589934592:=by omega)(g:X b<=8589934592:=by omega)(h:max (X a) (X b)+1<fu:=by omega):
 ZF fu a b=Z (yD<|nv a+nv b):=by
 unfold ZF;have e:max (X a:J) (X b)=((max (X a) (X b):K):J):=ii
 have hc:∀k,(vJ (Bc a b) k).2<=1:=by
  intro k
  induction k with
  |zero=>exact xac _
  |succ k f=>exact zau c d f
 rw[Q,e,Y<|j9 (step:=Bc a b) ii ii ?_]
 ·have hl:=wv (Bc a b)<|max (X a) (X b);show ck _ _=_;rw[xr (by simp;omega),Q,Y (xm ?_ (by simp;omega)<|by simp;omega),zge ii ii];exact(Ew a b _).2.append<|zm.cons (by have:=hc<|max (X a) (X b);omega) zm.nil
 ·intro k i;unfold dS;rw[Y (VK a ii),Y (VK b ii),xr<|hc k];rfl
theorem QX(c:zm a)(d:zm b)(hd:X a<=8589934592)(g:X b<=8589934592)(i:max (X a) (X b)+1<fu):
 Jr fu a b=Z (if nv a<nv b then([],1)else(yD<|nv a-nv b,0)):=by
 unfold Jr;have e:max (X a:J) (X b)=((max (X a) (X b):K):J):=ii
 have hc:∀k,(vJ (cR a b) k).2<=1:=by
  intro k
  cases k with
  |zero=>exact xac _
  |succ k=>exact De a b k _
 rw[Q,e,Y<|j9 (step:=cR a b) ii ii ?_]
 ·have hl:=wv (cR a b)<|max (X a) (X b);have f:=Hr c d (xdV (X a) (X b))<|xdG (X a) (X b);simp only;by_cases h:nv a<nv b
  ·simp_all
  ·rw[ir (by intro h1;exact h<|f.1 ii),ir h,Y (xm (EK c d (xdV (X a) (X b))<|xdG (X a) (X b)).2.1 ii ii),zc7 c d (xdV _ _) (xdG _ _) h]
 ·intro k j;unfold gf;rw[Y (VK a ii),Y (VK b ii),xr<|hc k];rfl
theorem UD(c:zm a)(d:zm b)(hc:X a<=8589934592)(hd:X b<=8589934592)(e:max (X a) (X b)+1<fu)(h:nv b<=nv a):
 X9 fu a b=Z (yD<|nv a-nv b):=by grind [X9,Y,QX]
def za5{a:N K}{x:K}(c:zm a)(d:x<18446744073709551616):∀k,(vJ (dQ a x) k).2<18446744073709551616
 |0=>Nat.zero_lt_succ _
 |k+1=>TR c d<|za5 c d k
theorem zee{a c:K}(d:a<18446744073709551616)(e:x<18446744073709551616)(hc:c<18446744073709551616):
 ((a*x%18446744073709551616+c)%18446744073709551616,(a*x/18446744073709551616+(a*x%18446744073709551616+c)/18446744073709551616)%18446744073709551616)=((a*x+c)%18446744073709551616,(a*x+c)/18446744073709551616):=by
 have:=pE d e hc;grind
def aN(c:zm a)(d:x<18446744073709551616)(g:X a<=8589934592:=by omega)(e:X a<fu:=by omega):Jl fu a x=Z (vu (X a+1)<|nv a*x):=by
 unfold Jl;rw[Y<|j9 (step:=dQ a x) ii e ?_]
 ·have hl:=wv (dQ a x) (X a);simp only;rw[xr (by simp;omega),Q,Oa<|za5 c d _]
 ·intro k f;unfold dh;rw[zp f,Q,Y<|VN (c.getD k) d];exact kW Z<|zee (c.getD k) d<|za5 c d k
theorem J8{n:K}(hn:n<=1099511627776:=by omega)(hl:X a<=1099511627776:=by omega):Y2 fu a (n:J)=Z (Nm n 0++a):=by grind [Y2,yJ,xr,Q]
def IW{n:K}{t3 t4 t6:N K}{i2:J}(d:zm a)(f:zm b)(v:k<X b)(hn:n=X a+X b+1)(w:n<=17179869184)(g:t6=vu (X a+1) (nv a*b.getD k 0))(m:X a+1<fu):
 zg (JI fu (k:J) t3 t4 i2 t6) fu (0,0,vu n<|nv a*nv (b.take k),t6)=Z (vu n<|nv a*nv (b.take<|k+1)):=by
 have hl:X t6=X a+1:=by rw[g,yc]
 have q:zm t6:=g▸wm _ _;have t:nv a*nv (b.take k)<18446744073709551616^n:=xaj (Q9 d f) (xau iI ii);have h0:nv (vu n<|nv a*nv (b.take k))=nv a*nv (b.take k):=by rw[kK,xam t]
 refine zw (λs:K×J×N K×N K=>∃(c i:K) (o:N K),s=(c,(i:J),o,t6)/\i<=X t6/\c<=1/\zm o/\X o=n/\nv o+18446744073709551616^(k+i)*c=nv a*nv (b.take k)+18446744073709551616^k*nv (t6.take i))
  (λs=>X a+1-s.2.1.toNat) _ ?_ _ _ ⟨0,0,_,O,ii,ii,wm _ _,yc _ _,by rw[h0];simp[nv]⟩ (by simpa using m)
 rintro s L ⟨c,i,o,rfl,hi,hc,hd,h,l⟩ u;unfold JI;simp only;by_cases h1:i<X t6
 ·rw[zP,Y O];simp only[uP];have e:(k:J)+(i:J)=((k+i:K):J):=ii
  rw[zp h1,Q,e,zb,zb,yj,Q,xr hc,Q,Q,yj,Q,zb];refine u _ ⟨_,i+1,_,O,ii,?_,hd.set _ (xaM _ iI),by rw[xbt,h],?_⟩ (by show X a+1-((i:J)+1).toNat<X a+1-(i:J).toNat;omega)
  ·have:=hd.getD<|k+i;have:=q.getD i;omega
  ·have:=zfq (o:=o) (o0:=vu n<|nv a*nv (b.take k)) (r:=t6) (j:=k) (i:=i) (c:=c) ii (by rw[h0];exact l);rw[h0]at this;exact this
 ·rw[zA,Y O];simp only[xar,uS];subst g;refine kW Z<|sF hd (wm _ _) (by rw[h,yc]) ?_;rw[OD d f (k:=k) (i:=i) (c:=c) (p:=o) (o:=vu n<|nv a*nv (b.take k)) ii ii h0 (by rw[h0];exact l),kK,xam];exact xaj (Q9 d f)<|xau iI ii
theorem AY(c:zm a)(d:zm b)(hc:X a<=4294967296)(hd:X b<=4294967296)(h:X a+X b+1<fu):
 Q0 fu a b=Z (yD<|nv a*nv b):=by
 unfold Q0;have e1:(X a:J)+(X b:J)=((X a+X b:K):J):=ii
 have e:((X a+X b:K):J)+1=((X a+X b+1:K):J):=ii
 have f:nv a*nv b<18446744073709551616^(X a+X b+1):=by
  have:=Q9 (k:=X b) c d;grind
 rw[e1,zb,e,zb,yJ,yL,Q,Y (v:=vu (X a+X b+1)<|nv a*nv b)]
 ·rw[Y (xm (wm _ _) (by rw[yc];omega)<|by rw[yc];omega),kK,xam f]
 ·refine zw (λs:J×N K=>∃k:K,k<=X b/\s=((k:J),vu (X a+X b+1)<|nv a*nv (b.take k))) (λs=>X b-s.1.toNat) _ ?_ _ _ ⟨0,ii,by simp[nv,HT]⟩ (by simp;omega);rintro s L ⟨k,i,rfl⟩ g;unfold dB;simp only;by_cases h1:k<X b
  ·rw[zP,Y O];simp only[uP];rw[zp h1,Q,Y (aN c (d.getD k) ii ii),Y (IW c d h1 O ii O ii),zb];exact g _ ⟨k+1,ii,O⟩ (by show X b-((k:J)+1).toNat<X b-(k:J).toNat;omega)
  ·rw[zA,Y O];simp only[xar,uS];obtain rfl:k=X b:=ii
   rw[xcJ]
end
def zbh(n:K):xcw (n:J) 2=((n/2:K):J):=O
def fU(x h:K):X (yD<|nv<|(yD x).take h)<=h:=by grind [xb,zm.take,zz]
def dN(x h:K):X (yD<|nv<|(yD x).drop h)<=X (yD x)-h:=by grind [xb,zm.drop,zz]
def Jb:∀{fu:wr}{a b:N wr},zm a->zm b->X a<=1073741824->X b<=1073741824->4*(X a+X b)+64<=fu->Jo fu a b=Z (yD<|nv a*nv b)
 |0,a,b,_,_,_,_,T=>by lia
 |fu+1,a,b,B,D,hk,hl,T=>by
  have h1:=xb B;have h2:=xb D;show G _ _=_;rw[Y (xZ B W W),Y<|xZ D W W];have eA:nv (yD<|nv a)=nv a:=ye _;have U:nv (yD<|nv b)=nv b:=ye _;generalize hx:nv a=x at*
  generalize hy:nv b=y at*
  generalize hp:X (yD x)=p at*
  generalize s:X (yD y)=q at*
  have e1:min (p:J) (q:J)=((min p q:wr):J):=W
  rw[Q,e1];by_cases u:((min p q:wr):J)<8
  ·rw[iq u,Y (AY (zz x) (zz y) W W W),eA,U]
  ·rw[ir u];have E:max (p:J) (q:J)=((max p q:wr):J):=W
   rw[Q,E,zbh,zb];have⟨h,F⟩:∃h,h=max p q/2:=⟨_,O⟩;have H:∀l:wr,min (h:J) (l:J)=((min h l:wr):J):=by intro l;lia
   rw[<-F];simp only[C,H,yJ];rw[xr iI,yL];have L:(yD x).take (min h p)=(yD x).take h:=by rw[<-hp];exact Oe h
   have M:(yD x).drop (min h p)=(yD x).drop h:=by rw[<-hp];exact R8 h
   have ty:(yD y).take (min h q)=(yD y).take h:=by rw[<-s];exact Oe h
   have dy:(yD y).drop (min h q)=(yD y).drop h:=by rw[<-s];exact R8 h
   rw[L,ty,M,dy];have v:=fU x h;have w:=fU y h;have f:X ((yD x).drop h)=p-h:=by rw[xcf,hp]
   have g:X ((yD y).drop h)=q-h:=by rw[xcf,s]
   have i:=dN x h;have o:=dN y h;rw[Y (xZ ((zz x).take h) (by rw[xas];lia)<|by rw[xas];lia),yL,yL,Y (xZ ((zz y).take h) (by rw[xas];lia)<|by rw[xas];lia),yL];have P:=(zz x).drop h;have⟨m,V⟩:∃m,m=max p q:=⟨_,O⟩;have f1:p<=m:=W
   have f2:q<=m:=W
   have f3:m+8<=p+q:=W
   have f4:2*h<=m:=W
   have f5:m<=2*h+1:=W
   clear F V u e1 E H L ty M dy;have g1:p-h<=m-h:=W
   have A:q-h<=m-h:=W
   have g3:h<=m-h:=W
   replace i:=xae i<|hp.symm▸g1;replace o:=xae o<|s.symm▸A;have a0:X ((yD x).drop h)<=m-h:=f▸g1;have a1:X ((yD y).drop h)<=m-h:=g▸A;clear f g g1 A;have R:=(zz y).drop h;generalize he:nv ((yD x).take h)=x0 at*
   generalize hg:nv ((yD y).take h)=c at*
   generalize hi:(yD x).drop h=dX at*
   generalize hj:(yD y).drop h=dY at*
   generalize hc:nv dX=d at*
   generalize hd:nv dY=e at*
   have s1:=Zj (x:=x0) (y:=d) (k:=m-h) W W;have s2:=Zj (x:=c) (y:=e) (k:=m-h) W W;have r:=zkT x0 d c e;rw[Y<|Jb (fu:=fu) (zz x0) (zz c) W W W];rw[Y<|Jb (fu:=fu) P R W W W];rw[Y<|ZO (zz x0) P,Y<|ZO (zz c) R];rw[hc,hd,ye,ye];rw[Y (Jb (fu:=fu) (zz<|x0+d) (zz<|c+e) W W W),ye,ye];have l3:=Xa s1 s2;have l1:=Xa v w;have l2:=Xa (x:=d) (y:=e) (j:=m-h) (k:=m-h) W W;have l4:=JB<|xeY ((x0+d)*(c+e))<|x0*c;have l5:=JB<|xeY ((x0+d)*(c+e)-x0*c)<|d*e;rw[Y (UD (zz<|(x0+d)*(c+e)) (zz<|x0*c) W W W<|by rw[ye,ye];exact r.1),ye,ye];rw[Y (UD (zz<|(x0+d)*(c+e)-x0*c) (zz<|d*e) W W W<|by rw[ye,ye];exact r.2),ye,ye];have S:∀n z:wr,zm (Nm n 0++yD z):=λn z=>(zm.replicate n).append<|zz z;have ml:∀n z:wr,X (Nm n 0++yD z)=n+X (yD z):=λn z=>by rw[xaq,xaT]
   rw[Y<|J8,Y (ZO (zz _) (S _ _) W (by rw[ml];lia)<|by rw[ml];lia),ye,EN,ye];have e4:2*(h:J)=((2*h:wr):J):=W
   rw[e4,zb,Y<|J8];have t:=Su h<|xae l5<|xae l4 l3;have l7:=Zj (x:=x0*c) (y:=18446744073709551616^h*((x0+d)*(c+e)-x0*c-d*e)) (k:=3*(p+q)) (by clear t;lia) (xae t<|by clear t;lia);have K:=zeF x y h he.symm (by rw[hi,hc]) hg.symm (by rw[hj,hd]);generalize 18446744073709551616^h*((x0+d)*(c+e)-x0*c-d*e)=z1 at*
   generalize hz:x0*c+z1=z at*
   clear t;rw[Y (ZO (zz z) (S (2*h)<|d*e) (by clear K;lia) (by rw[ml];clear K;lia)<|by rw[ml];clear K;lia),ye,EN,ye,K]
section
variable{k fu:wr}{a:xS wr}
def blf:K->K->K
 |0,_=>0
 |f+1,n=>if n=0 then 0 else blf f (n/2)+1
def bl(n:K):K:=blf n n
def ze0:∀f f' n,n<=f->n<=f'->blf f n=blf f' n
 |0,f',n,h,b=>by
  obtain rfl:n=0:=W
  cases f'<;>rfl
 |f+1,0,n,h,b=>by
  obtain rfl:n=0:=W
  rfl
 |f+1,f'+1,n,h,b=>by
  unfold blf;split
  ·rfl
  ·rw[ze0 f f' (n/2) W W]
def ziZ:bl 0=0:=O
def aH{n:K}(h:0<n:=by lia):bl n=bl (n/2)+1:=by
 obtain⟨m,rfl⟩:∃m,n=m+1:=⟨n-1,W⟩;show(if m+1=0 then 0 else blf m ((m+1)/2)+1)=_;rw[ze0 m ((m+1)/2) ((m+1)/2) W<|IR _];rfl
def dE:∀(k:K) {n:K},2^k<=n->bl n=bl (n/2^k)+k
 |0,n,h=>by simp
 |k+1,n,h=>by
  have b:=Nat.two_pow_pos k;rw[aH,dE k W,xaG,xbq,xaL 2];lia
theorem Jt{n:K}(h:n<2^k):bl n<=k:=by
 induction k generalizing n with
 |zero=>
  obtain rfl:n=0:=W
  exact IR _
 |succ k b=>
  obtain rfl|h0:=xbV n
  ·grind
  ·rw[aH h0];grind
theorem AI(n:K):n<2^bl n:=by
 induction n using xdc with
 |ind n b=>
  obtain rfl|h0:=xbV n
  ·decide
  ·rw[aH h0];grind
def Ho:∀{n:K},n<256->xeX n=bl n:=by decide+kernel
theorem jm{x:K}(q:x<18446744073709551616):xW fu x=Z ((bl x:K):J):=by
 unfold xW;have f:min (16:J).toNat 64=16:=iI
 have o:min (8:J).toNat 64=8:=iI
 have g:min (32:J).toNat 64=32:=iI
 simp only[C,g,f,o];have c:∀(d:K) (i:J),d<65536->0<=i->i<=48->(if(256:J)<=(d:J)then E (i+8) λj=>E (j+((xeX (d/2^8%256):K):J)) λl=>Z l else E (i+((xeX (d%256):K):J)) λm=>Z m)=Z (i+((bl d:K):J)):=by
  intro d i hd h0 h1;by_cases h:256<=d
  ·have b:=Jt (n:=d/2^8) (k:=8) W;rw[zP,zb,xam W,Ho W,zb,dE 8 (n:=d) W];grind
  ·have b:=Jt (n:=d) (k:=8) W;rw[zA,xam W,Ho W,zb]
 have e:∀(d:K) (i:J),d<4294967296->0<=i->i<=32->(G (if(65536:J)<=(d:J)then E (i+16) λp=>Z (d/2^16,p)else Z (d,i)) λ(d2,i2)=>if(256:J)<=(d2:J)then E (i2+8) λj=>E (j+((xeX (d2/2^8%256):K):J)) λl=>Z l else E (i2+((xeX (d2%256):K):J)) λm=>Z m)=Z (i+((bl d:K):J)):=by
  intro d i hd h0 h1;by_cases h:65536<=d
  ·rw[zP,zb,Y O];simp only;rw[c _ _ W W W,dE 16 (n:=d) W];congr 1;lia
  ·rw[zA,Y O];exact c _ _ W W W
 by_cases h:4294967296<=x
 ·rw[zP,Y O];simp only;rw[e _ _ W W W,dE 32 (n:=x) W];congr 1;lia
 ·rw[zA,Y O];simp only;rw[e _ _ W W W];congr 1;lia
def Fv{n:K}(h:0<n):bl n=64*((yD n).length-1)+bl ((yD n).getD ((yD n).length-1) 0):=by
 obtain⟨k,hk⟩:∃k,(yD n).length=k+1:=⟨(yD n).length-1,by have:=vF h;lia⟩;have h1:=(zK (k+1) n).1 (by lia);have h2:¬n<18446744073709551616^k:=λh=>by have:=(zK k n).2 h;lia
 rw[hk,Xh,show k+1-1=k by lia];have e:18446744073709551616^k=2^(64*k):=by rw[xbX]
 have h3:n/18446744073709551616^k<18446744073709551616:=by rw[xaS<|xaV<|by decide];rw[xbq,xaL]at h1;exact h1
 rw[xam h3,e,dE (64*k)<|by skip;lia];lia
def zbb(h:zm a)(b:X a<=k):bl (nv a)<=64*k:=by
 refine Jt ?_;rw[xbX];exact xaj (qm h)<|xau iI b
def W6(h:zm a)(hl:X a<=1099511627776)(d:X a<fu):u5 fu a=Z ((bl (nv a):K):J):=by
 unfold u5;rw[Y<|xZ h (xae hl iI) d];have f:=zbb h hl;rcases xbV (nv a)with h0|h0
 ·rw[h0];rfl
 ·have h1:=vF h0;have b:=(zz<|nv a).getD<|X (yD<|nv a)-1;have e:=Fv h0;have⟨k,c⟩:∃k,X (yD<|nv a)=k+1:=⟨X (yD<|nv a)-1,W⟩;rw[c]at e b;simp only[xec]at e b;have e1:((k+1:K):J)-1=k:=W
  rw[c,e1,zb,zb,zb,yj,Q,Y<|jm b,zb,e];rfl
def cm(h:zm a)(hl:X a<=17179869184)(j:X a+64<fu):Xj fu a=Z ((bl (nv a):K):J):=by
 unfold Xj;rw[Y<|Qz h (xae hl iI) W];have l:=xb h;have m:=zbb h hl;rcases xbV (nv a)with h0|h0
 ·rw[h0,ah];rfl
 ·have h1:=vF h0;have b:=(zz<|nv a).getD<|X (yD<|nv a)-1;have e:=Fv h0;have⟨k,c⟩:∃k,X (yD<|nv a)=k+1:=⟨X (yD<|nv a)-1,W⟩;rw[c]at e b;simp only[xec]at e b;have e1:((k+1:K):J)-1=(k:J):=W
  rw[c,zA,e1,zb,zb,zb,yj,Q];generalize(yD<|nv a).getD k 0=y at*
  have hc:=Jt (n:=y) (k:=64) b;rw[Y (v:=((bl (nv a):K):J))];refine zw (λs:J×K=>0<=s.1/\s.1+((bl s.2:K):J)=((bl (nv a):K):J)) (λs=>bl s.2) _ ?_ _ _ ⟨by show(0:J)<=64*(k:J);lia,by show(64:J)*(k:J)+((bl y:K):J)=_;lia⟩ (by show bl y<fu;lia);rintro⟨i,d⟩ L ⟨hi,hd⟩ f;unfold dm;simp only at*
  by_cases g:0<d
  ·have hp:=aH g;rw[zP,zb,Q];exact f (i+1,d/2) ⟨by show(0:J)<=i+1;lia,by show i+1+((bl (d/2):K):J)=_;lia⟩ (by show bl (d/2)<bl d;lia)
  ·obtain rfl:d=0:=W
   rw[zA,<-hd,ziZ];simp
end
end Go.Proofs.YtmggkmchbdanfaaGreat
