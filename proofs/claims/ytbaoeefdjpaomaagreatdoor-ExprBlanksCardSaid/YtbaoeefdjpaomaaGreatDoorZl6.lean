/- ExprBlanks: the law's mirror, its row and its card. No condition. -/
import Derived.Test.YtbaoeefdjpaomaaGreatDoorZl5
import Derived.Sort.AssemblyPlain
import Derived.Test.YtbaoeefdjpaomaaGreatDoorTie
import Derived.Test.YtbaoeefdjpaomaaGreatDoorCards
import Derived.Stop.LaidErr
import Derived.Handed
set_option linter.unusedVariables false
set_option linter.unusedSimpArgs false
namespace Go.Proofs.YtbaoeefdjpaomaaGreatDoor
open And renaming intro->TH
open Bool renaming and_eq_true->IR,false_eq_true->Pd,false_ne_true->Pa,false_or->Sa,not_true->SC,or_eq_true->R2
open DataW renaming TrodAll->SV
open Instr renaming sureAddr->S5
open Int renaming natCast_nonneg->R5,tdiv->SW,tdiv_eq_ediv_of_nonneg->RV
open List renaming all_eq_true->Pe,cons_append->PZ,contains_iff_mem->TG,countP_le_length->TC,drop_eq_getElem_cons->R0,drop_eq_nil_of_le->RY,foldl_cons->SO,getD_eq_getElem?_getD->PY,getElem?_toArray->SS,getElem_mem->Rm,getElem_of_mem->Rr,length_append->O1,length_cons->FS,length_eq_one_iff->P2,length_nil->R1,mem_append->OX,mem_cons->OY,mem_filter->PO,mem_map->O8,mem_range->PK,mem_singleton->OZ,nil_suffix->Tu,not_mem_nil->UV,range->P4,range'->RK,range'_succ->TQ
open List.Pairwise renaming filter->S4
open Nat renaming add_zero->Sl,eq_zero_or_pos->PB,le_of_lt->xab,le_refl->O3,le_trans->Pz,lt_succ_self->Ru,not_lt_zero->TZ,zero_add->Pk
open Option.some renaming inj->P9
open Result renaming andThen_ok->O0
open Sem renaming run_bind->O5,run_pure->Pg
open Value renaming okWide->SQ
section
def nd:Tr->Nat
 |.nil=>0
 |.mk _ _ _ _ l r=>nd l+nd r+1
theorem Q0(a m:Nat)(x:Tx):x.length<=(wr a m x).length:=by rw[W4];lia
theorem Wg:∀t:Tr,Gt t->nd t<=(tx t).length
 |.nil,h=>h.elim
 |.mk op m c i l r,h=>by
  have hp:=FH h;rcases h with⟨rfl,rfl,rfl,rfl,rfl,_⟩|⟨rfl,rfl,_,rfl,rfl,rfl⟩|⟨rfl,rfl,rfl,rfl,hl,rfl⟩|⟨rfl,rfl,rfl,_,_,hl,rfl⟩|⟨rfl,_,rfl,rfl,hl,rfl⟩|⟨rfl,rfl,rfl,rfl,hl,hr⟩|⟨ha,rfl,rfl,rfl,hl,hr⟩
  ·exact hp
  ·exact hp
  ·have:=Wg l hl;have:=Q0 (qh l) 2<|tx l;show nd l+0+1<=(45::wr (qh l) 2 (tx l)).length;rw[FS];lia
  ·have:=Wg l hl;have:=Q0 (qh l) 0<|tx l;show nd l+0+1<=(wr (qh l) 0 (tx l)++94::ZM i).length;rw[O1,FS];lia
  ·have:=Wg l hl;have:=Q0 (qh l) 2<|tx l;show nd l+0+1<=(wr (qh l) 2 (tx l)++47::UG m).length;rw[O1,FS];lia
  ·have:=Wg l hl;have:=Q0 (qh l) 2<|tx l;have:=Wg r hr;have:=Q0 (qh r) 1<|tx r;show nd l+nd r+1<=(wr (qh l) 2 (tx l)++42::wr (qh r) 1 (tx r)).length;rw[O1,FS];lia
  ·have:=Wg l hl;have:=Q0 (qh l) 3<|tx l;have:=Wg r hr;have:=Q0 (qh r) 2<|tx r;have e:tx (.mk op [] 0 0 l r)=wr (qh l) 3 (tx l)++op::wr (qh r) 2 (tx r):=by rcases ha with rfl|rfl<;>rfl
   rw[e];show nd l+nd r+1<=_;rw[O1,FS];lia
section
variable{fu:Nat}{o:List Nat}{l n:Int}{b x:Tx}
theorem ZE(h:b.length+x.length<=4096):zI fu (o,(l,(n,false))) b x=some ((o,(l,(n,false))),b++x):=by
 unfold zI;rw[Vu,zP,ir Pa,ir (by rw[O1];lia),zP]
theorem Ks{m:List Nat}(hf:3000000<=fu)(hm:kn (nv m)=m)(h:b.length+(UG m).length<=4096):xc fu (o,(l,(n,false))) b m=some ((o,(l,(n,false))),b++UG m):=by
 obtain⟨h1,h2,_⟩:=fS m;have h3:=Zi _ h2;rw[h1,hm]at h3;have h4:=la _ _ rfl h2;rw[h1]at h4;have h5:=JD hf h4 (by lia);rw[hm]at h5;unfold xc;rw[xb,h5,zF];rw[show Dd (nv m)=UG m from rfl,ZE h,zF]
end
theorem oM{fu:Nat}:∀t:Tr,Gt t->Zh fu t=some ((qh t:Nat):Int)
 |.nil,h=>h.elim
 |.mk op m c i l r,h=>by
  rcases h with⟨rfl,_⟩|⟨rfl,_⟩|⟨rfl,_⟩|⟨rfl,_⟩|⟨rfl,_⟩|⟨rfl,_⟩|⟨rfl|rfl,_⟩<;>rfl
def Wk(R:((List Nat)×(Int×(Int×Bool)))->List Nat->Tr->Option (((List Nat)×(Int×(Int×Bool)))×List Nat))(t:Tr):Prop:=
 ∀(o:List Nat) (l n:Int) (b:Tx),(nd t:Int)<=l->l<=4096->0<=n->n+(br t:Int)<=100->b.length+(tx t).length<=4096->
  R (o,(l,(n,false))) b t=some ((o,(l-(nd t:Int),(n,false))),b++tx t)
theorem jd{R:((List Nat)×(Int×(Int×Bool)))->List Nat->Tr->Option (((List Nat)×(Int×(Int×Bool)))×List Nat)}{fu:Nat}{t:Tr}(hg:Gt t)(hR:Wk R t){m:Nat}{k:Int}(hk:k=(m:Int)){o:List Nat}{l n:Int}{b:Tx}(h1:(nd t:Int)<=l)(h2:l<=4096)(h3:0<=n)(h4:n+(bw (qh t) m (br t):Int)<=100:=by lia)(h5:b.length+(wr (qh t) m<|tx t).length<=4096:=by lia):
 zJ R fu (o,(l,(n,false))) b t k=some ((o,(l-(nd t:Int),(n,false))),b++wr (qh t) m (tx t)):=by
 subst hk;unfold zJ;unfold bw at h4;unfold wr at h5⊢;rw[ir Pa,oM t hg,zF];by_cases hm:qh t<=m
 ·rw[iq hm]at h4 h5⊢;rw[vq,hR o l n b h1 h2 h3 h4 h5,zF]
 ·rw[ir hm]at h4 h5⊢;rw[FS,O1,List.length_singleton]at h5;simp only;rw[xb,xJ,zP];simp only[Pd,if_false];rw[xb,zP,zF];simp only;rw[ZE (by simp;lia),zF];simp only;rw[hR o l (n+1) _ h1 h2 (by lia) (by lia) (by simp;lia),zF];simp only;rw[ZE (by simp;lia),zF];simp only;rw[xJ,zP];simp
theorem Bn{m:List Nat}(hm:kn (nv m)=m):m=[]\/(0<m.length/\m.getD (m.length-1) 0≠0):=by
 rcases PB (nv m)with h|h
 ·rw[h,jz]at hm;exact .inl hm.symm
 ·have h1:=nD h;have h2:=kY h;rw[hm]at h1 h2;exact .inr ⟨h2,h1⟩
theorem iF{m:List Nat}(hm:kn (nv m)=m):m.length<=(UG m).length:=by
 obtain⟨h1,h2,_⟩:=fS m;have h3:=Zi _ h2;rwa[h1,hm]at h3
theorem gx{m:List Nat}(hm:kn (nv m)=m)(hl:m.length<=4096:=by lia):(if(m.length:Int)=0 then some true else
 zb ((m.length:Int)-1) fun x1=>zy x1 m.length fun j1=>if((m.getD j1 0:Nat):Int)=((0:Nat):Int)then some false else some true)=some true:=by
 rcases Bn hm with rfl|⟨h1,h2⟩
 ·rfl
 ·have e:(m.length:Int)-1=((m.length-1:Nat):Int):=by lia
  rw[xb,e,xJ,ye,xb]
theorem th{fu:Nat}:∀t:Tr,Gt t->(tx t).length<=4096->va fu t=some true
 |.nil,h,_=>h.elim
 |.mk op m c i l r,h,hx=>by
  rcases h with⟨rfl,rfl,rfl,rfl,rfl,hm⟩|⟨rfl,rfl,hc,rfl,rfl,rfl⟩|⟨rfl,rfl,rfl,rfl,hl,rfl⟩|⟨rfl,rfl,rfl,h0,h1,hl,rfl⟩|⟨rfl,hm,rfl,rfl,hl,rfl⟩|⟨rfl,rfl,rfl,rfl,hl,hr⟩|⟨rfl|rfl,rfl,rfl,rfl,hl,hr⟩
  ·have h1:=iF hm;have h2:(UG m).length<=4096:=hx;unfold va;simp only[Tr.opt,zF,wB,reduceIte];exact gx hm
  ·have hc:97<=c/\c<=122:=by simpa[je]using hc
   unfold va;simp only[Tr.opt,zF,wB,reduceIte,show((97:Nat):Int)<=(c:Int)by lia,show(c:Int)<=((122:Nat):Int)by lia];rw[ir (by decide),zF];simp only[reduceIte,Pd,zF];rfl
  ·cases l with
   |nil=>exact hl.elim
   |mk=>rfl
  ·cases l with
   |nil=>exact hl.elim
   |mk=>
    unfold va;simp only[Tr.opt,zF,wB,reduceIte,h0,h1];rw[ir (by decide),zF];simp only[Pd,reduceIte];rw[ir (by decide),zF,ir Pa,ir (by decide),zF,ir Pa,zF,zF];simp only[reduceIte,zF];rfl
  ·cases l with
   |nil=>exact hl.elim
   |mk a b c d e f=>
    have h1:=iF hm;have h2:(wr (qh (.mk a b c d e f)) 2 (tx (.mk a b c d e f))++47::UG m).length<=4096:=hx;rw[O1,FS]at h2;unfold va;simp only[Tr.opt,zF,wB,reduceIte];rw[ir (by decide),zF];simp only[Pd,reduceIte];rw[ir (by decide),zF,ir Pa,zF,zF];simp only[reduceIte,zF];exact gx hm
  all_goals
   cases l with
   |nil=>exact hl.elim
   |mk=>cases r with
    |nil=>exact hr.elim
    |mk=>rfl
theorem HK{o:List Nat}{n l l':Int}{b b':Tx}(h:l=l')(h2:b=b'):some ((o,(l,(n,false))),b)=some ((o,(l',(n,false))),b'):=by rw[h,h2]
theorem ud:∀(t:Tr) (fu:Nat),Gt t->3000000+nd t<=fu->Wk (zB fu) t
 |.nil,_,h,_=>h.elim
 |.mk op m c i tl tr,fu,h,hf=>by
  intro o l n b h1 h2 h3 h4 h5;have hn:nd (.mk op m c i tl tr)=nd tl+nd tr+1:=rfl;have hz:nd .nil=0:=rfl;obtain⟨fu,rfl⟩:∃j,fu=j+1:=⟨fu-1,by lia⟩;have hR:=th (fu:=fu) _ h (by lia);unfold zB;simp only;rw[xJ,zP];simp only[Pd,if_false];rw[xb,hR,zF,zP];simp only[SC,Pd,if_false];rw[zF];simp only[Tr.opt,zF];rcases h with⟨rfl,rfl,rfl,rfl,rfl,hm⟩|⟨rfl,rfl,hc,rfl,rfl,rfl⟩|⟨rfl,rfl,rfl,rfl,hl,rfl⟩|⟨rfl,rfl,rfl,q0,q1,hl,rfl⟩|⟨rfl,hm,rfl,rfl,hl,rfl⟩|⟨rfl,rfl,rfl,rfl,hl,hr⟩|⟨ha,rfl,rfl,rfl,hl,hr⟩
  ·rw[iq (by decide),zF,iq rfl,Ks (by lia) hm h5,zF];rfl
  ·have h5:b.length+[c].length<=4096:=h5;rw[ir (by decide),zF,ir Pa,iq (by decide),zF,iq rfl,ZE h5,zF];rfl
  ·have ih:=ud tl fu hl (by lia);have hx:tx (.mk 126 [] 0 0 tl .nil)=45::wr (qh tl) 2 (tx tl):=rfl;have hb:br (.mk 126 [] 0 0 tl .nil)=bw (qh tl) 2 (br tl):=rfl;rw[hx]at h5⊢;rw[hb]at h4;rw[FS]at h5;rw[ir (by decide),zF,ir Pa,ir (by decide),zF,ir Pa,iq (by decide),zF,iq rfl,ZE (by simp;lia),zF];simp only;rw[jd hl ih (m:=2) (k:=2) rfl (by lia) (by lia) h3 h4 (by simp;lia),zF];exact HK (by lia)<|by simp
  ·have ih:=ud tl fu hl (by lia);have hx:tx (.mk 94 [] 0 i tl .nil)=wr (qh tl) 0 (tx tl)++94::ZM i:=rfl;have hb:br (.mk 94 [] 0 i tl .nil)=bw (qh tl) 0 (br tl):=rfl;rw[hx]at h5⊢;rw[hb]at h4;rw[O1,FS]at h5;rw[ir (by decide),zF,ir Pa,ir (by decide),zF,ir Pa,ir (by decide),zF,ir Pa,iq (by decide),zF,iq rfl,jd hl ih (m:=0) (k:=0) rfl (by lia) (by lia) h3 h4,zF];simp only;rw[show kC fu i=Kh i from rfl,Kh,vE ⟨by lia,by lia⟩,zF,vE (by simp;lia),wB,ZE (by simp;lia),zF];exact HK (by lia)<|by simp
  ·have ih:=ud tl fu hl (by lia);have hx:tx (.mk 47 m 0 0 tl .nil)=wr (qh tl) 2 (tx tl)++47::UG m:=rfl;have hb:br (.mk 47 m 0 0 tl .nil)=bw (qh tl) 2 (br tl):=rfl;rw[hx]at h5⊢;rw[hb]at h4;rw[O1,FS]at h5;rw[ir (by decide),zF,ir Pa,ir (by decide),zF,ir Pa,ir (by decide),zF,ir Pa,ir (by decide),zF,ir Pa,iq (by decide),zF,iq rfl,jd hl ih (m:=2) (k:=2) rfl (by lia) (by lia) h3 h4,zF];simp only;rw[ZE (by simp;lia),zF];simp only;rw[Ks (by lia) hm (by simp;lia),zF];exact HK (by lia)<|by simp
  ·have ih:=ud tl fu hl (by lia);have ih2:=ud tr fu hr (by lia);have hx:tx (.mk 42 [] 0 0 tl tr)=wr (qh tl) 2 (tx tl)++42::wr (qh tr) 1 (tx tr):=rfl;have hb:br (.mk 42 [] 0 0 tl tr)=max (bw (qh tl) 2<|br tl) (bw (qh tr) 1<|br tr):=rfl;rw[hx]at h5⊢;rw[hb]at h4;rw[O1,FS]at h5;rw[ir (by decide),zF,ir Pa,ir (by decide),zF,ir Pa,ir (by decide),zF,ir Pa,ir (by decide),zF,ir Pa,ir (by decide),zF,ir Pa,iq (by decide),zF,iq rfl,jd hl ih (m:=2) (k:=2) rfl (by lia) (by lia) h3,zF];simp only;rw[ZE (by simp;lia),zF];simp only;rw[jd hr ih2 (m:=1) (k:=1) rfl (by lia) (by lia) h3 (by lia) (by simp;lia),zF];exact HK (by lia)<|by simp
  ·have ih:=ud tl fu hl (by lia);have ih2:=ud tr fu hr (by lia);have hx:tx (.mk op [] 0 0 tl tr)=wr (qh tl) 3 (tx tl)++op::wr (qh tr) 2 (tx tr):=by rcases ha with rfl|rfl<;>rfl
   have hb:br (.mk op [] 0 0 tl tr)=max (bw (qh tl) 3<|br tl) (bw (qh tr) 2<|br tr):=by rcases ha with rfl|rfl<;>rfl
   rw[hx]at h5⊢;rw[hb]at h4;rw[O1,FS]at h5
   rw[xb,zF,ir Pa,xb,zF,ir Pa,xb,zF,ir Pa,xb,zF,ir Pa,xb,zF,ir Pa,xb,zF,ir Pa,
    jd hl ih (m:=3) (k:=3) rfl (by lia) (by lia) h3,zF]
   simp only;rw[ZE (by simp;lia),zF];simp only;rw[jd hr ih2 (m:=2) (k:=2) rfl (by lia) (by lia) h3 (by lia) (by simp;lia),zF];exact HK (by lia)<|by simp
theorem A7{fu:Nat}{t:Tr}(hf:3005000<=fu)(h:Gt t)(hb:br t<=100)(hl:(tx t).length<=4096):vT fu t=some (tx t):=by
 have h1:=Wg t h;unfold vT
 rw[ir (by cases t with
  |nil=>exact h.elim
  |mk=>exact Pa),ud t fu h (by lia) [] 4096 0 [] (by lia) (by decide) (by decide) (by lia) (by simpa using hl),zF]
 simp
end
section
def yi:Bool->Tx->Tx
 |_,[]=>[32]
 |b,c::r=>if b=true/\yU c=true then c::yi true r else 32::c::yi (yU c) r
def dJ:Tx->Tx
 |[]=>[]
 |c::k=>c::yi (yU c) k
theorem Mj{c:Nat}(h:yU c=true):c≠32:=by have:=xI.1 h;lia
theorem aZ:∀(l:Tx) (b:Bool),skp (yi b l)=dJ (skp l)
 |[],b=>by cases b<;>rfl
 |c::r,b=>by
  unfold yi;by_cases h:b=true/\yU c=true
  ·have hc:=Mj h.2;rw[iq h,skp,ir hc,skp,ir hc,dJ,h.2]
  ·rw[ir h,skp,iq rfl,skp];by_cases hc:c=32
   ·subst hc;have e:skp (32::r)=skp r:=by rw[skp,iq rfl]
    rw[iq rfl,e];exact aZ r _
   ·rw[ir hc,skp,ir hc,dJ]
theorem sK{l:Tx}{c:Nat}{k:Tx}(h:skp l=c::k):c≠32:=by
 intro e;have:=VC l;rw[h,e,skp,iq rfl]at this;have h2:=(zS k).length_le;rw[this]at h2;simp at h2;lia
theorem AW(l:Tx):skp (dJ<|skp l)=dJ (skp l):=by
 cases h:skp l with
 |nil=>rfl
 |cons c k=>rw[dJ,skp,ir<|sK h]
def Wr(r r':Tx):Prop:=(∃b,r'=yi b r)\/(skp r=r/\r'=dJ r)
theorem Wr.skp{r r':Tx}(h:Wr r r'):skp r'=dJ (skp r):=by
 rcases h with⟨b,rfl⟩|⟨h1,rfl⟩
 ·exact aZ r b
 ·have:=AW r;rw[h1]at this;rw[this,h1]
theorem Wv{l:Tx}{c:Nat}{k:Tx}(h:Go.Proofs.YtbaoeefdjpaomaaGreatDoor.skp l=c::k):Wr (c::k) (c::yi (yU c) k):=.inr ⟨by rw[<-h];exact VC l,rfl⟩
def WR{α:Type}:Rd α->Rd α->Prop
 |.inl _,.inl _=>True
 |.inr (t,r),.inr (t',r')=>t=t'/\Wr r r'
 |_,_=>False
theorem lq:∀k:Tx,∃tw,k=tw++Xw k/\yi true k=tw++yi true (Xw k)
 |[]=>⟨[],rfl,rfl⟩
 |c::r=>by
  by_cases h:yU c=true
  ·obtain⟨tw,h1,h2⟩:=lq r;refine⟨c::tw,?_,?_⟩
   ·rw[Xw,iq h,PZ,<-h1]
   ·rw[yi,if_pos ⟨rfl,h⟩,Xw,iq h,PZ,<-h2]
  ·exact⟨[],by rw[Xw,ir h];rfl,by rw[Xw,ir h];rfl⟩
theorem gX:∀k:Tx,Xw (yi true k)=yi true (Xw k)
 |[]=>rfl
 |c::r=>by
  by_cases h:yU c=true
  ·rw[yi,if_pos ⟨rfl,h⟩,Xw,iq h,Xw,iq h];exact gX r
  ·have e:yi true (c::r)=32::c::yi (yU c) r:=by rw[yi,ir fun x=>h x.2]
   rw[show Xw (c::r)=c::r by rw[Xw,ir h],e,Xw,ir<|by decide]
theorem Qj{l l':Tx}(h:Wr l l'):(∃b b',qw l=.inl b/\qw l'=.inl b')\/∃d r,qw l=.inr (d,r)/\qw l'=.inr (d,yi true r):=by
 have hs:=h.skp;unfold qw;rw[hs]
 cases hk:skp l with
 |nil=>exact .inl ⟨_,_,rfl,rfl⟩
 |cons c k=>
  rw[dJ]
  have fin:∀(d r:Tx),d≠[]->c::k=d++r->c::yi (yU c) k=d++yi true r->ZH (c::k)=r->ZH (c::yi (yU c) k)=yi true r->
   (∃b b',(if(ZH (c::k)).length=(c::k).length then Sum.inl (c::k)else .inr ((c::k).take<|(c::k).length-(ZH (c::k)).length,ZH (c::k)):Rd Tx)=.inl b/\(if(ZH (c::yi (yU c) k)).length=(c::yi (yU c) k).length then Sum.inl (c::yi (yU c) k)else .inr ((c::yi (yU c) k).take<|(c::yi (yU c) k).length-(ZH (c::yi (yU c) k)).length,ZH (c::yi (yU c) k)):Rd Tx)=.inl b')\/
   ∃d r,(if(ZH (c::k)).length=(c::k).length then Sum.inl (c::k)else .inr ((c::k).take<|(c::k).length-(ZH (c::k)).length,ZH (c::k)):Rd Tx)=.inr (d,r)/\(if(ZH (c::yi (yU c) k)).length=(c::yi (yU c) k).length then Sum.inl (c::yi (yU c) k)else .inr ((c::yi (yU c) k).take<|(c::yi (yU c) k).length-(ZH (c::yi (yU c) k)).length,ZH (c::yi (yU c) k)):Rd Tx)=.inr (d,yi true r):=fun d r hd e1 e2 e3 e4=>by
   have hl:=List.length_pos_iff.2 hd;refine .inr ⟨d,r,?_,?_⟩
   ·rw[e3,e1,ir<|by simp;lia];simp
   ·rw[e4,e2,ir<|by simp;lia];simp
  by_cases ha:c=48
  ·exact fin [48] k (by simp) (by rw[ha];rfl) (by rw[ha];rfl) (by rw[ZH,iq ha])<|by rw[ZH,iq ha,ha];rfl
  ·by_cases hd:yU c=true
   ·obtain⟨tw,t1,t2⟩:=lq k;exact fin (c::tw) (Xw k) (by simp) (by rw[PZ,<-t1]) (by rw[hd,PZ,<-t2]) (by rw[ZH,ir ha,iq hd])<|by rw[hd,ZH,ir ha,iq hd,gX]
   ·have e1:ZH (c::k)=c::k:=by rw[ZH,ir ha,ir hd]
    have e2:ZH (c::yi (yU c) k)=c::yi (yU c) k:=by rw[ZH,ir ha,ir hd]
    rw[e1,e2,iq rfl,iq rfl];exact .inl ⟨_,_,rfl,rfl⟩
theorem oA{l l':Tx}(h:Wr l l'):WR (XL l) (XL l'):=by
 unfold XL;rcases Qj h with⟨b,b',e1,e2⟩|⟨d,r,e1,e2⟩
 ·rw[e1,e2];trivial
 ·rw[e1,e2];simp only;by_cases hd:dv d<=1000
  ·rw[iq hd,iq hd];exact⟨rfl,.inl ⟨_,rfl⟩⟩
  ·rw[ir hd,ir hd];trivial
section
variable{S:Tx->Rd Tr}{can:Bool}
theorem oD(hO:can=true->∀l l',Wr l l'->WR (S l) (S l')){l l':Tx}(h:Wr l l'):WR (Y0 S can l) (Y0 S can l'):=by
 unfold Y0;rw[h.skp]
 cases hk:skp l with
 |nil=>trivial
 |cons c k=>
  rw[dJ];simp only;by_cases hd:yU c=true
  ·rw[iq hd,iq hd];rcases Qj (Wv hk)with⟨b,b',e1,e2⟩|⟨d,r,e1,e2⟩
   ·rw[e1,e2];trivial
   ·rw[e1,e2];exact⟨rfl,.inl ⟨_,rfl⟩⟩
  ·rw[ir hd,ir hd];by_cases hl:je c=true
   ·rw[iq hl,iq hl];exact⟨rfl,.inl ⟨_,rfl⟩⟩
   ·rw[ir hl,ir hl];by_cases hc:c=40/\can=true
    ·rw[iq hc,iq hc];have h1:=hO hc.2 k (yi (yU c) k) (.inl ⟨_,rfl⟩)
     cases e1:S k with
     |inl b=>cases e2:S (yi (yU c) k)with
      |inl b'=>trivial
      |inr q=>rw[e1,e2]at h1;exact h1.elim
     |inr p=>cases e2:S (yi (yU c) k)with
      |inl b'=>rw[e1,e2]at h1;exact h1.elim
      |inr q=>
       obtain⟨t,r⟩:=p
       obtain⟨t',r'⟩:=q
       rw[e1,e2]at h1
       obtain⟨rfl,hw⟩:=h1
       simp only
       rw[hw.skp]
       cases hb:skp r with
       |nil=>trivial
       |cons c2 k2=>
        rw[dJ]
        simp only
        by_cases ha:c2=41
        ·rw[iq ha,iq ha];exact⟨rfl,.inl ⟨_,rfl⟩⟩
        ·rw[ir ha,ir ha];trivial
    ·rw[ir hc,ir hc];trivial
theorem WR.cases{α:Type}{z z':Rd α}(h:WR z z'):(∃b b',z=.inl b/\z'=.inl b')\/∃t r r',z=.inr (t,r)/\z'=.inr (t,r')/\Wr r r':=by
 match z,z',h with
 |.inl b,.inl b',_=>exact .inl ⟨b,b',rfl,rfl⟩
 |.inr (t,r),.inr (t',r'),h=>exact .inr ⟨t,r,r',rfl,by rw[h.1],h.2⟩
theorem aN(hO:can=true->∀l l',Wr l l'->WR (S l) (S l')){l l':Tx}(h:Wr l l'):WR (ZC S can l) (ZC S can l'):=by
 unfold ZC;rcases(oD hO h).cases with⟨b,b',e1,e2⟩|⟨t,r,r',e1,e2,hw⟩
 ·rw[e1,e2];trivial
 ·rw[e1,e2];simp only;rw[hw.skp]
  cases hk:skp r with
  |nil=>exact⟨rfl,.inr ⟨rfl,rfl⟩⟩
  |cons c k=>
   rw[dJ];simp only;by_cases hc:c=94
   ·rw[iq hc,iq hc];rcases(oA (l:=k) (l':=yi (yU c) k) (.inl ⟨_,rfl⟩)).cases with⟨b,b',e3,e4⟩|⟨n,r2,r3,e3,e4,ha⟩
    ·rw[e3,e4];trivial
    ·rw[e3,e4];exact⟨rfl,ha⟩
   ·rw[ir hc,ir hc];exact⟨rfl,Wv hk⟩
theorem Xj(hS:∀l,ZS l<|S l)(hO:can=true->∀l l',Wr l l'->WR (S l) (S l')):∀(m:Nat) (t:Tr) (l l':Tx) (m':Nat),l.length<m->l'.length<m'->Wr l l'->WR (qF S can m t l) (qF S can m' t l')
 |0,t,l,l',m',h,_,_=>absurd h<|TZ _
 |m+1,t,l,l',m',h,h',hw=>by
  obtain⟨m',rfl⟩:∃j,m'=j+1:=⟨m'-1,by lia⟩;have s1:=(zS l).length_le;have s2:=(zS l').length_le;unfold qF;rw[hw.skp]at s2⊢
  cases hk:skp l with
  |nil=>exact⟨rfl,.inr ⟨rfl,rfl⟩⟩
  |cons c k=>
   rw[hk]at s1 s2;rw[dJ]at s2⊢;rw[FS]at s1 s2;simp only;by_cases ha:c=42
   ·rw[iq ha,iq ha];have g1:=jB (can:=can) (fun _=>hS) k;have g2:=jB (can:=can) (fun _=>hS)<|yi (yU c) k;rcases(aN hO (l:=k) (l':=yi (yU c) k) (.inl ⟨_,rfl⟩)).cases with⟨b,b',e3,e4⟩|⟨u,r2,r3,e3,e4,hc⟩
    ·rw[e3,e4];trivial
    ·rw[e3]at g1;rw[e4]at g2;have:=g1.2;have:=g2.2;rw[e3,e4];exact Xj hS hO m _ r2 r3 m' (by lia) (by lia) hc
   ·rw[ir ha,ir ha];by_cases hb:c=47
    ·rw[iq hb,iq hb];have g1:=Yk k;have g2:=Yk<|yi (yU c) k;rcases Qj (l:=k) (l':=yi (yU c) k) (.inl ⟨_,rfl⟩)with⟨b,b',e3,e4⟩|⟨d,r2,e3,e4⟩
     ·rw[e3,e4];trivial
     ·rw[e3]at g1;rw[e4]at g2;have:=g1.2;have:=g2.2;rw[e3,e4];exact Xj hS hO m _ r2 _ m' (by lia) (by lia) (.inl ⟨_,rfl⟩)
    ·rw[ir hb,ir hb];exact⟨rfl,Wv hk⟩
theorem Jf(hS:∀l,ZS l<|S l)(hO:can=true->∀l l',Wr l l'->WR (S l) (S l')){l l':Tx}(h:Wr l l'):WR (wU S can l) (wU S can l'):=by
 unfold wU;rcases(aN hO h).cases with⟨b,b',e3,e4⟩|⟨u,r2,r3,e3,e4,ha⟩
 ·rw[e3,e4];trivial
 ·rw[e3,e4];exact Xj hS hO _ _ r2 r3 _ (Ru _) (Ru _) ha
theorem J2(hS:∀l,ZS l<|S l)(hO:can=true->∀l l',Wr l l'->WR (S l) (S l')):∀(m:Nat) (t:Tr) (l l':Tx) (m':Nat),l.length<m->l'.length<m'->Wr l l'->WR (qW S can m t l) (qW S can m' t l')
 |0,t,l,l',m',h,_,_=>absurd h<|TZ _
 |m+1,t,l,l',m',h,h',hw=>by
  obtain⟨m',rfl⟩:∃j,m'=j+1:=⟨m'-1,by lia⟩;have s1:=(zS l).length_le;have s2:=(zS l').length_le;unfold qW;rw[hw.skp]at s2⊢
  cases hk:skp l with
  |nil=>exact⟨rfl,.inr ⟨rfl,rfl⟩⟩
  |cons c k=>
   rw[hk]at s1 s2;rw[dJ]at s2⊢;rw[FS]at s1 s2;simp only;by_cases hc:c=43\/c=45
   ·rw[iq hc,iq hc];have g1:=vR (can:=can) (fun _=>hS) k;have g2:=vR (can:=can) (fun _=>hS)<|yi (yU c) k;rcases(Jf hS hO (l:=k) (l':=yi (yU c) k) (.inl ⟨_,rfl⟩)).cases with⟨b,b',e3,e4⟩|⟨u,r2,r3,e3,e4,ha⟩
    ·rw[e3,e4];trivial
    ·rw[e3]at g1;rw[e4]at g2;have:=g1.2;have:=g2.2;rw[e3,e4];exact J2 hS hO m _ r2 r3 m' (by lia) (by lia) ha
   ·rw[ir hc,ir hc];exact⟨rfl,Wv hk⟩
theorem J8(hS:∀l,ZS l<|S l)(hO:can=true->∀l l',Wr l l'->WR (S l) (S l')){l l':Tx}(h:Wr l l'):WR (Xg S can l) (Xg S can l'):=by
 have go:∀(f:Tr->Tr) {a a':Tx},Wr a a'->WR (match wU S can a with
  |.inl b=> .inl b
  |.inr (t,r)=>qW S can (r.length+1) (f t) r) (match wU S can a' with
  |.inl b=> .inl b
  |.inr (t,r)=>qW S can (r.length+1) (f t) r):=fun f a a' hw=>by
  rcases(Jf hS hO hw).cases with⟨b,b',e3,e4⟩|⟨u,r2,r3,e3,e4,ha⟩
  ·rw[e3,e4];trivial
  ·rw[e3,e4];exact J2 hS hO _ _ r2 r3 _ (Ru _) (Ru _) ha
 unfold Xg;rw[h.skp]
 cases hk:skp l with
 |nil=>exact go id (show Wr [] []from .inr ⟨rfl,rfl⟩)
 |cons c k=>
  rw[dJ];simp only;by_cases hc:c=45
  ·rw[iq hc,iq hc];exact go (fun t=> .mk 126 [] 0 0 t .nil) (.inl ⟨_,rfl⟩)
  ·rw[ir hc,ir hc];exact go id<|Wv hk
end
theorem Ky:∀(k:Nat) (l l':Tx),Wr l l'->WR (JC k l) (JC k l')
 |0,l,l',h=>J8 (S:=fun _=> .inl []) (can:=false) (fun l=>(Tu:[]<:+l)) (fun h=>by cases h) h
 |k+1,l,l',h=>J8 (YQ k) (fun _=>Ky k) h
theorem Qe:∀(l:Tx) (b:Bool),(yi b l).length<=2*l.length+1
 |[],_=>O3 _
 |c::r,b=>by
  unfold yi;split
  ·have:=Qe r true;rw[FS,FS];lia
  ·have:=Qe r<|yU c;rw[FS,FS,FS];lia
theorem fM{s:Tx}(hs:s.length<=300)(a:Int):(qx s a).1=(qx (yi false s) a).1/\(qx s a).2.2=(qx (yi false s) a).2.2:=by
 have hw:=Qe s false;unfold qx;by_cases h1:a<0
 ·rw[iq h1,iq h1];exact⟨rfl,rfl⟩
 ·rw[ir h1,ir h1];by_cases h2:100<a
  ·rw[iq h2,iq h2];exact⟨rfl,rfl⟩
  ·rw[ir h2,ir h2,xb,xb];rcases(Ky a.toNat s (yi false s) (.inl ⟨_,rfl⟩)).cases with⟨b,b',e3,e4⟩|⟨u,r2,r3,e3,e4,ha⟩
   ·rw[e3,e4];exact⟨rfl,rfl⟩
   ·rw[e3,e4];simp only;rw[ha.skp]
    cases hk:skp r2 with
    |nil=>exact⟨rfl,rfl⟩
    |cons c k=>rw[dJ];exact⟨rfl,rfl⟩
end
section
def Lq(A:Nat->Prop):Rd Tr->Prop
 |.inl _=>True
 |.inr (u,r)=>∀c,je c=true->(A c↔c∈xT u\/c∈r)
theorem rn{c:Nat}(h:je c=true):97<=c/\c<=122:=by simpa[je]using h
theorem vB{c:Nat}(h:je c=true):∀l:Tx,c∈skp l↔c∈l
 |[]=>Iff.rfl
 |d::r=>by
  have hc:=rn h;rw[skp];by_cases hd:d=32
  ·rw[iq hd,vB h r,OY];exact⟨.inr,fun h=>by rcases h with h|h;lia;exact h⟩
  ·rw[ir hd]
theorem mm{l d r:Tx}(h:qw l=.inr (d,r)):skp l=d++r:=by
 unfold qw at h;have h1:=YD<|skp l;split at h
 ·cases h
 ·injection h with h;injection h with h2 h3;have h4:∀(K N:Tx),N<:+K->K=K.take (K.length-N.length)++N:=fun K N ⟨x,hx⟩=>by subst hx;simp
  rw[<-h2,<-h3];exact h4 _ _ h1
theorem Uo{l d r:Tx}(h:qw l=.inr (d,r)){c:Nat}(hc:je c=true):c∈l↔c∈r:=by
 have h1:=mm h;obtain⟨g1,_⟩:=YR h;rw[<-vB hc l,h1,OX];refine⟨fun h=> ?_,.inr⟩;rcases h with h|h
 ·have:=xI.1<|g1 c h;have:=rn hc;lia
 ·exact h
theorem Bf{l r:Tx}{n:Int}(h:XL l=.inr (n,r)){c:Nat}(hc:je c=true):c∈l↔c∈r:=by
 unfold XL at h;split at h
 ·cases h
 ·next d r' e=>
  split at h
  ·injection h with h;injection h with h4 h5;subst h5;exact Uo e hc
  ·cases h
theorem kF{l:Tx}{d:Nat}{r:Tx}(h:skp l=d::r)(hd:je d=false){c:Nat}(hc:je c=true):c∈l↔c∈r:=by
 rw[<-vB hc l,h,OY];exact⟨fun x=>by rcases x with rfl|x;rw[hc]at hd;cases hd;exact x,.inr⟩
section
variable{S:Tx->Rd Tr}{can:Bool}
theorem Bj(hO:can=true->∀l:Tx,Lq (fun c=>c∈l)<|S l)(l:Tx):Lq (fun c=>c∈l) (Y0 S can l):=by
 unfold Y0
 cases hk:skp l with
 |nil=>trivial
 |cons d k=>
  simp only;by_cases hd:yU d=true
  ·rw[iq hd]
   cases e:qw (d::k)with
   |inl b=>trivial
   |inr p=>
    obtain⟨ds,r⟩:=p;intro c hc;show c∈l↔c∈[]\/c∈r;rw[<-vB hc l,hk,Uo e hc];simp
  ·rw[ir hd];by_cases hl:je d=true
   ·rw[iq hl];intro c hc;show c∈l↔c∈[d]++([]++[])\/c∈k;rw[<-vB hc l,hk];simp
   ·rw[ir hl];have hl:je d=false:=by simpa using hl
    by_cases ha:d=40/\can=true
    ·rw[iq ha];have h1:=hO ha.2 k
     cases e1:S k with
     |inl b=>trivial
     |inr p=>
      obtain⟨t,r⟩:=p;rw[e1]at h1;simp only
      cases he:skp r with
      |nil=>trivial
      |cons c2 k2=>
       simp only;by_cases hb:c2=41
       ·rw[iq hb];intro c hc;have a1:=kF hk hl hc;have a2:=h1 c hc;have a3:=kF he (by rw[hb];rfl) hc;grind
       ·rw[ir hb];trivial
    ·rw[ir ha];trivial
theorem ld(hO:can=true->∀l:Tx,Lq (fun c=>c∈l)<|S l)(l:Tx):Lq (fun c=>c∈l) (ZC S can l):=by
 have h0:=Bj hO l;unfold ZC
 cases e:Y0 S can l with
 |inl b=>trivial
 |inr p=>
  obtain⟨t,r⟩:=p;rw[e]at h0;simp only
  cases hk:skp r with
  |nil=>intro c hc;have a1:=h0 c hc;have a2:=vB hc r;grind
  |cons d k=>
   simp only;by_cases ha:d=94
   ·rw[iq ha]
    cases e2:XL k with
    |inl b=>trivial
    |inr q=>
     obtain⟨n,r2⟩:=q;intro c hc;have a1:=h0 c hc;have a2:=kF hk (by rw[ha];rfl) hc;have a3:=Bf e2 hc;grind [xT]
   ·rw[ir ha];intro c hc;have a1:=h0 c hc;have a2:=vB hc r;grind
theorem W6(hO:can=true->∀l:Tx,Lq (fun c=>c∈l)<|S l):∀(n:Nat) (t:Tr) (l:Tx),Lq (fun c=>c∈xT t\/c∈l) (qF S can n t l)
 |0,t,l=>fun _ _=>Iff.rfl
 |n+1,t,l=>by
  unfold qF
  cases hk:skp l with
  |nil=>intro c hc;have a2:=vB hc l;grind
  |cons d k=>
   simp only;by_cases ha:d=42
   ·rw[iq ha];have h1:=ld hO k
    cases e:ZC S can k with
    |inl b=>trivial
    |inr p=>
     obtain⟨u,r⟩:=p;rw[e]at h1;have h2:=W6 hO n (.mk 42 [] 0 0 t u) r;simp only;generalize qF S can n (.mk 42 [] 0 0 t u) r=z at h2
     match z,h2 with
     |.inl _,_=>trivial
     |.inr (v,r3),h2=>
      intro c hc;have a1:=h2 c hc;have a2:=kF hk (by rw[ha];rfl) hc;have a3:=h1 c hc;grind [xT]
   ·rw[ir ha];by_cases hb:d=47
    ·rw[iq hb]
     cases e:qw k with
     |inl b=>trivial
     |inr p=>
      obtain⟨ds,r⟩:=p;have h2:=W6 hO n (.mk 47 (kn<|dv ds) 0 0 t .nil) r;simp only;generalize qF S can n (.mk 47 (kn<|dv ds) 0 0 t .nil) r=z at h2
      match z,h2 with
      |.inl _,_=>trivial
      |.inr (v,r3),h2=>
       intro c hc;have a1:=h2 c hc;have a2:=kF hk (by rw[hb];rfl) hc;have a3:=Uo e hc;grind [xT]
    ·rw[ir hb];intro c hc;have a2:=vB hc l;grind
theorem Kx(hO:can=true->∀l:Tx,Lq (fun c=>c∈l)<|S l)(l:Tx):Lq (fun c=>c∈l) (wU S can l):=by
 have h1:=ld hO l;unfold wU
 cases e:ZC S can l with
 |inl b=>trivial
 |inr p=>
  obtain⟨u,r⟩:=p;rw[e]at h1;have h2:=W6 hO (r.length+1) u r;simp only;generalize qF S can (r.length+1) u r=z at h2
  match z,h2 with
  |.inl _,_=>trivial
  |.inr (v,r3),h2=>intro c hc;have a1:=h1 c hc;have a2:=h2 c hc;grind
theorem aI(hO:can=true->∀l:Tx,Lq (fun c=>c∈l)<|S l):∀(n:Nat) (t:Tr) (l:Tx),Lq (fun c=>c∈xT t\/c∈l) (qW S can n t l)
 |0,t,l=>fun _ _=>Iff.rfl
 |n+1,t,l=>by
  unfold qW
  cases hk:skp l with
  |nil=>intro c hc;have a2:=vB hc l;grind
  |cons d k=>
   simp only;by_cases hd:d=43\/d=45
   ·rw[iq hd];have h1:=Kx hO k
    cases e:wU S can k with
    |inl b=>trivial
    |inr p=>
     obtain⟨u,r⟩:=p;rw[e]at h1;have h2:=aI hO n (.mk d [] 0 0 t u) r;simp only;generalize qW S can n (.mk d [] 0 0 t u) r=z at h2
     match z,h2 with
     |.inl _,_=>trivial
     |.inr (v,r3),h2=>
      intro c hc;have hl:je d=false:=by rcases hd with rfl|rfl<;>rfl
      have hn:xT (.mk d [] 0 0 t u)=xT t++xT u:=by rcases hd with rfl|rfl<;>rfl
      have a1:=h2 c hc;have a2:=kF hk hl hc;have a3:=h1 c hc;grind
   ·rw[ir hd];intro c hc;have a2:=vB hc l;grind
theorem aL(hO:can=true->∀l:Tx,Lq (fun c=>c∈l)<|S l)(l:Tx):Lq (fun c=>c∈l) (Xg S can l):=by
 have go:∀(f:Tr->Tr) (a:Tx),(∀t,xT (f t)=xT t)->(∀c,je c=true->(c∈l↔c∈a))->Lq (fun c=>c∈l) (match wU S can a with
  |.inl b=> .inl b
  |.inr (t,r)=>qW S can (r.length+1) (f t) r):=fun f a hf ha=>by
  have h1:=Kx hO a
  cases e:wU S can a with
  |inl b=>trivial
  |inr p=>
   obtain⟨u,r⟩:=p;rw[e]at h1;have h2:=aI hO (r.length+1) (f u) r;simp only;generalize qW S can (r.length+1) (f u) r=z at h2
   match z,h2 with
   |.inl _,_=>trivial
   |.inr (v,r3),h2=>intro c hc;have a1:=ha c hc;have a2:=h1 c hc;have a3:=h2 c hc;have a4:=hf u;grind
 unfold Xg
 cases hk:skp l with
 |nil=>exact go id [] (fun _=>rfl) fun c hc=>by rw[<-vB hc l,hk]
 |cons d k=>
  simp only;by_cases hd:d=45
  ·rw[iq hd];exact go (fun t=> .mk 126 [] 0 0 t .nil) k (fun t=>by show[]++(xT t++[])=_;simp) fun c hc=>kF hk (by rw[hd];rfl) hc
  ·rw[ir hd];exact go id (d::k) (fun _=>rfl) fun c hc=>by rw[<-vB hc l,hk]
end
theorem cD:∀(k:Nat) (l:Tx),Lq (fun c=>c∈l) (JC k l)
 |0,l=>aL (S:=fun _=> .inl []) (can:=false) (fun h=>by cases h) l
 |k+1,l=>aL (fun _=>cD k) l
theorem mn{s:Tx}{a:Int}{t:Tr}{x:Int}(h:qx s a=(t,x,0)){c:Nat}(hc:je c=true):c∈s↔c∈xT t:=by
 unfold qx at h;split at h
 ·cases h
 ·split at h
  ·cases h
  ·split at h
   ·cases h
   ·have h1:=cD a.toNat s;split at h
    ·cases h
    ·next u r e=>
     rw[e]at h1;split at h
     ·next hk=>
      cases h;have a1:=h1 c hc;have a2:=vB hc r;grind
     ·cases h
end
section
open Go.Sort
def lN(x y:Nat):Bool:=decide<|x<y
theorem Xn:SWO lN:=⟨fun x=>by simp[lN],fun x y z h1 h2=>by simp[lN]at*;lia,fun x y z h1 h2=>by simp[lN]at*;lia⟩
def sw(t:List Nat)(i j:Nat):List Nat:=(t.set i<|t.getD j 0).set j<|t.getD i 0
theorem wy(t:List Nat)(i:Nat):t.toArray[i]! =t.getD i 0:=by
 rw[PY,getElem!_def];simp only[SS];cases t[i]? <;>rfl
theorem yO(t:List Nat)(i j:Nat):(sw t i j).length=t.length:=by simp[sw]
theorem jg(t:List Nat)(i j:Nat):(sw t i j).toArray=swp t.toArray i j:=by
 unfold sw swp;rw[wy,wy];simp
theorem zk{α:Type}{i:Int}{k:Int->Option α}(x:Int)(h:i=x)(h2:kV x):zb i k=k x:=by subst h;exact wm h2
theorem Cq(fu x y:Nat):zp fu x y=some (lN x y):=by
 unfold zp vW lN;rw[iq rfl,zq rfl,ir<|by decide];by_cases h:x<y
 ·rw[vq,decide_eq_true h]
 ·rw[xb,decide_eq_false h]
theorem qb{α:Type}{fu x y:Nat}{k:Bool->Option α}:bd (zp fu x y) k=k (lN x y):=zq<|Cq ..
abbrev Sm(t t':List Nat)(d:Array Nat):Prop:=t'.length=t.length/\t'.toArray=d
variable{fu:Nat}
theorem tE(a b:Nat):∀(j k:Nat) (t:List Nat),j<t.length->t.length<100->j<k->
 ∃t',zn (yh fu) k ((a:Int),(b:Int),(j:Int),t)=some ((a:Int),(b:Int),t')/\Sm t t' (insInner lN a j t.toArray)
 |0,k+1,t,hj,hl,hk=>⟨t,by rw[yf,yh];exact xb,rfl,rfl⟩
 |j+1,k+1,t,hj,hl,hk=>by
  have e1:((j+1:Nat):Int)-1=(j:Int):=by lia
  rw[yf,yh];simp only[e1];rw[insInner,wy,wy];by_cases h:a<j+1
  ·rw[vq,xd hj,zP,zk j rfl (by constructor<;>lia),ye,zP,qb];cases hc:lN (t.getD (j+1) 0) (t.getD j 0)
   ·rw[ir (by decide),ir<|by simp];exact⟨t,rfl,rfl,rfl⟩
   ·rw[iq rfl,iq (by simp[h]),zk j rfl (by constructor<;>lia),zk j rfl (by constructor<;>lia),ye,zP,xd hj,zP,xd hj,zP,xd (by simp;lia),zP,zk j rfl<|by constructor<;>lia];obtain⟨t',h1,h2,h3⟩:=tE a b j k (sw t (j+1) j) (by rw[yO];lia) (by rw[yO];lia) (by lia);exact⟨t',h1,by rw[h2,yO],by rw[h3,jg]⟩
  ·rw[xb,ir<|by simp;lia];exact⟨t,rfl,rfl,rfl⟩
theorem iQ(a b:Nat):∀(n i k:Nat) (t:List Nat),b-i<=n->b<=t.length->t.length<100->n<k->100<=fu->
 ∃t',zn (yF fu (a:Int) (b:Int)) k ((i:Int),t)=some t'/\Sm t t' (insOuter lN a b i t.toArray)
 |n,i,k+1,t,hn,hb,hl,hk,hf=>by
  rw[yf,yF,insOuter];simp only;by_cases h:i<b
  ·obtain⟨t',h1,h2,h3⟩:=tE (fu:=fu) a b i fu t (by lia) hl (by lia);rw[vq,iq h,zq h1];simp only;rw[zk ((i+1:Nat):Int) (by lia)<|by constructor<;>lia]
   match n,hn with
   |n+1,hn=>
    obtain⟨t'',g1,g2,g3⟩:=iQ a b n (i+1) k t' (by lia) (by lia) (by lia) (by lia) hf;exact⟨t'',g1,by rw[g2,h2],by rw[g3,h3]⟩
   |0,hn=>lia
  ·rw[xb,ir h];exact⟨t,rfl,rfl,rfl⟩
theorem FA(a b:Nat)(t:List Nat)(hb:b<=t.length)(hl:t.length<100)(hf:200<=fu)(ha:a<=b):∃t',zT fu t (a:Int) (b:Int)=some t'/\Sm t t' (insertionSort lN t.toArray a b):=by
 obtain⟨t',h1,h2⟩:=iQ (fu:=fu) a b b (a+1) fu t (by lia) hb hl (by lia) (by lia);refine⟨t',?_,h2⟩;rw[zT,zk ((a+1:Nat):Int) (by lia) (by constructor<;>lia),zq h1]
theorem iX(hi first:Nat):∀(n root k:Nat) (t:List Nat),hi-root<=n->first+hi<=t.length->t.length<100->n<k->root<200->
 ∃t',(zn (z8 fu (hi:Int) (first:Int)) k ((root:Int),t)=some (.inl t')\/zn (z8 fu (hi:Int) (first:Int)) k ((root:Int),t)=some (.inr t'))/\Sm t t' (siftDown lN hi first root t.toArray)
 |n,root,k+1,t,hn,hb,hl,hk,hr=>by
  rw[yf,z8,siftDown];simp only;rw[zk ((2*root:Nat):Int) (by lia) (by constructor<;>lia),zk ((2*root+1:Nat):Int) (by lia)<|by constructor<;>lia];by_cases h:2*root+1≥hi
  ·rw[vq,dif_pos h];exact⟨t,.inl rfl,rfl,rfl⟩
  ·rw[xb,dif_neg h]
   match n,hn with
   |0,hn=>lia
   |n+1,hn=>
   have key:∀c:Nat,root<c->c<hi->∃t',(∀(X:Option (List Nat⊕List Nat)),X=(zb ((first:Int)+(root:Int)) fun x8=>zy x8 t.length fun j3=>nm (t.getD j3 0) fun m3=>zb ((first:Int)+(c:Int)) fun x9=>zy x9 t.length fun j4=>nm (t.getD j4 0) fun m4=>bd (zp fu m3 m4) fun c2=>if(!c2)=true then some (.inr t)else
    zb ((first:Int)+(root:Int)) fun x10=>zb ((first:Int)+(c:Int)) fun x11=>zb ((first:Int)+(c:Int)) fun x12=>zy x12 t.length fun j5=>nm (t.getD j5 0) fun m5=>zb ((first:Int)+(root:Int)) fun x13=>zy x13 t.length fun j6=>nm (t.getD j6 0) fun m6=>zy x10 t.length fun j7=>nm (t.set j7 m5) fun t2=>zy x11 t2.length fun j8=>nm (t2.set j8 m6) fun t3=>zn (z8 fu (hi:Int) (first:Int)) k ((c:Int),t3))->X=some (.inl t')\/X=some (.inr t'))/\
    Sm t t' (if(!lN (t.getD (first+root) 0) (t.getD (first+c) 0))=true then t.toArray else siftDown lN hi first c (swp t.toArray (first+root)<|first+c)):=by
    intro c ha hd;have e1:(first:Int)+(root:Int)=((first+root:Nat):Int):=by lia
    have e2:(first:Int)+(c:Int)=((first+c:Nat):Int):=by lia
    simp only[e1,e2];cases hc:lN (t.getD (first+root) 0) (t.getD (first+c) 0)
    ·refine⟨t,fun X hX=> .inr ?_,rfl,by rw[iq<|by decide]⟩;rw[hX,zk _ rfl (by constructor<;>lia),ye,zP,zk _ rfl (by constructor<;>lia),ye,zP,qb,hc,iq<|by decide]
    ·obtain⟨t',h1,h2,h3⟩:=iX hi first n c k (sw t (first+root)<|first+c) (by lia) (by rw[yO];lia) (by rw[yO];lia) (by lia) (by lia)
     refine⟨t',fun X hX=> ?_,by rw[h2,yO],by rw[h3,jg,ir<|by decide]⟩;rw[hX,zk _ rfl (by constructor<;>lia),ye,zP,zk _ rfl (by constructor<;>lia),ye,zP,qb,hc,ir (by decide),zk _ rfl (by constructor<;>lia),zk _ rfl (by constructor<;>lia),zk _ rfl (by constructor<;>lia),ye,zP,zk _ rfl (by constructor<;>lia),ye,zP,ye,zP,xd (by simp;lia),zP];exact h1
   rw[zk ((2*root+2:Nat):Int) (by lia)<|by constructor<;>lia];simp only[wy];by_cases h2:2*root+2<hi
   ·rw[vq,zk ((first+(2*root+1):Nat):Int) (by lia) (by constructor<;>lia),ye,zP,zk ((first+(2*root+1):Nat):Int) (by lia) (by constructor<;>lia),zk ((first+(2*root+1)+1:Nat):Int) (by lia) (by constructor<;>lia),ye,zP,qb];cases hc:lN (t.getD (first+(2*root+1)) 0) (t.getD (first+(2*root+1)+1) 0)
    ·rw[ir (by decide),ir<|by simp];obtain⟨t',h3,h4⟩:=key (2*root+1) (by lia) (by lia);exact⟨t',h3 _ rfl,h4⟩
    ·rw[iq rfl,iq (by simp;lia),zk ((2*root+2:Nat):Int) (by lia)<|by constructor<;>lia];obtain⟨t',h3,h4⟩:=key (2*root+2) (by lia) h2;refine⟨t',h3 _ rfl,?_⟩;rw[dif_pos h2];exact h4
   ·rw[xb,ir<|by simp;lia];obtain⟨t',h3,h4⟩:=key (2*root+1) (by lia) (by lia);exact⟨t',h3 _ rfl,h4⟩
theorem ln(hi first root:Nat)(t:List Nat)(hb:first+hi<=t.length)(hl:t.length<100)(hf:200<=fu)(hr:root<200):
 ∃t',yn fu t (root:Int) (hi:Int) (first:Int)=some t'/\Sm t t' (siftDown lN hi first root t.toArray):=by
 obtain⟨t',h1,h2⟩:=iX (fu:=fu) hi first hi root fu t (by lia) hb hl (by lia) hr
 refine⟨t',?_,h2⟩;rw[yn];rcases h1 with h1|h1<;>rw[zq h1]
theorem nW(hi first:Nat)(hf:200<=fu):∀(j k:Nat) (t:List Nat),first+hi<=t.length->t.length<100->j<k->j<100->
 ∃t',zn (yw fu (first:Int) (hi:Int)) k ((j:Int)-1,t)=some t'/\Sm t t' (heapBuild lN hi first j t.toArray)
 |0,k+1,t,hb,hl,hk,hj=>⟨t,by rw[yf,yw];exact xb,rfl,rfl⟩
 |j+1,k+1,t,hb,hl,hk,hj=>by
  obtain⟨t',h1,h2,h3⟩:=ln (fu:=fu) hi first j t hb hl hf (by lia)
  obtain⟨t'',g1,g2,g3⟩:=nW hi first hf j k t' (by lia) (by lia) (by lia) (by lia)
  refine⟨t'',?_,by rw[g2,h2],by rw[g3,h3,heapBuild]⟩;have e:((j+1:Nat):Int)-1=(j:Int):=by lia
  rw[yf,yw];simp only[e];rw[vq,zq h1,wm<|by constructor<;>lia];exact g1
theorem pQ(first:Nat)(hf:200<=fu):∀(j k:Nat) (t:List Nat),first+j<=t.length->t.length<100->j<k->
 ∃t',zn (yv fu (first:Int)) k ((j:Int)-1,t)=some t'/\Sm t t' (heapPop lN first j t.toArray)
 |0,k+1,t,hb,hl,hk=>⟨t,by rw[yf,yv];exact xb,rfl,rfl⟩
 |j+1,k+1,t,hb,hl,hk=>by
  obtain⟨t',h1,h2,h3⟩:=ln (fu:=fu) j first 0 (sw t first (first+j)) (by rw[yO];lia) (by rw[yO];lia) hf (by lia)
  rw[yO]at h2;obtain⟨t'',g1,g2,g3⟩:=pQ first hf j k t' (by lia) (by lia) (by lia)
  refine⟨t'',?_,by rw[g2,h2],by rw[g3,h3,heapPop,jg]⟩;have e:((j+1:Nat):Int)-1=(j:Int):=by lia
  have e1:(first:Int)+(j:Int)=((first+j:Nat):Int):=by lia
  rw[yf,yv];simp only[e,e1];rw[vq,wm (by constructor<;>lia),wm (by constructor<;>lia),ye,zP,ye,zP,ye,zP,xd (by simp;lia),zP];refine(zq h1).trans ?_;rw[wm<|by constructor<;>lia];exact g1
theorem BC(a b:Nat)(t:List Nat)(hb:b<=t.length)(hl:t.length<100)(hf:200<=fu)(ha:a<b):∃t',yj fu t (a:Int) (b:Int)=some t'/\Sm t t' (heapSort lN t.toArray a b):=by
 obtain⟨t',h1,h2,h3⟩:=nW (fu:=fu) (b-a) a hf ((b-a-1)/2+1) fu t (by lia) hl (by lia) (by lia);obtain⟨t'',g1,g2,g3⟩:=pQ (fu:=fu) a hf (b-a) fu t' (by lia) (by lia) (by lia);refine⟨t'',?_,by rw[g2,h2],by rw[g3,h3,heapSort]⟩;have e:((((b-a-1)/2+1:Nat):Int)-1)=(((b-a-1)/2:Nat):Int):=by lia
 rw[e]at h1;rw[yj,zk ((b-a:Nat):Int) (by lia) (by constructor<;>lia),zk ((b-a-1:Nat):Int) (by lia) (by constructor<;>lia),vE (by decide),zk (((b-a-1)/2:Nat):Int) (by rw[RV<|by lia];lia) (by constructor<;>lia),zq h1,wm (by constructor<;>lia),zq g1]
theorem ry:∀(n i j k:Nat) (t:List Nat),j-i<=n->j<t.length->t.length<100->n<k->
 ∃t',zn (yH fu) k ((i:Int),(j:Int),t)=some t'/\Sm t t' (reverseLoop i j t.toArray)
 |n,i,j,k+1,t,hn,hb,hl,hk=>by
  rw[yf,yH,reverseLoop];by_cases h:i<j
  ·obtain⟨t',h1,h2,h3⟩:=ry (n-1) (i+1) (j-1) k (sw t i j) (by lia) (by rw[yO];lia) (by rw[yO];lia) (by lia);rw[vq,iq h,ye,zP,ye,zP,ye,zP,xd (by simp;lia),zP,zk ((i+1:Nat):Int) (by lia) (by constructor<;>lia),zk ((j-1:Nat):Int) (by lia)<|by constructor<;>lia];exact⟨t',h1,by rw[h2,yO],by rw[h3,jg]⟩
  ·rw[xb,ir h];exact⟨t,rfl,rfl,rfl⟩
theorem Gp(a b:Nat)(t:List Nat)(hb:b<=t.length)(hl:t.length<100)(hf:200<=fu)(ha:a<b):∃t',zE fu t (a:Int) (b:Int)=some t'/\Sm t t' (reverseRange t.toArray a b):=by
 obtain⟨t',h1,h2⟩:=ry (fu:=fu) b a (b-1) fu t (by lia) (by lia) hl (by lia);refine⟨t',?_,h2⟩;rw[zE,zk ((b-1:Nat):Int) (by lia) (by constructor<;>lia),zq h1]
theorem DH(a b:Nat)(t:List Nat)(hb:b<=t.length)(hl:t.length<100):∀(n i k:Nat),b-i<=n->0<i->n<k->
 zn (yo fu t) k ((a:Int),(b:Int),(i:Int))=some ((a:Int),(b:Int),((scanSorted lN t.toArray b i:Nat):Int))
 |n,i,k+1,hn,hi,hk=>by
  rw[yf,yo,scanSorted];simp only[wy];by_cases h:i<b
  ·rw[vq,ye,zP,zk ((i-1:Nat):Int) (by lia) (by constructor<;>lia),ye,zP,qb];cases hc:lN (t.getD i 0) (t.getD (i-1) 0)
   ·rw[iq (by decide),iq (by simpa using h),zk ((i+1:Nat):Int) (by lia)<|by constructor<;>lia];exact DH a b t hb hl (n-1) (i+1) k (by lia) (by lia)<|by lia
   ·rw[ir (by decide),ir<|by simp]
  ·rw[xb,ir<|by simp;lia]
theorem Ey(a b:Nat)(t:List Nat)(hb:b<=t.length)(hl:t.length<50)(hf:200<=fu)(ha:a<b):
 zi fu t (a:Int) (b:Int)=some ((partialInsertionSort lN t.toArray a b).2,t)/\(partialInsertionSort lN t.toArray a b).1=t.toArray:=by
 have h1:=DH (fu:=fu) a b t hb (by lia) b (a+1) fu (by lia) (by lia) (by lia);have e:partialInsertionSort lN t.toArray a b=(t.toArray,decide<|scanSorted lN t.toArray b (a+1)=b):=by
  unfold partialInsertionSort partialIns;simp only;by_cases h:scanSorted lN t.toArray b (a+1)=b
  ·rw[iq h,decide_eq_true h]
  ·rw[ir h,vq,decide_eq_false h]
 rw[e];refine⟨?_,rfl⟩;obtain⟨k,rfl⟩:∃k,fu=k+1:=⟨fu-1,by lia⟩;rw[zi,zk ((a+1:Nat):Int) (by lia) (by constructor<;>lia),yf,yT];simp only;rw[vq,zq h1];simp only;by_cases h:scanSorted lN t.toArray b (a+1)=b
 ·rw[vq,zq rfl,decide_eq_true h]
 ·rw[xb,wm (by constructor<;>lia),vq,zq rfl,decide_eq_false h]
end
section
open Go.Sort
variable{fu:Nat}
theorem VD{β:Type}{F:(β->Option β)->β->Option β}(mk:Nat->β)(p:Nat->Bool)(t:List Nat)(j:Nat)
 (hF:∀(L:β->Option β) (i:Nat),F L (mk i)=if i<=j/\p (t.getD i 0)=true then L (mk<|i+1)else some (mk i)):
 ∀(n i k:Nat),j+1-i<=n->n<k->zn F k (mk i)=some (mk<|scanUp p t.toArray j i)
 |n,i,k+1,hn,hk=>by
  rw[yf,hF,scanUp,wy];by_cases h:i<=j/\p (t.getD i 0)=true
  ·rw[iq h,iq<|by simpa using h];exact VD mk p t j hF (n-1) (i+1) k (by lia)<|by lia
  ·rw[ir h,ir<|by simpa using h]
theorem YH{β:Type}{F:(β->Option β)->β->Option β}(mk:Nat->β)(p:Nat->Bool)(t:List Nat)(i J:Nat)
 (hF:∀(L:β->Option β) (j:Nat),j<J->F L (mk<|j+1)=if i<=j+1/\p (t.getD (j+1) 0)=true then L (mk j)else some (mk<|j+1))
 (h0:∀L:β->Option β,F L (mk 0)=some (mk 0)):∀(j k:Nat),j<=J->j<k->zn F k (mk j)=some (mk<|scanDown p t.toArray i j)
 |0,k+1,hj,hk=>by rw[yf,h0];rfl
 |j+1,k+1,hj,hk=>by
  rw[yf,hF _ _ (by lia),scanDown,wy];by_cases h:i<=j+1/\p (t.getD (j+1) 0)=true
  ·rw[iq h,iq<|by simpa using h];exact YH mk p t i J hF h0 j k (by lia)<|by lia
  ·rw[ir h,ir<|by simpa using h]
section
variable{a:Nat}{t:List Nat}(ha:a<t.length)(hl:t.length<100){j:Nat}(hj:j<t.length)
 include ha hl hj
theorem p0{i:Nat}(hf:200<=fu):zn (yS fu (a:Int) t (j:Int)) fu (i:Int)=some ((scanUp (fun x=>lN x t.toArray[a]!) t.toArray j i:Nat):Int):=
 VD (fun i=>(i:Int)) _ t j (fun L i=>by
  rw[yS,wy];by_cases h:i<=j
  ·rw[vq,ye,zP,xd ha,zP,qb];cases hc:lN (t.getD i 0) (t.getD a 0)
   ·rw[ir (by decide),ir<|by simp]
   ·rw[iq rfl,if_pos ⟨h,rfl⟩,wm<|by constructor<;>lia];rfl
  ·rw[xb,xb]) (j+1) i fu (by lia) (by lia)
theorem p3{i:Nat}(hf:200<=fu):zn (yQ fu (j:Int) t) fu ((a:Int),(i:Int))=some ((a:Int),((scanUp (fun x=>lN x t.toArray[a]!) t.toArray j i:Nat):Int)):=
 VD (fun i=>((a:Int),(i:Int))) _ t j (fun L i=>by
  rw[yQ,wy];by_cases h:i<=j
  ·rw[vq,ye,zP,xd ha,zP,qb];cases hc:lN (t.getD i 0) (t.getD a 0)
   ·rw[ir (by decide),ir<|by simp]
   ·rw[iq rfl,if_pos ⟨h,rfl⟩,wm<|by constructor<;>lia];rfl
  ·rw[xb,xb]) (j+1) i fu (by lia) (by lia)
theorem Oy{i:Nat}(hf:200<=fu):zn (yD fu (j:Int) t) fu ((a:Int),(i:Int))=some ((a:Int),((scanUp (fun x=> !lN t.toArray[a]! x) t.toArray j i:Nat):Int)):=
 VD (fun i=>((a:Int),(i:Int))) _ t j (fun L i=>by
  rw[yD,wy];by_cases h:i<=j
  ·rw[vq,xd ha,zP,ye,zP,qb];cases hc:lN (t.getD a 0) (t.getD i 0)
   ·rw[iq (by decide),if_pos ⟨h,by decide⟩,wm<|by constructor<;>lia];rfl
   ·rw[ir (by decide),ir<|by simp]
  ·rw[xb,xb]) (j+1) i fu (by lia) (by lia)
theorem p1{i:Nat}(hi:0<i)(hf:200<=fu):zn (yu fu (a:Int) t (i:Int)) fu (j:Int)=some ((scanDown (fun x=> !lN x t.toArray[a]!) t.toArray i j:Nat):Int):=
 YH (fun i=>(i:Int)) _ t i j (fun L j' hi=>by
  have e:((j'+1:Nat):Int)-1=(j':Int):=by lia
  rw[yu,wy];simp only[e];by_cases h:i<=j'+1
  ·rw[vq,ye,zP,xd ha,zP,qb];cases hc:lN (t.getD (j'+1) 0) (t.getD a 0)
   ·rw[iq (by decide),if_pos ⟨h,by decide⟩,wm<|by constructor<;>lia]
   ·rw[ir (by decide),ir<|by simp]
  ·rw[xb,xb]) (fun L=>by rw[yu];exact xb) j fu (by lia) (by lia)
theorem p4{i:Nat}(hi:0<i)(hf:200<=fu):zn (yr fu t (a:Int) (i:Int)) fu (j:Int)=some ((scanDown (fun x=> !lN x t.toArray[a]!) t.toArray i j:Nat):Int):=
 YH (fun i=>(i:Int)) _ t i j (fun L j' hi=>by
  have e:((j'+1:Nat):Int)-1=(j':Int):=by lia
  rw[yr,wy];simp only[e];by_cases h:i<=j'+1
  ·rw[vq,ye,zP,xd ha,zP,qb];cases hc:lN (t.getD (j'+1) 0) (t.getD a 0)
   ·rw[iq (by decide),if_pos ⟨h,by decide⟩,wm<|by constructor<;>lia]
   ·rw[ir (by decide),ir<|by simp]
  ·rw[xb,xb]) (fun L=>by rw[yr];exact xb) j fu (by lia) (by lia)
theorem Om{i:Nat}(hi:0<i)(hf:200<=fu):zn (yc fu t (a:Int) (i:Int)) fu (j:Int)=some ((scanDown (fun x=>lN t.toArray[a]! x) t.toArray i j:Nat):Int):=
 YH (fun i=>(i:Int)) _ t i j (fun L j' hi=>by
  have e:((j'+1:Nat):Int)-1=(j':Int):=by lia
  rw[yc,wy];simp only[e];by_cases h:i<=j'+1
  ·rw[vq,xd ha,zP,ye,zP,qb];cases hc:lN (t.getD a 0) (t.getD (j'+1) 0)
   ·rw[ir (by decide),ir<|by simp]
   ·rw[iq rfl,if_pos ⟨h,rfl⟩,wm<|by constructor<;>lia]
  ·rw[xb,xb]) (fun L=>by rw[yc];exact xb) j fu (by lia) (by lia)
end
theorem tD(a:Nat)(hf:200<=fu):∀(n i j k:Nat) (t:List Nat),j+1-i<=n->a<i->a<t.length->j<t.length->t.length<100->n<k->
 ∃t',zn (yR fu (a:Int)) k ((i:Int),(j:Int),t)=some (((partLoop lN a i j t.toArray).1:Int),t')/\Sm t t' (partLoop lN a i j t.toArray).2
 |n,i,j,k+1,t,hn,ha,hb,hj,hl,hk=>by
  rw[yf,yR,partLoop_eq];simp only;rw[zq<|p3 (a:=a) (by lia) hl hj hf];simp only;obtain⟨u1,_,_,_⟩:=scanUp_spec (fun x=>lN x t.toArray[a]!) t.toArray j _ i rfl;generalize scanUp (fun x=>lN x t.toArray[a]!) t.toArray j i=i2 at u1⊢;rw[zq<|p4 (a:=a) (by lia) hl hj (by lia) hf];obtain⟨v1,_,_,_⟩:=scanDown_spec (fun x=> !lN x t.toArray[a]!) t.toArray i2 j;generalize scanDown (fun x=> !lN x t.toArray[a]!) t.toArray i2 j=j2 at v1⊢;by_cases h:i2>j2
  ·rw[vq,iq h];exact⟨t,rfl,rfl,rfl⟩
  ·rw[xb,ir h,ye,zP,ye,zP,ye,zP,xd (by simp;lia),zP,zk ((i2+1:Nat):Int) (by lia) (by constructor<;>lia),zk ((j2-1:Nat):Int) (by lia)<|by constructor<;>lia];obtain⟨t',h1,h2,h3⟩:=tD a hf (n-1) (i2+1) (j2-1) k (sw t i2 j2) (by lia) (by lia) (by rw[yO];lia) (by rw[yO];lia) (by rw[yO];lia) (by lia);rw[jg]at h1 h3;exact⟨t',h1,by rw[h2,yO],h3⟩
theorem BU(a b pv:Nat)(t:List Nat)(hd:a<b)(hb:b<=t.length)(hl:t.length<100)(hc:a<=pv)(hp:pv<b)(hf:200<=fu):
 ∃t',zA fu t (a:Int) (b:Int) (pv:Int)=some (((partition lN t.toArray a b pv).1:Int),(partition lN t.toArray a b pv).2.1,t')/\Sm t t' (partition lN t.toArray a b pv).2.2:=by
 rw[zA,ye,zP,ye,zP,ye,zP,xd (by simp;lia),zP,zk ((a+1:Nat):Int) (by lia) (by constructor<;>lia),zk ((b-1:Nat):Int) (by lia)<|by constructor<;>lia];rw[show(t.set a<|t.getD pv 0).set pv (t.getD a 0)=sw t a pv from rfl];have hr:=(partition_holds lN Xn t.toArray a b pv hc hp<|by simpa using hb).2.1;rw[partition_fst,partLoop_eq,<-jg]at hr;unfold partition;simp only;rw[<-jg];have ha:=yO t a pv;generalize sw t a pv=t1 at ha hr⊢;rw[zq<|p0 (a:=a) (by lia) (by lia) (by lia) hf];obtain⟨u1,_,_,_⟩:=scanUp_spec (fun x=>lN x t1.toArray[a]!) t1.toArray (b-1) _ (a+1) rfl;generalize scanUp (fun x=>lN x t1.toArray[a]!) t1.toArray (b-1) (a+1)=i2 at u1 hr⊢;rw[zq<|p1 (a:=a) (by lia) (by lia) (by lia) (by lia) hf];obtain⟨v1,_,_,_⟩:=scanDown_spec (fun x=> !lN x t1.toArray[a]!) t1.toArray i2<|b-1;generalize scanDown (fun x=> !lN x t1.toArray[a]!) t1.toArray i2 (b-1)=j2 at v1 hr⊢;by_cases h:i2>j2
 ·rw[vq,iq h,zq rfl,iq rfl,ye,zP,ye,zP,ye,zP,xd (by simp;lia),zP];exact⟨sw t1 j2 a,rfl,by rw[yO,ha],jg ..⟩
 ·rw[xb,ir h,zq rfl,ir (by decide),ye,zP,ye,zP,ye,zP,xd (by simp;lia),zP,zk ((i2+1:Nat):Int) (by lia) (by constructor<;>lia),zk ((j2-1:Nat):Int) (by lia)<|by constructor<;>lia];obtain⟨t',h1,h2,h3⟩:=tD (fu:=fu) a hf b (i2+1) (j2-1) fu (sw t1 i2 j2) (by lia) (by lia) (by rw[yO];lia) (by rw[yO];lia) (by rw[yO];lia) (by lia);rw[yO]at h2;rw[jg]at h1 h3;rw[ir h]at hr;refine⟨sw t' (partLoop lN a (i2+1) (j2-1)<|swp t1.toArray i2 j2).1 a,?_,by rw[yO,h2,ha],by rw[jg,h3]⟩;refine(zq h1).trans ?_;simp only;rw[ye,zP,ye,zP,ye,zP,xd (by simp;lia),zP];rfl
theorem La(a:Nat)(hf:200<=fu):∀(n i j k:Nat) (t:List Nat),j+1-i<=n->a<i->a<t.length->j<t.length->t.length<100->n<k->
 ∃t',zn (yC fu (a:Int)) k ((i:Int),(j:Int),t)=some (((partEqLoop lN a i j t.toArray).1:Int),t')/\Sm t t' (partEqLoop lN a i j t.toArray).2
 |n,i,j,k+1,t,hn,ha,hb,hj,hl,hk=>by
  rw[yf,yC,partEqLoop_eq];simp only;rw[zq<|Oy (a:=a) (by lia) hl hj hf];simp only;obtain⟨u1,_,_,_⟩:=scanUp_spec (fun x=> !lN t.toArray[a]! x) t.toArray j _ i rfl;generalize scanUp (fun x=> !lN t.toArray[a]! x) t.toArray j i=i2 at u1⊢;rw[zq<|Om (a:=a) (by lia) hl hj (by lia) hf];obtain⟨v1,_,_,_⟩:=scanDown_spec (fun x=>lN t.toArray[a]! x) t.toArray i2 j;generalize scanDown (fun x=>lN t.toArray[a]! x) t.toArray i2 j=j2 at v1⊢;by_cases h:i2>j2
  ·rw[vq,iq h];exact⟨t,rfl,rfl,rfl⟩
  ·rw[xb,ir h,ye,zP,ye,zP,ye,zP,xd (by simp;lia),zP,zk ((i2+1:Nat):Int) (by lia) (by constructor<;>lia),zk ((j2-1:Nat):Int) (by lia)<|by constructor<;>lia];obtain⟨t',h1,h2,h3⟩:=La a hf (n-1) (i2+1) (j2-1) k (sw t i2 j2) (by lia) (by lia) (by rw[yO];lia) (by rw[yO];lia) (by rw[yO];lia) (by lia);rw[jg]at h1 h3;exact⟨t',h1,by rw[h2,yO],h3⟩
theorem LP(a b pv:Nat)(t:List Nat)(ha:a<b)(hb:b<=t.length)(hl:t.length<100)(hp:pv<b)(hf:200<=fu):
 ∃t',zz fu t (a:Int) (b:Int) (pv:Int)=some (((partitionEqual lN t.toArray a b pv).1:Int),t')/\Sm t t' (partitionEqual lN t.toArray a b pv).2:=by
 obtain⟨t',h1,h2,h3⟩:=La (fu:=fu) a hf b (a+1) (b-1) fu (sw t a pv) (by lia) (by lia) (by rw[yO];lia) (by rw[yO];lia) (by rw[yO];lia) (by lia);rw[jg]at h1 h3;refine⟨t',?_,by rw[h2,yO],h3⟩;rw[zz,ye,zP,ye,zP,ye,zP,xd (by simp;lia),zP,zk ((a+1:Nat):Int) (by lia) (by constructor<;>lia),zk ((b-1:Nat):Int) (by lia)<|by constructor<;>lia];exact zq h1
theorem dN(t:List Nat)(a b:Nat)(s:Int)(ha:a<t.length:=by lia)(hb:b<t.length:=by lia)(hs:0<=s/\s<100:=by lia):
 ∃(x y:Nat) (s':Int),z6 fu t (a:Int) (b:Int) s=some ((x:Int),(y:Int),t,s')/\(x=a/\y=b\/x=b/\y=a)/\s<=s'/\s'<=s+1:=by
 rw[z6,xd hb,zP,xd ha,zP,qb];cases lN (t.getD b 0) (t.getD a 0)
 ·exact⟨a,b,s,rfl,.inl ⟨rfl,rfl⟩,by lia,by lia⟩
 ·rw[iq rfl,wm<|by constructor<;>lia];exact⟨b,a,s+1,rfl,.inr ⟨rfl,rfl⟩,by lia,by lia⟩
theorem FL(t:List Nat)(a b c:Nat)(ha:a<t.length)(hb:b<t.length)(hc:c<t.length):
 ∃(x:Nat) (s':Int),zZ fu t (a:Int) (b:Int) (c:Int) 0=some ((x:Int),t,s')/\(x=a\/x=b\/x=c):=by
 obtain⟨x1,y1,s1,e1,h1,_,_⟩:=dN (fu:=fu) t a b 0 ha hb;obtain⟨x2,y2,s2,e2,h2,_,_⟩:=dN (fu:=fu) t y1 c s1 (by lia) hc;obtain⟨x3,y3,s3,e3,h3,_,_⟩:=dN (fu:=fu) t x1 x2 s2;refine⟨y3,s3,?_,by lia⟩;rw[zZ,zq e1];simp only;rw[zq e2];simp only;rw[zq e3]
theorem EE(a b:Nat)(t:List Nat)(hc:a<b)(hb:b<=t.length)(hl:t.length<50):
 ∃(x:Nat) (h:Int),zK fu t (a:Int) (b:Int)=some ((x:Int),h,t)/\a<=x/\x<b:=by
 have e4:SW ((b-a:Nat):Int) 4=(((b-a)/4:Nat):Int):=by rw[RV<|by lia];lia
 rw[zK,zk ((b-a:Nat):Int) (by lia) (by constructor<;>lia),e4];rw[vE (by decide),wm (by constructor<;>lia),zk (((b-a)/4:Nat):Int) (by lia) (by constructor<;>lia),zk ((a+(b-a)/4:Nat):Int) (by lia)<|by constructor<;>lia];rw[vE (by decide),wm (by constructor<;>lia),zk (((b-a)/4*2:Nat):Int) (by lia) (by constructor<;>lia),zk ((a+(b-a)/4*2:Nat):Int) (by lia)<|by constructor<;>lia];rw[vE (by decide),wm (by constructor<;>lia),zk (((b-a)/4*3:Nat):Int) (by lia) (by constructor<;>lia),zk ((a+(b-a)/4*3:Nat):Int) (by lia)<|by constructor<;>lia];by_cases h:8<=b-a
 ·rw[vq,xb];obtain⟨x,s,e,hx⟩:=FL (fu:=fu) t (a+(b-a)/4) (a+(b-a)/4*2) (a+(b-a)/4*3) (by lia) (by lia) (by lia);rw[zq e];simp only;by_cases h0:s=0
  ·rw[iq h0];exact⟨x,1,rfl,by lia,by lia⟩
  ·rw[ir h0];by_cases ha:s=12
   ·rw[iq ha];exact⟨x,2,rfl,by lia,by lia⟩
   ·rw[ir ha];exact⟨x,0,rfl,by lia,by lia⟩
 ·rw[xb,iq rfl];exact⟨_,1,rfl,by lia,by lia⟩
end
section
open Go.Sort
variable{fu:Nat}
abbrev Pm(a b:Nat)(t t':List Nat):Prop:=t'.length=t.length/\PermIn a b t.toArray t'.toArray
theorem Pm.rfl{a b:Nat}{t:List Nat}:Pm a b t t:=⟨Eq.refl _,permIn_refl ..⟩
theorem Pm.trans{a b:Nat}{t t' t'':List Nat}(h:Pm a b t t')(g:Pm a b t' t''):Pm a b t t'':=⟨g.1.trans h.1,permIn_trans _ _ _ a b h.2 g.2⟩
theorem Dy(a b m2:Nat)(hab:8<=b-a)(hl:b<=26)(h1:0<m2)(h2:m2<=2*(b-a)):∀(n i k:Nat) (t:List Nat) (r:Nat),b-i<=n->a<=i->b<=t.length->n<k->
 ∃t',zn (yg fu (a:Int) ((b-a:Nat):Int) m2) k ((i:Int),t,r)=some t'/\Pm a b t t'
 |n,i,k+1,t,r,hn,hi,hb,hk=>by
  have e4:SW ((b-a:Nat):Int) 4=(((b-a)/4:Nat):Int):=by rw[RV<|by lia];lia
  rw[yf,yg];simp only;rw[vE (by decide),e4,wm (by constructor<;>lia),zk (((b-a)/4*2:Nat):Int) (by lia) (by constructor<;>lia),zk ((a+(b-a)/4*2:Nat):Int) (by lia) (by constructor<;>lia),zk ((a+(b-a)/4*2+1:Nat):Int) (by lia)<|by constructor<;>lia];by_cases h:i<=a+(b-a)/4*2+1
  ·rw[vq];obtain⟨r',hr⟩:∃r',xU fu r=some (r',r'):=⟨_,rfl⟩;rw[zq hr];simp only;rw[zP,zP,zP];have hm:(m2+18446744073709551616-1)%18446744073709551616=m2-1:=by lia
   have ho:=Nat.and_le_right (n:=r') (m:=m2-1);rw[hm];generalize r' &&& (m2-1)=o at ho⊢;rw[show Ak o=(o:Int)by unfold Ak;rw[vq]];have fin:∀o:Nat,o<b-a->∃t',(∀X:Option (List Nat),X=(zb ((a:Int)+(o:Int)) fun x12=>zb ((a:Int)+(o:Int)) fun x13=>zy x13 t.length fun j1=>nm (t.getD j1 0) fun m7=>zy (i:Int) t.length fun j2=>nm (t.getD j2 0) fun m8=>zy (i:Int) t.length fun j3=>nm (t.set j3 m7) fun t3=>zy x12 t3.length fun j4=>nm (t3.set j4 m8) fun t4=>zb ((i:Int)+1) fun x14=>zn (yg fu (a:Int) ((b-a:Nat):Int) m2) k (x14,t4,r'))->X=some t')/\Pm a b t t':=by
    intro o ho;obtain⟨t',g1,g2⟩:=Dy a b m2 hab hl h1 h2 (n-1) (i+1) k (sw t i<|a+o) r' (by lia) (by lia) (by rw[yO];lia) (by lia);refine⟨t',fun X hX=> ?_,Pm.trans ⟨yO ..,by rw[jg];exact swp_permIn _ a b i (a+o) hi (by lia) (by lia) (by lia)<|by simpa using hb⟩ g2⟩;rw[hX,zk ((a+o:Nat):Int) (by lia) (by constructor<;>lia),zk ((a+o:Nat):Int) (by lia) (by constructor<;>lia),ye,zP,ye,zP,ye,zP,xd (by simp;lia),zP,zk ((i+1:Nat):Int) (by lia)<|by constructor<;>lia];exact g1
   by_cases hx:b-a<=o
   ·rw[vq,zk ((o-(b-a):Nat):Int) (by lia) (by constructor<;>lia),zq rfl];obtain⟨t',g1,g2⟩:=fin (o-(b-a)) (by lia);exact⟨t',g1 _ rfl,g2⟩
   ·rw[xb,zq rfl];obtain⟨t',g1,g2⟩:=fin o (by lia);exact⟨t',g1 _ rfl,g2⟩
  ·rw[xb];exact⟨t,rfl,.rfl⟩
theorem FM:∀n<27,8<=n->bl n<6/\2^bl n<=2*n:=by decide
theorem Fh(a b:Nat)(t:List Nat)(hab:a<=b)(hb:b<=t.length)(hl:t.length<=26)(hf:200<=fu):∃t',zU fu t (a:Int) (b:Int)=some t'/\Pm a b t t':=by
 rw[zU,zk ((b-a:Nat):Int) (by lia)<|by constructor<;>lia];by_cases h:8<=b-a
 ·obtain⟨h1,h2⟩:=FM (b-a) (by lia) h;have hu:Jx ((b-a:Nat):Int)=b-a:=by unfold Jx;lia
  have h3:2^(min ((bl (b-a):Nat):Int).toNat 64)=2^bl (b-a):=by rw[show min ((bl (b-a):Nat):Int).toNat 64=bl (b-a)by lia]
  have h4:=Nat.two_pow_pos<|bl<|b-a;have hp:xC fu ((b-a:Nat):Int)=some (2^bl (b-a)):=by rw[xC,zP,hu,vm,vO,zq rfl,zq rfl,Vu,zP,h3,show 1*2^bl (b-a)%18446744073709551616=2^bl (b-a)by lia]
  have e4:SW ((b-a:Nat):Int) 4=(((b-a)/4:Nat):Int):=by rw[RV<|by lia];lia
  rw[vq,zq rfl,iq rfl,zP,zq hp,vE (by decide),e4,wm (by constructor<;>lia),zk (((b-a)/4*2:Nat):Int) (by lia) (by constructor<;>lia),zk ((a+(b-a)/4*2:Nat):Int) (by lia) (by constructor<;>lia),zk ((a+(b-a)/4*2-1:Nat):Int) (by lia)<|by constructor<;>lia];obtain⟨t',g1,g2⟩:=Dy (fu:=fu) a b (2^bl (b-a)) h (by lia) h4 h2 b (a+(b-a)/4*2-1) fu t (Jx ((b-a:Nat):Int)) (by lia) (by lia) hb (by lia);exact⟨t',zq g1,g2⟩
 ·rw[xb,zq rfl,ir<|by decide];exact⟨t,rfl,.rfl⟩
abbrev Me:=Int×Int×Int×Bool×Bool×(List Nat)
abbrev IF:=(List Nat)->Int->Int->Int->Option (List Nat)
def Ho(fu:Nat)(self:IF)(L:Me->Option (List Nat))(i1 i2 x1 x2:Int)(b1 b2:Bool)(i4:Int)(t9:List Nat):Option (List Nat):=
 (bd ((if(0:Int)<i1 then
 zb (i1-(1:Int)) fun x8=>
 zy x8 (t9.length) fun j1=>
 nm ((t9.getD j1 0)) fun m1=>
 zy i4 (t9.length) fun j2=>
 nm ((t9.getD j2 0)) fun m2=>
 bd (zp fu m1 m2) fun c2=>
 if((!c2))=true then
 bd (zz fu t9 i1 i2 i4) fun(x9,t10)=>
 some (.inr<|(x9,i1,x8,m1,i4,m2,c2,(!c2),t10))
 else
 some (.inl (i1,t9))
 else
 some (.inl (i1,t9)):Option ((Int×(List Nat))⊕(Int×Int×Int×Nat×Int×Nat×Bool×Bool×(List Nat))))) fun s2=>match s2 with
 |.inl (i6,t11)=>
 bd (zA fu t11 i6 i2 i4) fun(x10,c3,t12)=>
 zb (x10-i6) fun x11=>
 zb (i2-x10) fun x12=>
 ck ((8:Int)≠0)<|
 zb (SW x1 (8:Int)) fun x13=>
 if x11<x12 then
 if x13<=x11 then
 bd (self t12 i6 x10 x2) fun t13=>
 zb (x10+(1:Int)) fun x14=>
 L (x14,i2,x2,true,c3,t13)
 else
 bd (self t12 i6 x10 x2) fun t14=>
 zb (x10+(1:Int)) fun x15=>
 L (x15,i2,x2,false,c3,t14)
 else
 if x13<=x12 then
 zb (x10+(1:Int)) fun x16=>
 bd (self t12 x16 i2 x2) fun t15=>
 L (i6,x10,x2,true,c3,t15)
 else
 zb (x10+(1:Int)) fun x17=>
 bd (self t12 x17 i2 x2) fun t16=>
 L (i6,x10,x2,false,c3,t16)
 |.inr (i7,i8,i9,t17,i10,t18,b3,b4,t19)=>
 L (i7,i2,x2,b1,b2,t19))
def L9(fu:Nat)(self:IF)(L:Me->Option (List Nat))(i1 i2 x1 x2:Int)(b1 b2:Bool)(t4:List Nat):Option (List Nat):=
 bd (zK fu t4 i1 i2) fun(x3,x4,t5)=>
 bd ((if x4=(2:Int)then
 bd (zE fu t5 i1 i2) fun t6=>
 zb (i2-(1:Int)) fun x5=>
 zb (x3-i1) fun x6=>
 zb (x5-x6) fun x7=>
 some ((x7,(1:Int),t6))
 else
 some (x3,x4,t5):Option (Int×Int×(List Nat)))) fun(i4,i5,t7)=>
 bd ((if b1=true then
 if b2=true then
 if i5=(1:Int)then
 bd (zi fu t7 i1 i2) fun(c1,t8)=>
 if c1=true then
 some (.inr t8)
 else
 some (.inl t8)
 else
 some (.inl t7)
 else
 some (.inl t7)
 else
 some (.inl t7):Option ((List Nat)⊕(List Nat)))) fun s1=>match s1 with
 |.inl t9=>Ho fu self L i1 i2 x1 x2 b1 b2 i4 t9
 |.inr t20=>some t20
theorem pk{self:IF}{L:Me->Option (List Nat)}{i1 i2 i3:Int}{b1 b2:Bool}{t1:List Nat}:yA fu self L (i1,i2,i3,b1,b2,t1)=(zb (i2-i1) fun x1=>
 if x1<=(12:Int)then bd (zT fu t1 i1 i2) fun t2=>some t2 else
 if i3=(0:Int)then bd (yj fu t1 i1 i2) fun t3=>some t3 else
 if(!b1)=true then bd (zU fu t1 i1 i2) fun t4=>zb (i3-1) fun x2=>L9 fu self L i1 i2 x1 x2 b1 b2 t4
 else L9 fu self L i1 i2 x1 i3 b1 b2 t1):=rfl
def Sd(t:List Nat)(a b:Nat)(t':List Nat):Prop:=Pm a b t t'/\SortedIn lN a b t'.toArray
section
variable{self:IF}{N:Nat}(hS:∀(t:List Nat) (a b:Nat) (l:Int),b-a<N->a<=b->b<=t.length->t.length<=26->Below lN a b t.toArray->0<=l->l<=64->∃t',self t (a:Int) (b:Int) l=some t'/\Sd t a b t')(hf:200<=fu)
 {L:Me->Option (List Nat)}{a b:Nat} (hL:∀(t:List Nat) (a' b':Nat) (l:Int) (wb wp:Bool),b'-a'<b-a->a'<=b'->b'<=t.length->t.length<=26->Below lN a' b' t.toArray->0<=l->l<=64->∃t',L ((a':Int),(b':Int),l,wb,wp,t)=some t'/\Sd t a' b' t')
 (hab:12<b-a) (hN:b-a<=N) {l:Int} (l0:0<=l) (l1:l<=64)
 include hS hf hL hab hN l0 l1
theorem FR{t:List Nat}(hb:b<=t.length)(hl:t.length<=26)(hB:Below lN a b t.toArray){p:Nat}(hp:a<=p)(hg:p<b)(wb wp:Bool):
 ∃t',Ho fu self L (a:Int) (b:Int) ((b-a:Nat):Int) l wb wp (p:Int) t=some t'/\Sd t a b t':=by
 have hs:b<=t.toArray.size:=by simpa using hb
 have part:∃t',(bd (zA fu t (a:Int) (b:Int) (p:Int)) fun(x10,c3,t12)=>zb (x10-(a:Int)) fun x11=>zb ((b:Int)-x10) fun x12=>ck ((8:Int)≠0)<|zb (SW ((b-a:Nat):Int) (8:Int)) fun x13=>
  if x11<x12 then if x13<=x11 then bd (self t12 (a:Int) x10 l) fun t13=>zb (x10+(1:Int)) fun x14=>L (x14,(b:Int),l,true,c3,t13)else bd (self t12 (a:Int) x10 l) fun t14=>zb (x10+(1:Int)) fun x15=>L (x15,(b:Int),l,false,c3,t14)
  else if x13<=x12 then zb (x10+(1:Int)) fun x16=>bd (self t12 x16 (b:Int) l) fun t15=>L ((a:Int),x10,l,true,c3,t15)else zb (x10+(1:Int)) fun x17=>bd (self t12 x17 (b:Int) l) fun t16=>L ((a:Int),x10,l,false,c3,t16))=some t'/\Sd t a b t':=by
  obtain⟨t',h1,h2,h3⟩:=BU (fu:=fu) a b p t (by lia) hb (by lia) hp hg hf;rcases hx:partition lN t.toArray a b p with⟨mid,ap,d4⟩;rw[hx]at h1 h3;simp only at h1 h3;obtain⟨g1,g2,hj,hm,hn,he,hd⟩:=round_part Xn (partition_holds lN) hp hg hs hB hx;rw[<-h3]at hj hm hn he hd;rw[zq h1];simp only;rw[zk ((mid-a:Nat):Int) (by lia) (by constructor<;>lia),zk ((b-mid:Nat):Int) (by lia) (by constructor<;>lia),vE (by decide),zk (((b-a)/8:Nat):Int) (by rw[RV<|by lia];lia)<|by constructor<;>lia];have lo:∀wb,∃t'',(bd (self t' (a:Int) (mid:Int) l) fun t13=>zb ((mid:Int)+1) fun x14=>L (x14,(b:Int),l,wb,ap,t13))=some t''/\Sd t a b t'':=by
   intro wb;obtain⟨u,e1,⟨p1,p2⟩,p3⟩:=hS t' a mid l (by lia) g1 (by lia) (by lia) hm l0 l1;obtain⟨hk,ha⟩:=he _ p2 p3;obtain⟨v,e2,⟨q1,q2⟩,q3⟩:=hL u (mid+1) b l wb ap (by lia) (by lia) (by lia) (by lia) hk l0 l1;obtain⟨r1,r2⟩:=ha _ q2 q3;refine⟨v,?_,⟨by lia,r1⟩,r2⟩;rw[zq e1,zk ((mid+1:Nat):Int) (by lia)<|by constructor<;>lia];exact e2
  have hi:∀wb,∃t'',(zb ((mid:Int)+1) fun x16=>bd (self t' x16 (b:Int) l) fun t15=>L ((a:Int),(mid:Int),l,wb,ap,t15))=some t''/\Sd t a b t'':=by
   intro wb;obtain⟨u,e1,⟨p1,p2⟩,p3⟩:=hS t' (mid+1) b l (by lia) (by lia) (by lia) (by lia) hn l0 l1;obtain⟨hk,ha⟩:=hd _ p2 p3;obtain⟨v,e2,⟨q1,q2⟩,q3⟩:=hL u a mid l wb ap (by lia) (by lia) (by lia) (by lia) hk l0 l1;obtain⟨r1,r2⟩:=ha _ q2 q3;refine⟨v,?_,⟨by lia,r1⟩,r2⟩;rw[zk ((mid+1:Nat):Int) (by lia) (by constructor<;>lia),zq e1];exact e2
  split
  ·split
   ·exact lo _
   ·exact lo _
  ·split
   ·exact hi _
   ·exact hi _
 unfold Ho;by_cases h0:0<a
 ·rw[vq,zk ((a-1:Nat):Int) (by lia) (by constructor<;>lia),ye,zP,ye,zP,qb];cases hc:lN (t.getD (a-1) 0) (t.getD p 0)
  ·rw[iq<|by decide];obtain⟨t',h1,h2,h3⟩:=LP (fu:=fu) a b p t (by lia) hb (by lia) hg hf;rcases hx:partitionEqual lN t.toArray a b p with⟨mid,d4⟩;rw[hx]at h1 h3;simp only at h1 h3;obtain⟨g1,g2,hj,ho,ha⟩:=round_eq Xn (partitionEqual_holds lN) h0 hp hg hs hB (by rw[wy,wy,hc]) hx;rw[<-h3]at hj ho ha;obtain⟨v,e2,⟨q1,q2⟩,q3⟩:=hL t' mid b l wb wp (by lia) g2 (by lia) (by lia) ho l0 l1;obtain⟨r1,r2⟩:=ha _ q2 q3;refine⟨v,?_,⟨by lia,r1⟩,r2⟩;rw[zq h1,zq rfl];exact e2
  ·rw[ir (by decide),zq rfl];exact part
 ·rw[xb,zq rfl];exact part
theorem rE{t:List Nat}(hb:b<=t.length)(hl:t.length<=26)(hB:Below lN a b t.toArray)(wb wp:Bool):
 ∃t',L9 fu self L (a:Int) (b:Int) ((b-a:Nat):Int) l wb wp t=some t'/\Sd t a b t':=by
 have hs:b<=t.toArray.size:=by simpa using hb
 obtain⟨x,h,e,he,hg⟩:=EE (fu:=fu) a b t (by lia) hb (by lia);unfold L9;rw[zq e];simp only
 have tail:∀(t7:List Nat) (p:Nat) (i5:Int),Pm a b t t7->a<=p->p<b->∃t',(bd ((if wb=true then if wp=true then if i5=(1:Int)then bd (zi fu t7 (a:Int) (b:Int)) fun(c1,t8)=>if c1=true then some (.inr t8)else some (.inl t8)else some (.inl t7)else some (.inl t7)else some (.inl t7):Option ((List Nat)⊕(List Nat)))) fun s1=>match s1 with
  |.inl t9=>Ho fu self L (a:Int) (b:Int) ((b-a:Nat):Int) l wb wp (p:Int) t9
  |.inr t20=>some t20)=some t'/\Sd t a b t':=by
  intro t7 p i5 hP hp hi;have hd:Below lN a b t7.toArray:=hB.perm hs hP.2;have ha:b<=t7.length:=by rw[hP.1];exact hb
  obtain⟨v,e1,⟨q1,q2⟩,q3⟩:=FR hS hf hL hab hN l0 l1 ha (by rw[hP.1];exact hl) hd hp hi wb wp;have go:∃t',Ho fu self L (a:Int) (b:Int) ((b-a:Nat):Int) l wb wp (p:Int) t7=some t'/\Sd t a b t':=⟨v,e1,hP.trans ⟨q1,q2⟩,q3⟩;by_cases c1:wb=true
  ·rw[iq c1];by_cases c2:wp=true
   ·rw[iq c2];by_cases c3:i5=1
    ·rw[iq c3];obtain⟨f1,f2⟩:=Ey (fu:=fu) a b t7 ha (by rw[hP.1];lia) hf (by lia);rw[zq f1];simp only;cases hc:(partialInsertionSort lN t7.toArray a b).2
     ·rw[ir (by decide),zq rfl];exact go
     ·rw[iq rfl,zq rfl];have:=(partialInsertionSort_holds Xn t7.toArray a b (by lia) (by simpa using ha) hd).2 hc;rw[f2]at this;exact⟨t7,rfl,hP,this⟩
    ·rw[ir c3,zq rfl];exact go
   ·rw[ir c2,zq rfl];exact go
  ·rw[ir c1,zq rfl];exact go
 by_cases h2:h=2
 ·obtain⟨t6,g1,g2,g3⟩:=Gp (fu:=fu) a b t hb (by lia) hf (by lia);rw[iq h2,zq g1,zk ((b-1:Nat):Int) (by lia) (by constructor<;>lia),zk ((x-a:Nat):Int) (by lia) (by constructor<;>lia),zk ((b-1-(x-a):Nat):Int) (by lia) (by constructor<;>lia),zq rfl];exact tail t6 (b-1-(x-a)) 1 ⟨g2,by rw[g3];exact reverseRange_holds _ a b (by lia) hs⟩ (by lia)<|by lia
 ·rw[ir h2,zq rfl];exact tail t x h .rfl he hg
end
theorem iH{self:IF}{N:Nat}(hS:∀(t:List Nat) (a b:Nat) (l:Int),b-a<N->a<=b->b<=t.length->t.length<=26->Below lN a b t.toArray->0<=l->l<=64->∃t',self t (a:Int) (b:Int) l=some t'/\Sd t a b t')(hf:200<=fu):
 ∀(m k:Nat) (t:List Nat) (a b:Nat) (l:Int) (wb wp:Bool),b-a<=m->m<k->b-a<=N->a<=b->b<=t.length->t.length<=26->Below lN a b t.toArray->0<=l->l<=64->∃t',zn (yA fu self) k ((a:Int),(b:Int),l,wb,wp,t)=some t'/\Sd t a b t'
 |m,k+1,t,a,b,l,wb,wp,hm,hk,hN,hab,hb,hl,hB,l0,l1=>by
  have hs:b<=t.toArray.size:=by simpa using hb
  rw[yf,pk,zk ((b-a:Nat):Int) (by lia)<|by constructor<;>lia];by_cases hc:b-a<=12
  ·obtain⟨t',h1,h2,h3⟩:=FA (fu:=fu) a b t hb (by lia) hf hab;obtain⟨g1,g2⟩:=insertionSort_holds Xn t.toArray a b hab hs;rw[vq,zq h1];exact⟨t',rfl,⟨h2,by rw[h3];exact g1⟩,by rw[h3];exact g2⟩
  ·rw[xb];by_cases ha:l=0
   ·obtain⟨t',h1,h2,h3⟩:=BC (fu:=fu) a b t hb (by lia) hf (by lia);obtain⟨g1,g2⟩:=heapSort_holds Xn t.toArray a b hab hs;rw[iq ha,zq h1];exact⟨t',rfl,⟨h2,by rw[h3];exact g1⟩,by rw[h3];exact g2⟩
   ·rw[ir ha]
    have hL:∀(t:List Nat) (a' b':Nat) (l:Int) (wb wp:Bool),b'-a'<b-a->a'<=b'->b'<=t.length->t.length<=26->Below lN a' b' t.toArray->0<=l->l<=64->∃t',zn (yA fu self) k ((a':Int),(b':Int),l,wb,wp,t)=some t'/\Sd t a' b' t':=
     fun t a' b' l wb wp h1 h2 h3 h4 h5 h6 h7=>iH hS hf (m-1) k t a' b' l wb wp (by lia) (by lia) (by lia) h2 h3 h4 h5 h6 h7
    cases wb
    ·obtain⟨t4,h1,h2⟩:=Fh (fu:=fu) a b t hab hb hl hf;rw[iq (by decide),zq h1,wm<|by constructor<;>lia];obtain⟨t',e,q1,q2⟩:=rE hS hf hL (by lia) hN (l:=l-1) (by lia) (by lia) (t:=t4) (by rw[h2.1];exact hb) (by rw[h2.1];exact hl) (hB.perm hs h2.2) false wp;exact⟨t',e,h2.trans q1,q2⟩
    ·rw[ir<|by decide];exact rE hS hf hL (by lia) hN l0 l1 hb hl hB true wp
theorem rM:∀(n fu:Nat) (t:List Nat) (a b:Nat) (l:Int),b-a<n->200+n<=fu->a<=b->b<=t.length->t.length<=26->Below lN a b t.toArray->0<=l->l<=64->∃t',zW fu t (a:Int) (b:Int) l=some t'/\Sd t a b t'
 |n+1,fu+1,t,a,b,l,hn,hf,hab,hb,hl,hB,l0,l1=>by
  obtain⟨t',h1,h2⟩:=iH (fu:=fu) (self:=zW fu) (N:=n) (fun t a b l g1 g2 g3 g4 g5 g6 g7=>rM n fu t a b l g1 (by lia) g2 g3 g4 g5 g6 g7) (by lia) n fu t a b l true true (by lia) (by lia) (by lia) hab hb hl hB l0 l1;exact⟨t',by rw[zW,zq h1],h2⟩
theorem Cr{t:List Nat}(hl:t.length<=26)(hf:300<=fu):yG fu t=some (t.mergeSort fun x y=>decide<|x<=y):=by
 have ha:bl t.length<=64:=(by decide:∀n<27,bl n<=64) _ (by lia);obtain⟨t',h1,⟨h2,h3⟩,h4⟩:=rM 27 fu t 0 t.length (bl t.length:Nat) (by lia) (by lia) (by lia) (by lia) hl (.inl rfl) (by lia) (by lia);have hu:Jx (t.length:Int)=t.length:=by unfold Jx;lia
 rw[yG,zP,hu,vm,vO,zq rfl,zq rfl];refine(zq h1).trans ?_;have hz:t.toArray.size=t.length:=by simp
 have:=sorted_unique_holds Xn (fun x y h g=>by simp[lN]at h g;lia) t.toArray t'.toArray (by rw[hz];exact h3) (by rw[hz];exact h4);simp only at this;have e:(fun x y=> !lN y x)=fun(x y:Nat)=>decide (x<=y):=by funext x y;rw[lN,<-decide_not,decide_eq_decide];lia
 rw[e]at this;rw[<-this]
end
section
set_option maxRecDepth 100000
def na(ks:List Nat)(l:List Nat):List Nat:=l.foldl de ks
theorem VB{c:Nat}:∀(l ks:List Nat),c∈na ks l↔c∈ks\/c∈l
 |[],ks=>by simp[na]
 |d::l,ks=>by
  have:=VB (c:=c) l<|de ks d;unfold na at*
  rw[SO,this];unfold de;split<;>simp_all<;>grind
noncomputable def My:Code:=match Tryz.f10.body with|some c=>c|none=> .skip
noncomputable def ME:Code:=match Tryz.f19.body with|some c=>c|none=> .skip
def DB:Code->Code|.seq _ b=>b|c=>c
theorem um:Tryz.prog.underlying 56=some (.map 5 3):=by kernel_rfl
theorem uc:Tryz.prog.underlying 5=some (.int .u8):=by kernel_rfl
theorem up:Tryz.prog.underlying 23=some (.pointer 55):=by kernel_rfl
theorem IM:Tryz.prog.underlying 33=some (.slice 5):=by kernel_rfl
theorem us:Tryz.prog.underlying 9=some .string:=by kernel_rfl
theorem Oc(w:World):(zeroValue 3).run Tryz.prog w=.ok (.int .i64 0) w:=by
 obtain⟨_,i,h,_,_,hz⟩:=Ou;simp[zeroValue,typeInfo,h,hz]
theorem sr{P:Program}{d:Option Tmp}{t E:TypeId}{x:Operand}{u ty:TypeId}{pos:String}{aft:Array Edge}{g:Option (Nat×Bool)}{env:yb}{p:Option Addr}(ht:P.underlying t=some (.pointer E))(hx:ev env x=.pointer p)(w:World):
 (execOp (ev env) ⟨d,.binOp .eql t x (.const (.pointer none)) u,ty,pos,aft,g⟩).run P w=.ok (.value (.bool p.isNone)) w:=by
 have h:(Op.equal t (.pointer p) (.pointer none)).run P w=.ok p.isNone w:=by
  show(Op.equalIn (9999+1) t (.pointer p) (.pointer none)).run P w=_;unfold Op.equalIn;cases p<;>simp only[O5,run_underlying ht,O0,Pg,Option.isNone_some,Option.isNone_none]
 have h2:(binOp .eql t (.pointer p) (.pointer none)).run P w=.ok (.bool p.isNone) w:=by simp[binOp,eqGuard,h]
 have hy:ev env (.const (.pointer none))=.pointer none:=rfl;simp[execOp,hx,hy,h2,eqGuard]
theorem ng{P:Program}{d:Option Tmp}{t:TypeId}{x:Operand}{u ty:TypeId}{pos:String}{aft:Array Edge}{g:Option (Nat×Bool)}{env:yb}{s s2:ByteArray}(hx:ev env x=.string s)(w:World):
 (execOp (ev env) ⟨d,.binOp .eql t x (.const (.string s2)) u,ty,pos,aft,g⟩).run P w=.ok (.value (.bool<|decide<|zL s=zL s2)) w:=by
 have h2:(binOp .eql t (.string s) (.string s2)).run P w=.ok (.bool<|decide<|zL s=zL s2) w:=by simp[binOp,Op.stringOp,<-Va]
 have hy:ev env (.const (.string s2))=.string s2:=rfl;simp[execOp,hx,hy,h2,eqGuard]
theorem K6{P:Program}{d:Option Tmp}{x:Operand}{ty:TypeId}{pos:String}{aft:Array Edge}{g:Option (Nat×Bool)}{env:yb}{a:Addr}(hx:ev env x=.pointer (some a))(w:World):
 (execOp (ev env) ⟨d,.nilCheck x,ty,pos,aft,g⟩).run P w=.ok (.value (.pointer<|some a)) w:=by
 simp[execOp,hx,S5]
theorem FP{α:Type}{e:zv α}{x:α}{v:Value}{S:Nat->Prop}{w:World}(h:(fP e x v).p S w):∃a,v=.pointer (some a):=let⟨b,o,_,h,_⟩:=h;⟨_,h⟩
theorem OE(y:B4):vj Aj.c y 0 ZN y.1 (fun a=>(a,y.2)):=vj.fst ZN _ y
theorem NP(y:B4):vj Aj.c y 2 ZN y.2.2.1 (fun a=>(y.1,y.2.1,a,y.2.2.2)):=(vj.snd ZN _ y).comp<|(vj.snd (eS eU) _ y.2).comp<|vj.fst ZN _ y.2.2
theorem Og(y:B4):vj Aj.c y 4 Jt y.2.2.2.2.1 (fun a=>(y.1,y.2.1,y.2.2.1,y.2.2.2.1,a,y.2.2.2.2.2)):=(vj.snd ZN _ y).comp<|(vj.snd (eS eU) _ y.2).comp<|(vj.snd ZN _ y.2.2).comp<|(vj.snd eI _ y.2.2.2).comp<|vj.fst Jt _ y.2.2.2.2
theorem OO(y:B4):vj Aj.c y 5 Jt y.2.2.2.2.2 (fun a=>(y.1,y.2.1,y.2.2.1,y.2.2.2.1,y.2.2.2.2.1,a)):=(vj.snd ZN _ y).comp<|(vj.snd (eS eU) _ y.2).comp<|(vj.snd ZN _ y.2.2).comp<|(vj.snd eI _ y.2.2.2).comp<|vj.snd Jt _ y.2.2.2.2
theorem Nu:Ja Tryz.prog 55 0=some 0:=by kernel_rfl
theorem Mm:Ja Tryz.prog 55 2=some 2:=by kernel_rfl
theorem Ml:Ja Tryz.prog 55 4=some 4:=by kernel_rfl
theorem MU:Ja Tryz.prog 55 5=some 5:=by kernel_rfl
theorem gM:jJ Tryz.prog 23 false 1 8 (.pointer none):=jJ.of<|by kernel_rfl
theorem VT:∀(x:Tr) (v:Value) (b:Nat) (ks:List Nat),Ud Tryz.prog 19 [v,.map<|some b].toArray [Xd b ks] [fV Jt x v] (fun _:Unit=> .tuple #[]) (fun _=>[Xd b<|na ks<|xT x]) (fun _=>[]) (fun _=>True)
 |.nil,v,b,ks=>by
  refine WQ Tryz.func19 rfl rfl fun we Se F G rest=> ?_;refine sX (p:=v=.pointer none) (fun S w h=>CU h.1) fun hv=> ?_;subst hv;refine xq<|xq<|zR<|xe 1 [(4,.pointer none)] rfl<|xw rfl rfl (sr up rfl)<|yz<|xY rfl<|bJ fun w hw=> ?_
  exact⟨(),fun a ha=>by simp[results,Tryz.f19],trivial,hw.weak fun S w h=>h.2⟩
 |.mk op m c n l r,v,b,ks=>by
  refine WQ Tryz.func19 rfl rfl fun we Se F G rest=> ?_;refine bM (fP Aj (op,m,c,n,l,r) v::G) (fun S w h=>⟨ri rfl h.1,h.2⟩) ?_;refine sX (p:=∃a,v=.pointer (some a)) (fun S w h=>FP h.1) ?_;rintro⟨a,rfl⟩;refine xq<|xq<|zR<|xe 1 [(4,.pointer<|some a)] rfl<|xw rfl rfl (sr up rfl)<|yz<|wc rfl<|Xx<|xq ?_
  have key:∀ks',na ks' (xT l++xT r)=na ks (xT (.mk op m c n l r))->∀rest,T Tryz.prog (Nd.of 30) we Se (Xd b ks'::F) (fP Aj (op,m,c,n,l,r) (.pointer<|some a)::G) (DB<|DB ME) (dE Tryz.prog Tryz.f19 we Se F G (fun _:Unit=> .tuple #[]) (fun _=>[Xd b<|na ks<|xT (.mk op m c n l r)]) (fun _=>[])<|fun _=>True) (L [(0,.pointer<|some a),(1,.map<|some b)] rest):=by
   intro ks' hk rest;refine xq<|zR<|xe 1 [(18,.pointer<|some a)] rfl<|xw rfl rfl (K6 rfl)<|jY rfl rfl (Z7 Ml rfl (Og _)<|fun S w h=>h.1) fun p _=>jY rfl rfl (XN rfl gM<|fun S w h=>h.1) fun vl _=>xe 1 [(22,.map<|some b)] rfl<| ?_
   refine Yp (F:=F) (msc:=[Xd b ks']) (Γc:=[fV Jt l vl]) rfl rfl (by kernel_rfl) (VT l vl b ks') rfl (fun S w h=>⟨h.1,trivial⟩) fun _ _=> ?_;refine yz<|zR<|xe 1 [(24,.pointer<|some a)] rfl<|xw rfl rfl (K6 rfl)<|jY rfl rfl (Z7 MU rfl (OO _)<|fun S w h=>h.2.2.1) fun p2 _=>jY rfl rfl (XN rfl gM<|fun S w h=>h.1) fun vr _=>xe 1 [(28,.map<|some b)] rfl<| ?_
   refine Yp (F:=F) (msc:=[Xd b _]) (Γc:=[fV Jt r vr]) rfl rfl (by kernel_rfl) (VT r vr b _) rfl (fun S w h=>⟨h.1,trivial⟩) fun _ _=> ?_;refine yz fun w hw=>⟨(),fun a ha=>by simp[results,Tryz.f19],trivial,?_⟩;have e:na (na ks'<|xT l) (xT r)=na ks (xT (.mk op m c n l r)):=by rw[<-hk];unfold na;rw[List.foldl_append]
   rw[<-e];exact hw.weak fun S w h=>h.2.2.2.2.2
  refine xq<|zR<|xe 1 [(6,.pointer<|some a)] rfl<|xw rfl rfl (K6 rfl)<|jY rfl rfl (Z7 Nu rfl (OE _)<|fun S w h=>h.1) fun p _=>jY rfl rfl (XN rfl LY<|fun S w h=>h.1) fun vo _=> ?_
  refine K4 (p:=vo=.int .u8 (op:Int)) (fun S w h=>(nV h.1).1) ?_;rintro rfl;refine Er rfl rfl rfl rfl (fun h1=> ?_)<|fun h1=> ?_
  ·have h1:op=118:=by lia
   refine yz<|xY rfl<|zR<|xe 2 [(12,.pointer<|some a),(11,.map<|some b)] rfl<|xw rfl rfl (K6 rfl)<|jY rfl rfl (Z7 Mm rfl (NP _)<|fun S w h=>h.2.2.1) fun p2 _=>jY rfl rfl (XN rfl LY<|fun S w h=>h.1) fun vc _=> ?_
   refine K4 (p:=vc=kU c) (fun S w h=>(nV h.1).1) ?_;rintro rfl;refine mj rfl rfl um uc Oc rfl rfl fun z=> ?_;refine xw rfl rfl (Vp rfl rfl rfl)<|Uk rfl rfl um uc rfl rfl rfl<|yz<|bM (fP Aj (op,m,c,n,l,r) (.pointer<|some a)::G) (fun S w h=>⟨h.2.2.2.2.1,h.2.2.2.2.2⟩) ?_
   exact iE [(0,.pointer<|some a),(1,.map<|some b)] rfl<|key _<|by rw[xT,iq h1];rfl
  ·have h1:op≠118:=by lia
   refine yz<|wc rfl<|Xx<|bM (fP Aj (op,m,c,n,l,r) (.pointer<|some a)::G) (fun S w h=>⟨h.2.2.1,h.2.2.2⟩) ?_
   exact iE [(0,.pointer<|some a),(1,.map<|some b)] rfl<|key _<|by rw[xT,ir h1];rfl
def Dp(c:Nat):Bool:=decide (97<=c) && decide (c<=122)
theorem JW{xs:List Nat}(hn:xs.Nodup)(h:∀c∈xs,Dp c=true):xs.length<=26:=by
 have h1:xs.Perm ((P4 256).filter fun c=>xs.contains c):=(List.perm_ext_iff_of_nodup hn<|S4 _ List.nodup_range).2 fun a=>by
  simp only[PO,PK,TG];exact⟨fun x=>⟨by have:=h a x;simp[Dp]at this;lia,x⟩,fun x=>x.2⟩
 rw[h1.length_eq,<-List.countP_eq_length_filter];exact Pz (List.countP_mono_left (q:=Dp) fun x _ hx=>h x<|by simpa using hx)<|by decide+kernel
theorem Be{xs:List Nat}{t:Tr}(hn:xs.Nodup)(hm:∀c,c∈xs↔c∈xT t)(h:∀c∈xT t,Dp c=true):xs.mergeSort (fun x y=>decide<|x<=y)=J9 t:=by
 refine List.Perm.eq_of_pairwise (le:=fun a b=>a<=b) (fun a b _ _ h1 h2=>Nat.le_antisymm h1 h2) ?_ ((S4 _ List.pairwise_lt_range).imp xab) ?_
 ·exact(List.pairwise_mergeSort (fun a b c h1 h2=>by simp at*;lia) (fun a b=>by simp;lia) xs).imp fun h=>by simpa using h
 ·refine(List.mergeSort_perm ..).trans<|(List.perm_ext_iff_of_nodup hn<|S4 _ List.nodup_range).2 fun a=> ?_;simp only[PO,PK,TG];rw[hm];exact⟨fun x=>⟨by have:=h a x;simp[Dp]at this;lia,x⟩,fun x=>x.2⟩
structure Jn(es:Array MapEntry)(seen:Array Nat)(xs:List Nat):Prop where
 nd:xs.Nodup
 mem:∀c,c∈xs↔∃e∈es.toList,e.key=kU c/\seen.contains e.born=true
theorem Jn.step{ks:List Nat}{es:Array MapEntry}{clock:Nat}{seen:Array Nat}{xs:List Nat}{e:MapEntry}{c:Nat}(h:Jn es seen xs)(hk:KM ks es clock)(he:e∈(leftOf es seen).toList)(hc:e.key=kU c):Jn es (seen.push e.born) (xs++[c]):=by
 obtain⟨h1,h2⟩:=mem_left he;have hb:∀x∈es.toList,x.key=kU c->x=e:=fun x hx hd=>by
  have:=(MapKept.stamped_iff es clock).1 hk.st;have h3:=hk.st.2.2;obtain⟨i,hi,rfl⟩:=Rr hx;obtain⟨j,hj,rfl⟩:=Rr h1;have:i=j:=by
   have hf:i<(es.toList.map (·.key)).length:=by simpa using hi
   have hg:j<(es.toList.map (·.key)).length:=by simpa using hj
   refine(List.getElem_inj (h₀:=hf) (h₁:=hg) h3).1 ?_;rw[List.getElem_map,List.getElem_map,hd,hc]
  subst this;rfl
 refine⟨?_,fun d=> ?_⟩
 ·refine List.nodup_append.2 ⟨h.nd,by simp,fun a ha b hl=> ?_⟩;rw[OZ.1 hl];rintro rfl;obtain⟨x,hx,hd,hs⟩:=(h.mem a).1 ha;rw[hb x hx hd,h2]at hs;cases hs
 ·rw[OX,OZ,h.mem];constructor
  ·rintro(⟨x,hx,hd,hs⟩|rfl)
   ·exact⟨x,hx,hd,by rw[contains_push,hs];rfl⟩
   ·exact⟨e,h1,hc,by rw[contains_push];simp⟩
  ·rintro⟨x,hx,hd,hs⟩;rw[contains_push,R2]at hs;rcases hs with hs|hs
   ·exact .inl ⟨x,hx,hd,hs⟩
   ·right;have:x=e:=born_inj hk.st.2.1 hx h1 (by simpa using hs);rw[this,hc]at hd;exact(Uv hd).symm
theorem Jn.done{ks:List Nat}{es:Array MapEntry}{clock:Nat}{seen:Array Nat}{xs:List Nat}(h:Jn es seen xs)(hk:KM ks es clock)(h0:(leftOf es seen).size=0)(c:Nat):c∈xs↔c∈ks:=by
 rw[h.mem];have:(∃e∈es.toList,e.key=kU c)↔c∈ks:=by
  have h1:(∃e∈es.toList,e.key=kU c)↔kU c∈es.toList.map (·.key):=by simp
  rw[h1,hk.keys,O8];exact⟨fun⟨d,hd,e⟩=>Uv e▸hd,fun hd=>⟨c,hd,rfl⟩⟩
 rw[<-this];exact⟨fun⟨e,h1,h2,_⟩=>⟨e,h1,h2⟩,fun⟨e,h1,h2⟩=>⟨e,h1,h2,all_seen es seen h0 e h1⟩⟩
theorem FZ{P:Program}{N:Nd}{we:World}{Se:Nat->Prop}{ms:List MF}{Γ:List FF}{c:Code}{Q:Qs}{env:yb}{b:Nat}{ks:List Nat}(h:∀es clock,KM ks es clock->T P N we Se (KD b (.map es clock)::ms) Γ c Q env):T P N we Se (Xd b ks::ms) Γ c Q env:=
 fun w hw=>by
  obtain⟨es,clock,hk,h2⟩:=hw.mapX;exact h es clock hk w h2
def Dq(fu:Nat)(x:Tr):Option (List Nat):=bd (vT fu x) fun t=>if t=[]then some []else fO fu x
section
variable{fu:Nat}(hT:zQ Tryz.prog ⟨11,[.d .tr],[.d .tx],fun x=>vT fu x.1,0⟩)(hS:zQ Tryz.prog ⟨20,[.own .ch 5],[.own .ch 5],fun x=>yG fu x.1,1⟩)
 include hT hS
theorem Ae{x:Tr}{v:Value}{r:List Nat}(hM:Dq fu x=some r):Ud Tryz.prog 10 [v].toArray [] [fV Jt x v] (fun u:Value=>u) (fun _=>[]) (fun u=>[fV (eS ZN) r u]) (fun _=>True):=by
 obtain⟨t,ht,hM⟩:=ZP hM;have h1:Ud Tryz.prog 11 [v].toArray [] [fV Jt x v] wQ (fun _=>[]) (fun us=>[fV mF t<|us.headD undef]) (fun us=>us.length=1):=hT.plain rfl (x:=(x,())) ht (vs:=[v]) rfl;refine WQ Tryz.func10 rfl rfl fun we Se F G rest=> ?_;refine xq<|zR<|xe 1 [(2,.slice none 0 0)] rfl<|yz<|xq<|xq<|zR<|xe 1 [(6,v)] rfl ?_
 refine Yp (F:=F) (msc:=[]) (Γc:=[fV Jt x v]) rfl rfl (by kernel_rfl) h1 rfl (fun S w h=>⟨h.1,trivial⟩) fun us hb=> ?_;obtain⟨u,rfl⟩:=P2.1 hb;refine K4 (p:=∃s:ByteArray,u=.string s/\zL s=t) (fun S w h=>let⟨s,a,b,_⟩:=YA h.1;⟨s,a,b⟩) ?_;rintro⟨s,rfl,hs⟩;have hn:zL ⟨#[]⟩=[]:=rfl;by_cases h0:t=[]
 ·rw[iq h0]at hM;cases hM;refine xw (v:=.bool true) rfl rfl (fun w=>(ng (s:=s) rfl w).trans<|by rw[hs,hn,decide_eq_true h0])<|yz<|xY rfl<|xq<|zR<|xe 1 [(2,.slice none 0 0)] rfl<|yz<|bJ fun w hw=> ?_
  exact HO (rs:=[.tmp 2]) (vs:=[.slice none 0 0]) (.slice none 0 0) rfl ⟨rfl,trivial⟩ rfl trivial<|hw.weak fun S w h=>⟨tz,h.2.2⟩
 ·rw[ir h0]at hM;obtain⟨hf,hM⟩:=wK hM;obtain⟨hl,hM⟩:=wK hM;have hl:∀c∈xT x,Dp c=true:=fun c hc=>Pe.1 hl c hc;have hM:J9 x=r:=P9 hM;refine xw (v:=.bool false) rfl rfl (fun w=>(ng (s:=s) rfl w).trans<|by rw[hs,hn,decide_eq_false h0])<|yz<|wc rfl<|Xx ?_
  refine bM (fV Jt x v::G) (fun S w h=>h.2) ?_;refine nB (mO ZN 5 (.slice none 0 0) []::F) (fV Jt x v::G) (fun w hw=>hw.nilO) ?_;refine xq<|zR<|fB rfl rfl fun b=>xe 1 [(3,.map<|some b)] rfl<|yz<|xq<|zR<|xe 2 [(11,.map<|some b),(10,v)] rfl ?_
  refine Yp (F:=mO ZN 5 (.slice none 0 0) []::F) (msc:=[Xd b []]) (Γc:=[fV Jt x v]) rfl rfl (by kernel_rfl) (VT x v b []) rfl (fun S w h=>⟨h.1,trivial⟩) fun _ _=> ?_;refine yz<|bM G (fun S w h=>h.2)<|FZ fun es clock hk=>xq<|zR<|xe 1 [(4,.slice none 0 0)] rfl<|yz<|xq<|xq<|zR<|xe 1 [(13,.map<|some b)] rfl<|mo rfl rfl um rfl fun i=>yz<|VL ?_
  refine Gg (G:=Array Nat×List Nat×Value) (fun g=>⟨KD i (.mapIter (some b) clock g.1 clock)::KD b (.map es clock)::mO ZN 5 g.2.2 g.2.1::F,G,[(14,.pointer<|some ⟨i,0,none⟩),(4,g.2.2)]⟩) (fun g=>Jn es g.1 g.2.1) (fun g=>(leftOf es g.1).size) (#[],[],.slice none 0 0) ⟨List.nodup_nil,fun c=>⟨fun h=>absurd h UV,fun⟨_,_,_,h⟩=>by simp at h⟩⟩ rfl (fun w hw=>hw) ?_;rintro⟨seen,xs,v4⟩ hJ rest2;refine xq<|zR<|sY rfl rfl hk.st.1 rfl (fun h0=> ?_) (fun e he=> ?_)
  ·have hm:∀c,c∈xs↔c∈xT x:=fun c=>(hJ.done hk h0 c).trans ((VB (xT x) []).trans<|by simp);have ha:=JW hJ.nd fun c hc=>hl c<|(hm c).1 hc;have ho:yG fu xs=some r:=by rw[Cr ha hf,Be hJ.nd hm hl,hM]
   have h2:Ud Tryz.prog 20 [v4].toArray [mO ZN 5 v4 xs] [Zn True] (sn 1 1) (fun us=>[mO ZN 5 (us.headD undef) r]) (fun _=>[]) (aK [.own .ch 5] [v4] 1 1):=hS.2 (xs,()) r ho [v4] rfl;refine xe 1 [(16,.bool false)] rfl<|yz<|xq<|wc rfl<|FK (show T Tryz.prog (Nd.of 26) we Se (KD i (.mapIter (some b) clock seen clock)::KD b (.map es clock)::mO ZN 5 v4 xs::F) G (DB<|DB<|DB<|DB<|DB<|DB My) (dE Tryz.prog Tryz.f10 we Se F G (fun u:Value=>u) (fun _=>[]) (fun u=>[fV (eS ZN) r u])<|fun _=>True) _ from ?_)
   refine nB (mO ZN 5 v4 xs::F) G (fun w hw=>(hw.drop (i:=0)).drop (i:=0))<|xq<|zR<|xe 1 [(23,v4)] rfl ?_
   refine Yp (F:=F) (msc:=[mO ZN 5 v4 xs]) (Γc:=[Zn True]) rfl rfl (by kernel_rfl) h2 rfl (fun S w h=>⟨trivial,trivial⟩) fun us hb=> ?_;obtain⟨hp,hq⟩:=hb;obtain⟨u,rfl⟩:=P2.1 hp;obtain rfl:u=v4:=(List.cons.inj hq).1;refine yz<|xq<|zR<|xe 2 [(2,u),(25,u)] rfl<|yz<|bJ fun w hw=> ?_
   exact HO (rs:=[.tmp 2]) (vs:=[u]) u rfl ⟨rfl,trivial⟩ rfl trivial<|(KN 0 hw rfl).weak fun S w h=>h
  ·obtain⟨h1,h2⟩:=mem_left he;obtain⟨c,hc,hg⟩:∃c∈na [] (xT x),kU c=e.key:=by
    have:e.key∈es.toList.map (·.key):=O8.2 ⟨e,h1,rfl⟩;rw[hk.keys]at this;exact O8.1 this
   have hr:=hl c (by have:=(VB (c:=c) (xT x) []).1 hc;simpa using this);have hi:=hJ.step hk he hg.symm;have hu:∀d∈xs++[c],Dp d=true:=fun d hd=>by
    obtain⟨e2,hv,hx,_⟩:=(hi.mem d).1 hd;have:e2.key∈es.toList.map (·.key):=O8.2 ⟨e2,hv,rfl⟩;rw[hk.keys,hx]at this;obtain⟨d',hy,hz⟩:=O8.1 this;rw[<-Uv hz];exact hl d' (by have:=(VB (c:=d') (xT x) []).1 hy;simpa using this)
   have ha:=JW hi.nd hu;rw[O1]at ha;simp only[FS,R1]at ha;have hj:c<256:=by simp[Dp]at hr;lia
   rw[<-hg];refine xe 1 [(16,.bool true)] rfl<|yz<|xq<|xY rfl<|Xx<|VL<|xq<|zR<|mV rfl rfl h1 hk.st.2.1 rfl ?_
   rw[<-hg];refine xe 2 [(5,kU c),(18,kU c)] rfl<|yz<|zR<|xe 2 [(20,kU c),(19,v4)] rfl ?_
   refine jY rfl rfl (EZ (zs:=[c]) (e:=ZN) (vs:=[(0,kU c)]) IM LY (by decide) rfl (by decide) rfl (fun S w h=>⟨rfl,trivial⟩)<|fun S w h=>⟨[kU c],[],rfl,⟨rfl,hj⟩,rfl⟩) fun vl _=> ?_;refine me (xs:=xs) (ys:=[c]) 2 rfl rfl IM LY rfl (by decide) rfl rfl rfl (fun S w h=>h.1) (by simp only[FS,R1];lia) (by simp only[FS,R1];lia) fun v'=> ?_;refine xe 1 [(4,v')] rfl<|yz ?_
   exact oi (seen.push e.born,xs++[c],v') hi (left_shrinks es seen e he) rfl<|fun w hw=>hw.weak fun S w h=>h.2
theorem mW:zQ Tryz.prog ⟨10,[.d .tr],[.d (.l .ch)],fun x=>Dq fu x.1,0⟩:=by
 refine⟨by kernel_rfl,fun x r hM vs hl=> ?_⟩
 match vs,hl with
 |[v],_=>exact(Ae hT hS (x:=x.1) (v:=v) hM).to (fun u=>[u]) (fun _=>rfl) (fun _=>rfl) (fun _ _=>rfl) fun _ _ S w ha=>ha
end
end
section
set_option maxRecDepth 100000
section
open Go.Proofs.Tryz
variable(fu:Nat)
theorem xt:jx ⟨14,[.var (.p .tx (.p .i (.p .i .i))) 40],[.d .ch,.d .b,.var (.p .tx (.p .i (.p .i .i))) 40],fun x=>zC fu x.1,1⟩:=UW (fu:=fu) ⟨[],[],[(1,q1 [(0,.var (.p .tx (.p .i (.p .i .i))) 40)] 0 [(0,.var (.p .tx (.p .i (.p .i .i))) 40)])],[],[],[],[]⟩ func14 (cN) (by kernel_rfl) fun pn x=>by kernel_rfl
def uY:qN:=⟨⟨56,[.var (.p .tx (.p .i (.p .i .i))) 40],[.d .tx,.var (.p .tx (.p .i (.p .i .i))) 40],fun _=>none,1⟩,fun x=>yZ fu x.1⟩
theorem qA:Vo Tryz.prog (uY fu):=gQ (fu:=fu) ⟨[],[(262149,⟨[],[(.n,⟨[(3,.d .i),(24,.d .tx),(28,.d .i),(29,.d .ch),(36,.d .tx),(40,.d .i),(41,.d .ch),(48,.d .i),(49,.d .i),(50,.d .b),(51,.d .b),(0,.var (.p .tx (.p .i (.p .i .i))) 40)],[(21,.al 0),(22,.al 0),(25,.al 0),(26,.al 0),(30,.kb true),(33,.al 0),(34,.al 0),(37,.al 0),(38,.al 0),(42,.kb true),(45,.al 0),(46,.al 0),(59,.kb true)]⟩),(.x 0,⟨[(3,.d .i),(0,.var (.p .tx (.p .i (.p .i .i))) 40)],[]⟩)]⟩)],[(3,q1 [(0,.var (.p .tx (.p .i (.p .i .i))) 40)] 0 [(0,.var (.p .tx (.p .i (.p .i .i))) 40)])],[],[],[],[]⟩ func56 (cC (xt fu)<|cN) (pN) (vN) (by kernel_rfl) fun pn x=>by kernel_rfl
theorem tP:jx ⟨96,[.d au,.d .i],[.d .u],fun x=>Ys fu x.1 x.2.1,0⟩:=sq fu Vn func96<|cN
theorem bE:jx ⟨94,[.d .i,.d .u,.q au,.q au],[.d .u,.d .u],fun x=>Yu fu x.1 x.2.1 x.2.2.1 x.2.2.2.1,0⟩:=sq fu Vn func94<|cC (tP fu)<|cN
theorem Y8:jx ⟨93,[.d .i,.fn [.i,.u] [.u,.u]],[.own .u 64,.d .u],fun x=>qj fu x.1<|fun z0 z1=>x.2.1 (z0,z1,()),0⟩:=sq fu ⟨[],[],[(4,q1 [(7,.d .u),(13,.d .i),(6,.own .u 64)] 0 [(7,.d .u),(6,.own .u 64)])],[],[],[],[]⟩ func93<|cN
theorem Yo:jx ⟨66,[.d au],[.d au],fun x=>Ya fu x.1,0⟩:=sq fu ⟨[],[],[(1,q1 [(0,.d au)] 0 [(0,.d au)])],[],[],[],[]⟩ func66<|cN
theorem jL:jx ⟨66,[.own .u 64],[.own .u 64],fun x=>vk fu x.1,0⟩:=sq fu ⟨[],[],[(1,q1 [(0,.own .u 64)] 0 [(0,.own .u 64)])],[],[],[],[]⟩ func66<|cN
theorem lV:jx ⟨74,[.d au,.d au],[.own .u 64],fun x=>YJ fu x.1 x.2.1,0⟩:=sq fu Vn func74<|cC (jL fu)<|cC (Yo fu)<|cC (Y8 fu)<|cC (bE fu)<|cN
theorem Wm:jx ⟨98,[.d .u,.d .u],[.d .u,.d .u],fun x=>vx fu x.1 x.2.1,0⟩:=sq fu Vn func98<|cN
theorem bq:jx ⟨97,[.d .i,.d .u,.q au,.q .u],[.d .u,.d .u],fun x=>Yw fu x.1 x.2.1 x.2.2.1 x.2.2.2.1,0⟩:=sq fu Vn func97<|cC (Wm fu)<|cN
theorem lJ:jx ⟨75,[.d au,.d .u],[.own .u 64],fun x=>YP fu x.1 x.2.1,0⟩:=sq fu Vn func75<|cC (bq fu)<|cC (Y8 fu)<|cN
theorem cQ:jx ⟨55,[.d .tx],[.own .u 64,.d .i],fun x=>uh fu x.1,0⟩:=sq fu ⟨[],[(131076,⟨[],[(.n,⟨[],[]⟩),(.r,⟨[],[(2,.nil),(3,.ci 2)]⟩)]⟩),(393223,⟨[4],[(.n,⟨[(26,.d (.l .ch)),(27,.d .i),(29,.d .b)],[]⟩)]⟩)],[(5,⟨⟨[(4,.own .u 64),(28,.d .i)],[]⟩,⟨[],[(.x 0,⟨[(4,.own .u 64)],[]⟩),(.r,⟨[],[(2,.nil),(3,.ci 2)]⟩)]⟩⟩)],[],[],[],[]⟩ func55<|cC (lV fu)<|cC (lJ fu)<|cN
def Za:qN:=⟨⟨34,[.var (.p .tx (.p .i (.p .i .i))) 40],[.d au,.var (.p .tx (.p .i (.p .i .i))) 40],fun _=>none,1⟩,fun x=>xa fu x.1⟩
theorem qG:Vo Tryz.prog (Za fu):=gQ (fu:=fu) Vn func34 (cC (cQ fu)<|cN) (pC (qA fu)<|pN) (vN) (by kernel_rfl) fun pn x=>by kernel_rfl
theorem Xp:jx ⟨32,[.d .tx,.d .tx],[.d .b],fun x=>vi fu x.1 x.2.1,0⟩:=Yi
theorem xQ:jx ⟨22,[.var (.p .tx (.p .i (.p .i .i))) 40,.d .tx],[.d .ch,.d .b,.var (.p .tx (.p .i (.p .i .i))) 40],fun x=>zm fu x.1 x.2.1,1⟩:=UW (fu:=fu) Vn func22 (cC (Xp fu)<|cC (xt fu)<|cN) (by kernel_rfl) fun pn x=>by kernel_rfl
def wa(R:((List Nat)×(Int×(Int×Int)))->Option (PX⊕(Tr×((List Nat)×(Int×(Int×Int)))))):qN:=⟨⟨13,[.var (.p .tx (.p .i (.p .i .i))) 40],[.d .tr,.var (.p .tx (.p .i (.p .i .i))) 40],fun _=>none,1⟩,fun x=>R x.1⟩
def ZT(R:((List Nat)×(Int×(Int×Int)))->Option (PX⊕(Tr×((List Nat)×(Int×(Int×Int))))))(fu:Nat):qN:=⟨⟨53,[.var (.p .tx (.p .i (.p .i .i))) 40],[.d .tr,.var (.p .tx (.p .i (.p .i .i))) 40],fun _=>none,1⟩,fun x=>xR R fu x.1⟩
theorem ZQ(R:((List Nat)×(Int×(Int×Int)))->Option (PX⊕(Tr×((List Nat)×(Int×(Int×Int))))))(hR:Vo Tryz.prog (wa R))(fu:Nat):Vo Tryz.prog (ZT R fu):=gQ (fu:=fu) ⟨[],[(196612,⟨[0],[(.n,⟨[(13,.d .b)],[]⟩)]⟩),(327686,⟨[0],[(.n,⟨[(27,.d .b)],[]⟩)]⟩)],[],[],[],[],[]⟩ func53 (cC (xt fu)<|cC (xQ fu)<|cN) (pC (qG fu)<|pC hR<|pN) (vN) (by kernel_rfl) fun pn x=>by kernel_rfl
theorem Jh:jx ⟨73,[.d .tx],[.d .i,.d .er],fun x=>kR fu x.1,0⟩:=WV
def kS:qN:=⟨⟨54,[.var (.p .tx (.p .i (.p .i .i))) 40],[.d .i,.var (.p .tx (.p .i (.p .i .i))) 40],fun _=>none,1⟩,fun x=>xp fu x.1⟩
theorem kX:Vo Tryz.prog (kS fu):=gQ (fu:=fu) Vn func54 (cC (Jh fu)<|cC (xt fu)<|cN) (pC (qA fu)<|pN) (vN) (by kernel_rfl) fun pn x=>by kernel_rfl
def Zz(R:((List Nat)×(Int×(Int×Int)))->Option (PX⊕(Tr×((List Nat)×(Int×(Int×Int))))))(fu:Nat):qN:=⟨⟨33,[.var (.p .tx (.p .i (.p .i .i))) 40],[.d .tr,.var (.p .tx (.p .i (.p .i .i))) 40],fun _=>none,1⟩,fun x=>xi R fu x.1⟩
theorem Zu(R:((List Nat)×(Int×(Int×Int)))->Option (PX⊕(Tr×((List Nat)×(Int×(Int×Int))))))(hR:Vo Tryz.prog (wa R))(fu:Nat):Vo Tryz.prog (Zz R fu):=gQ (fu:=fu) Vn func33 (cC (xQ fu)<|cN) (pC (kX fu)<|pC (ZQ R hR fu)<|pN) (vN) (by kernel_rfl) fun pn x=>by kernel_rfl
def uw(R:((List Nat)×(Int×(Int×Int)))->Option (PX⊕(Tr×((List Nat)×(Int×(Int×Int))))))(fu:Nat):qN:=⟨⟨23,[.var (.p .tx (.p .i (.p .i .i))) 40],[.d .tr,.var (.p .tx (.p .i (.p .i .i))) 40],fun _=>none,1⟩,fun x=>yp R fu x.1⟩
theorem uy(R:((List Nat)×(Int×(Int×Int)))->Option (PX⊕(Tr×((List Nat)×(Int×(Int×Int))))))(hR:Vo Tryz.prog (wa R))(fu:Nat):Vo Tryz.prog (uw R fu):=gQ (fu:=fu) ⟨[],[],[(2,⟨⟨[(3,.d .tr),(0,.var (.p .tx (.p .i (.p .i .i))) 40)],[]⟩,⟨[],[(.r,⟨[(2,.d .tr),(0,.var (.p .tx (.p .i (.p .i .i))) 40)],[]⟩),(.p (0,0),⟨[],[]⟩)]⟩⟩)],[],[],[],[]⟩ func23 (cC (xQ fu)<|cN) (pC (Zu R hR fu)<|pC (qG fu)<|pN) (vN) (by kernel_rfl) fun pn x=>by kernel_rfl
def Yr:qN:=wa<|zo fu
theorem jG:∀fu:Nat,Vo Tryz.prog (Yr fu)
 |0=>Ov (by kernel_rfl) fun _=>rfl
 |fu+1=>gQ (fu:=fu) ⟨[],[(196615,⟨[],[(.n,⟨[(3,.d .tr),(0,.var (.p .tx (.p .i (.p .i .i))) 40)],[]⟩),(.p (0,0),⟨[],[]⟩)]⟩)],[(7,⟨⟨[(3,.d .tr),(6,.d .ch),(7,.d .b),(0,.var (.p .tx (.p .i (.p .i .i))) 40)],[]⟩,⟨[],[(.x 0,⟨[(3,.d .tr),(0,.var (.p .tx (.p .i (.p .i .i))) 40)],[]⟩),(.p (0,0),⟨[],[]⟩)]⟩⟩)],[],[],[],[]⟩ func13 (cC (xQ fu)<|cN) (pC (uy (zo fu) (jG fu) fu)<|pN) (vN) (by kernel_rfl) fun pn x=>by kernel_rfl
theorem WC:jx ⟨6,[.d .tx,.d .i],[.d .tr,.d .i,.d .i],fun x=>wX fu x.1 x.2.1,0⟩:=OD (fu:=fu) ⟨[23],[(131075,⟨[4,5,6],[(.n,⟨[(8,.d .b)],[]⟩)]⟩)],[],[],[],[],[]⟩ Vb func6 (cC (xt fu)<|cN) (pC (jG fu)<|pN) (vN) (by kernel_rfl) fun x=>by kernel_rfl
def Yc:kg:=⟨29,(.p (.l .ch) (.p .i (.p .i .b))),61,.ch,5,4,0,[.tx],fun z ys x=>zI fu z ys x.1⟩
theorem vL:aj Tryz.prog (Yc fu):=gV (fu:=fu) ⟨[],[],[],[],[22],[],[]⟩ func29 (cN) (pN) (vN) (by kernel_rfl) fun pn z ys x=>by kernel_rfl
theorem ju:jx ⟨79,[.own .ch 5],[.own .ch 5],fun x=>yP fu x.1,1⟩:=UW (fu:=fu) ⟨[],[],[(1,q1 [(2,.d .i),(3,.d .i),(0,.own .ch 5)] 0 [(0,.own .ch 5)])],[(3,[])],[],[],[]⟩ func79 (cN) (by kernel_rfl) fun pn x=>by kernel_rfl
theorem K0:jx ⟨68,[.d .u,.d .b],[.d .tx],fun x=>wZ fu x.1 x.2.1,0⟩:=sq fu ⟨[],[],[(2,q1 [(0,.d .u),(5,.own .ch 5)] 0 [(5,.own .ch 5)])],[],[],[],[]⟩ func68<|cC (ju fu)<|cN
set_option maxRecDepth 100000 in
set_option maxHeartbeats 1000000 in
theorem Wa(fu:Nat)(a0:Nat)(qa0:Zg a0)(r0:Int)(H:xl fu a0=some r0):Fn Tryz.prog 48 [uv a0].toArray [] (fun _:Unit=>iv<|r0) (fun _=>[]) (fun _=>kV r0):=by
 unfold xl at H;refine rk func48 rfl rfl fun we Se rest=>xq<|zR<|xe 1 [(2,iv 0)] rfl<|yz<|xq ?_
 obtain⟨s1,hL,Hc⟩:=ZP H;refine NT [(.n,JQ we Se (G:=Nat×Int) (fun(d1,i1)=>(⟨[],[],[(0,uv d1),(2,iv<|i1)]⟩:nT))<|fun(d1,i1)=>(d1,i1)=s1/\Zg d1/\kV i1)] ?_ ⟨?_,trivial⟩
 ·replace H:=hL
  refine xq<|zR<|xe 1 [(3,uv a0)] rfl<|fk rfl rfl rfl rfl (fun h1=> ?_) (fun h1=> ?_)
  ·replace H:=GB h1 H
   refine yz<|xY rfl<|xq<|zR<|xe 1 [(5,uv a0)] rfl ?_
   obtain⟨m1,hf,H⟩:=yI H
   refine xw rfl rfl (QL (c:=(m1:Int)) rfl rfl (R5 _)<|lP hf<|XT (a:=a0))<|xe 1 [(0,uv m1)] rfl<|yz<|zR<|xe 1 [(2,iv 32)] rfl<|yz ?_
   exact gA (m1,32) (TH (P9 H)<|TH (VQ qa0 hf) (show kV (32)by decide)) rfl<|fun w h=>St.weak h<|fun S w h=>trivial
  replace H:=Gu h1 H
  refine yz<|wc rfl<|Xx ?_
  exact gA (a0,0) (TH (P9 H)<|TH qa0 (show kV (0)by decide)) rfl<|fun w h=>St.weak h<|fun S w h=>trivial
 refine tX ?_;rintro⟨d1,i1⟩ ⟨hs,hg,hm⟩ rest;subst hs;replace H:=Hc;clear hL;refine Dz rfl<|xq ?_
 obtain⟨s2,hL,Hc⟩:=ZP H;refine NT [(.n,JQ we Se (G:=Nat×Int) (fun(d2,i2)=>(⟨[],[],[(0,uv d2),(2,iv<|i2)]⟩:nT))<|fun(d2,i2)=>(d2,i2)=s2/\Zg d2/\kV i2)] ?_ ⟨?_,trivial⟩
 ·replace H:=hL
  refine xq<|zR<|xe 1 [(7,uv d1)] rfl<|fk rfl rfl rfl rfl (fun h2=> ?_) (fun h2=> ?_)
  ·replace H:=GB h2 H
   refine yz<|xY rfl<|xq<|zR<|xe 1 [(9,uv d1)] rfl ?_
   obtain⟨m2,hi,H⟩:=yI H
   refine xw rfl rfl (QL (c:=(m2:Int)) rfl rfl (R5 _)<|lP hi<|XT (a:=d1))<|xe 1 [(0,uv m2)] rfl<|yz<|zR<|xe 1 [(11,iv<|i1)] rfl ?_
   obtain⟨x1,hn,ha,H⟩:=kO H
   refine xw rfl rfl (Vp (c:=x1) rfl rfl<|oj hn ha)<|xe 1 [(2,iv<|x1)] rfl<|yz ?_
   exact gA (m2,x1) (TH (P9 H)<|TH (VQ hg hi) ha) rfl<|fun w h=>St.weak h<|fun S w h=>trivial
  replace H:=Gu h2 H
  refine yz<|wc rfl<|Xx ?_
  exact gA (d1,i1) (TH (P9 H)<|TH hg hm) rfl<|fun w h=>St.weak h<|fun S w h=>trivial
 refine tX ?_;rintro⟨d2,i2⟩ ⟨hs,ht,hu⟩ rest;subst hs;replace H:=Hc;clear hL;refine Dz rfl<|xq<|xq<|zR<|xe 1 [(13,uv d2)] rfl<|fk rfl rfl rfl rfl (fun h3=> ?_) (fun h3=> ?_)
 ·replace H:=GB h3 H
  refine yz<|xY rfl<|xq<|zR<|xe 1 [(15,uv d2)] rfl ?_
  obtain⟨m3,ho,H⟩:=yI H
  refine xw rfl rfl (QL (c:=(m3:Int)) rfl rfl (R5 _)<|lP ho<|XT (a:=d2))<|xe 1 [(0,uv m3)] rfl<|yz<|zR<|xe 1 [(17,iv<|i2)] rfl ?_
  obtain⟨x2,hp,hj,H⟩:=kO H
  refine xw rfl rfl (Vp (c:=x2) rfl rfl<|oj hp hj)<|xe 1 [(2,iv<|x2)] rfl<|yz<|xq<|zR<|xe 2 [(20,uv m3),(19,iv<|x2)] rfl ?_
  obtain⟨m4,hd,H⟩:=yI H
  refine xw rfl rfl (jN (c:=(m4:Int)) Tryz.underlying64 Tryz.underlying5 rfl<|YZ hd<|NX _) ?_
  obtain⟨m5,hk,H⟩:=yI H
  refine xw rfl rfl (om (z:=m5) Tryz.underlying9 rfl (by kernel_rfl) rfl (Ux hd) hk)<|xw rfl rfl (jN (c:=(m5:Int)) Tryz.underlying5 Tryz.underlying3 rfl<|Df<|ND<|JV (Ux hd) hk) ?_
  obtain⟨x3,hq,hb,H⟩:=kO H
  refine xw rfl rfl (Vp (c:=x3) rfl rfl<|oj hq hb)<|xe 1 [(2,iv<|x3)] rfl<|yz<|bJ ?_
  obtain rfl:=Iy H
  exact IB () Tryz.results48 rfl hb<|fun S w h=>trivial
 replace H:=Gu h3 H;refine yz<|wc rfl<|Xx<|xq<|zR<|xe 2 [(20,uv d2),(19,iv<|i2)] rfl ?_
 obtain⟨m6,he,H⟩:=yI H;refine xw rfl rfl (jN (c:=(m6:Int)) Tryz.underlying64 Tryz.underlying5 rfl<|YZ he<|NX _) ?_;obtain⟨m7,hl,H⟩:=yI H;refine xw rfl rfl (om (z:=m7) Tryz.underlying9 rfl (by kernel_rfl) rfl (Ux he) hl)<|xw rfl rfl (jN (c:=(m7:Int)) Tryz.underlying5 Tryz.underlying3 rfl<|Df<|ND<|JV (Ux he) hl) ?_
 obtain⟨x4,hr,hc,H⟩:=kO H;refine xw rfl rfl (Vp (c:=x4) rfl rfl<|oj hr hc)<|xe 1 [(2,iv<|x4)] rfl<|yz<|bJ ?_
 obtain rfl:=Iy H;exact IB () Tryz.results48 rfl hc<|fun S w h=>trivial
theorem kZ:jx ⟨48,[.d .u],[.d .i],fun x=>xl fu x.1,0⟩:=Gl (by kernel_rfl) fun x r hx h=>Wa fu x hx r h
theorem kA:jx ⟨99,[.d .u],[.d .i],fun x=>xk fu x.1,0⟩:=sq fu Vn func99<|cC (kZ fu)<|cN
theorem XC:jx ⟨78,[.d .u,.d .u,.d .u],[.d .u,.d .u],fun x=>vy fu x.1 x.2.1 x.2.2.1,0⟩:=sq fu ⟨[],[],[(17,q1 [(15,.d .u),(16,.d .u)] 0 [(15,.d .u)]),(24,q1 [(16,.d .u),(18,.d .u)] 2 [(18,.d .u)])],[],[],[],[]⟩ func78<|cC (kA fu)<|cN
theorem dq:jx ⟨67,[.d au,.d .u],[.own .u 64,.d .u],fun x=>uo fu x.1 x.2.1,0⟩:=sq fu ⟨[],[],[(3,q1 [(7,.d .u),(8,.d .i),(6,.own .u 64)] 0 [(7,.d .u),(6,.own .u 64)])],[],[],[],[]⟩ func67<|cC (jL fu)<|cC (Yo fu)<|cC (XC fu)<|cN
theorem qI:jx ⟨69,[.own .tx 9],[.own .tx 9],fun x=>yB fu x.1,1⟩:=UW (fu:=fu) ⟨[],[],[(1,q1 [(2,.d .i),(3,.d .i),(0,.own .tx 9)] 0 [(0,.own .tx 9)])],[(3,[])],[],[],[]⟩ func69 (cN) (by kernel_rfl) fun pn x=>by kernel_rfl
theorem Je:jx ⟨70,[.d (.l .tx),.d .tx],[.d .tx],fun x=>kG fu x.1 x.2.1,0⟩:=tT (by kernel_rfl) Tryz.strings_Join_none Tryz.strings_Join
theorem fK:jx ⟨49,[.d au],[.d .tx],fun x=>ZB fu x.1,0⟩:=sq fu ⟨[],[],[(3,q1 [(0,.d au),(3,.own .tx 9)] 0 [(3,.own .tx 9)])],[],[],[],[]⟩ func49<|cC (jL fu)<|cC (Yo fu)<|cC (dq fu)<|cC (K0 fu)<|cC (qI fu)<|cC (Je fu)<|cN
def uR:kg:=⟨28,(.p (.l .ch) (.p .i (.p .i .b))),61,.ch,5,4,0,[au],fun z ys x=>xc fu z ys x.1⟩
theorem uU:aj Tryz.prog (uR fu):=gV (fu:=fu) Vn func28 (cC (fK fu)<|cN) (pN) (vC (vL fu)<|vN) (by kernel_rfl) fun pn z ys x=>by kernel_rfl
theorem ae:jx ⟨50,[.d .tr],[.d .i],fun x=>Zh fu x.1,0⟩:=sq fu Vn func50<|cN
def qY(R:((List Nat)×(Int×(Int×Bool)))->List Nat->Tr->Option (((List Nat)×(Int×(Int×Bool)))×List Nat)):kg:=⟨21,(.p (.l .ch) (.p .i (.p .i .b))),61,.ch,5,4,0,[.tr],fun z ys x=>R z ys x.1⟩
def uH(R:((List Nat)×(Int×(Int×Bool)))->List Nat->Tr->Option (((List Nat)×(Int×(Int×Bool)))×List Nat))(fu:Nat):kg:=⟨30,(.p (.l .ch) (.p .i (.p .i .b))),61,.ch,5,4,0,[.tr,.i],fun z ys x=>zJ R fu z ys x.1 x.2.1⟩
theorem Zb(R:((List Nat)×(Int×(Int×Bool)))->List Nat->Tr->Option (((List Nat)×(Int×(Int×Bool)))×List Nat))(hR:aj Tryz.prog (qY R))(fu:Nat):aj Tryz.prog (uH R fu):=gV (fu:=fu) ⟨[],[(262149,⟨[],[(.n,⟨[(0,.vr (.p (.l .ch) (.p .i (.p .i .b))) 61 .ch 5 4 0)],[]⟩)]⟩)],[],[],[],[],[]⟩ func30 (cC (ae fu)<|cN) (pN) (vC (vL fu)<|vC hR<|vN) (by kernel_rfl) fun pn z ys x=>by kernel_rfl
theorem Uw:jx ⟨27,[.d .tr],[.d .b],fun x=>va fu x.1,0⟩:=sq fu ⟨[],[(262164,⟨[],[(.n,⟨[(4,.d .i),(3,.var DZ 55)],[]⟩),(.r,⟨[],[(2,.kb false)]⟩)]⟩),(393223,⟨[3],[(.n,⟨[(0,.d .tr),(15,.d .b)],[]⟩)]⟩),(524297,⟨[3],[(.n,⟨[(22,.d .b)],[]⟩)]⟩),(655371,⟨[3],[(.n,⟨[(29,.d .b)],[]⟩)]⟩),(786445,⟨[3],[(.n,⟨[(36,.d .b)],[]⟩)]⟩),(1310741,⟨[3],[(.n,⟨[(5,.d .b)],[]⟩)]⟩)],[],[],[],[],[]⟩ func27<|cN
theorem VW:jx ⟨31,[.d .i],[.d .tx],fun x=>kC fu x.1,0⟩:=W3
def ZO:kg:=qY<|zB fu
theorem qX:∀fu:Nat,aj Tryz.prog (ZO fu)
 |0=>N6 (by kernel_rfl) fun _ _ _=>rfl
 |fu+1=>gV (fu:=fu) ⟨[],[(131076,⟨[],[(.n,⟨[(0,.vr (.p (.l .ch) (.p .i (.p .i .b))) 61 .ch 5 4 0)],[]⟩),(.r,⟨[(0,.vr (.p (.l .ch) (.p .i (.p .i .b))) 61 .ch 5 4 0)],[]⟩)]⟩),(524297,⟨[0],[(.n,⟨[(58,.d .b)],[]⟩)]⟩),(655371,⟨[0],[(.n,⟨[(66,.d .b)],[]⟩)]⟩),(786445,⟨[0],[(.n,⟨[(76,.d .b)],[]⟩)]⟩),(983056,⟨[0],[(.n,⟨[(86,.d .b)],[]⟩)]⟩),(1179667,⟨[0],[(.n,⟨[(102,.d .b)],[]⟩)]⟩),(1441815,⟨[0],[(.n,⟨[(118,.d .b)],[]⟩)]⟩)],[],[],[],[],[]⟩ func21 (cC (Uw fu)<|cC (VW fu)<|cN) (pN) (vC (uU fu)<|vC (vL fu)<|vC (Zb (zB fu) (qX fu) fu)<|vN) (by kernel_rfl) fun pn z ys x=>by kernel_rfl
theorem Vi:jx ⟨11,[.d .tr],[.d .tx],fun x=>vT fu x.1,0⟩:=gF (fu:=fu) ⟨[],[],[],[],[],[],[(6,0,5),(7,0,5)]⟩ func11 (cN) (pN) (vC (qX fu)<|vN) (by kernel_rfl) fun x=>by kernel_rfl
theorem Jz:jx ⟨5,[],[.d .b],fun x=>jl fu,0⟩:=sq fu Vn func5<|cC (Vi fu)<|cC (WC fu)<|cN
def Ji:jo:=⟨9,[.d .tr,.d .i],[.d .tr],fun x=>xP fu x.1 x.2.1,0⟩
theorem Yv:∀fu:Nat,jx (Ji fu)
 |0=>ML (by kernel_rfl) fun _=>rfl
 |fu+1=>sq fu Vn func9<|cC (Yv fu)<|cN
theorem K2:jx ⟨18,[.d au,.d au],[.d .b],fun x=>ke fu x.1 x.2.1,0⟩:=sq fu ⟨[],[],[(4,⟨⟨[(5,.d .i)],[]⟩,⟨[],[(.x 0,⟨[],[]⟩),(.r,⟨[],[(4,.kb false)]⟩)]⟩⟩)],[],[],[],[]⟩ func18<|cN
def Uz:jo:=⟨8,[.d .tr,.d .tr],[.d .b],fun x=>vX fu x.1 x.2.1,0⟩
theorem WE:∀fu:Nat,jx (Uz fu)
 |0=>ML (by kernel_rfl) fun _=>rfl
 |fu+1=>sq fu Vn func8<|cC (WE fu)<|cC (K2 fu)<|cN
theorem ZL:jx ⟨26,[.d .u],[.d .i],fun x=>vm fu x.1,0⟩:=sq fu Vn func26<|cC (kZ fu)<|cN
theorem Vh:jx ⟨65,[.d .ch],[.d .b],fun x=>vW fu x.1,0⟩:=sq fu Vn func65<|cN
theorem xE:jx ⟨44,[.d .ch,.d .ch],[.d .b],fun x=>zp fu x.1 x.2.1,0⟩:=sq fu Vn func44<|cC (Vh fu)<|cN
theorem kT:jx ⟨62,[.var .u 96],[.d .u,.var .u 96],fun x=>xU fu x.1,1⟩:=UW (fu:=fu) Vn func62 (cN) (by kernel_rfl) fun pn x=>by kernel_rfl
theorem uM:jx ⟨61,[.d .i],[.d .u],fun x=>xC fu x.1,0⟩:=sq fu Vn func61<|cC (ZL fu)<|cN
theorem qa:jx ⟨40,[.own .ch 5,.d .i,.d .i],[.own .ch 5],fun x=>zU fu x.1 x.2.1 x.2.2.1,1⟩:=UW (fu:=fu) ⟨[],[(131075,⟨[0],[(.n,⟨[(15,.d .b)],[]⟩)]⟩),(589835,⟨[0,7],[(.n,⟨[(1,.d .i),(6,.d .i),(8,.d .u),(10,.d .i)],[]⟩)]⟩)],[(5,q1 [(9,.d .i),(0,.own .ch 5),(7,.var .u 96)] 0 [(0,.own .ch 5)])],[(10,[])],[],[],[]⟩ func40 (cC (uM fu)<|cC (kT fu)<|cN) (by kernel_rfl) fun pn x=>by kernel_rfl
theorem jj:jx ⟨77,[.own .ch 5,.d .i,.d .i,.var .i 3],[.d .i,.d .i,.own .ch 5,.var .i 3],fun x=>z6 fu x.1 x.2.1 x.2.2.1 x.2.2.2.1,2⟩:=UW (fu:=fu) Vn func77 (cC (xE fu)<|cN) (by kernel_rfl) fun pn x=>by kernel_rfl
theorem wE:jx ⟨64,[.own .ch 5,.d .i,.d .i,.d .i,.var .i 3],[.d .i,.own .ch 5,.var .i 3],fun x=>zZ fu x.1 x.2.1 x.2.2.1 x.2.2.2.1 x.2.2.2.2.1,2⟩:=UW (fu:=fu) Vn func64 (cC (jj fu)<|cN) (by kernel_rfl) fun pn x=>by kernel_rfl
theorem vH:jx ⟨63,[.own .ch 5,.d .i,.var .i 3],[.d .i,.own .ch 5,.var .i 3],fun x=>ym fu x.1 x.2.1 x.2.2.1,2⟩:=UW (fu:=fu) Vn func63 (cC (wE fu)<|cN) (by kernel_rfl) fun pn x=>by kernel_rfl
theorem qm:jx ⟨41,[.own .ch 5,.d .i,.d .i],[.d .i,.d .i,.own .ch 5],fun x=>zK fu x.1 x.2.1 x.2.2.1,1⟩:=UW (fu:=fu) Vn func41 (cC (wE fu)<|cC (vH fu)<|cN) (by kernel_rfl) fun pn x=>by kernel_rfl
theorem qO:jx ⟨60,[.own .ch 5,.d .i,.d .i,.d .i],[.own .ch 5],fun x=>yn fu x.1 x.2.1 x.2.2.1 x.2.2.2.1,1⟩:=UW (fu:=fu) ⟨[],[(262150,⟨[0],[(.n,⟨[(2,.d .i),(3,.d .i),(9,.d .i)],[]⟩)]⟩)],[(1,⟨⟨[(8,.d .i),(0,.own .ch 5)],[]⟩,⟨[],[(.x 0,⟨[(0,.own .ch 5)],[]⟩),(.r,⟨[(0,.own .ch 5)],[]⟩)]⟩⟩)],[(6,[])],[],[],[]⟩ func60 (cC (xE fu)<|cN) (by kernel_rfl) fun pn x=>by kernel_rfl
theorem qM:jx ⟨39,[.own .ch 5,.d .i,.d .i],[.own .ch 5],fun x=>yj fu x.1 x.2.1 x.2.2.1,1⟩:=UW (fu:=fu) ⟨[],[],[(4,q1 [(9,.d .i),(0,.own .ch 5)] 0 [(0,.own .ch 5)]),(8,q1 [(10,.d .i),(0,.own .ch 5)] 2 [(0,.own .ch 5)])],[(10,[])],[],[],[]⟩ func39 (cC (qO fu)<|cN) (by kernel_rfl) fun pn x=>by kernel_rfl
theorem vY:jx ⟨38,[.own .ch 5,.d .i,.d .i],[.own .ch 5],fun x=>zT fu x.1 x.2.1 x.2.2.1,1⟩:=UW (fu:=fu) ⟨[],[],[(1,q1 [(6,.d .i),(0,.own .ch 5)] 0 [(0,.own .ch 5)]),(4,q1 [(1,.d .i),(2,.d .i),(7,.d .i),(0,.own .ch 5)] 2 [(1,.d .i),(2,.d .i),(0,.own .ch 5)])],[(6,[])],[],[],[]⟩ func38 (cC (xE fu)<|cN) (by kernel_rfl) fun pn x=>by kernel_rfl
theorem wA:jx ⟨43,[.own .ch 5,.d .i,.d .i],[.d .b,.own .ch 5],fun x=>zi fu x.1 x.2.1 x.2.2.1,1⟩:=UW (fu:=fu) ⟨[],[(851987,⟨[],[(.n,⟨[(0,.own .ch 5)],[]⟩)]⟩),(851982,⟨[0],[(.n,⟨[(1,.d .i),(2,.d .i),(7,.d .i),(8,.d .i),(61,.d .b)],[]⟩)]⟩),(1245204,⟨[0],[(.n,⟨[(98,.d .b)],[]⟩)]⟩)],[(3,⟨⟨[(7,.d .i),(8,.d .i),(0,.own .ch 5)],[]⟩,⟨[],[(.x 0,⟨[(0,.own .ch 5)],[]⟩),(.r,⟨[(6,.d .b),(0,.own .ch 5)],[]⟩)]⟩⟩),(5,⟨⟨[(1,.d .i),(2,.d .i),(7,.d .i)],[]⟩,⟨[0],[(.x 2,⟨[(1,.d .i),(2,.d .i),(7,.d .i)],[]⟩)]⟩⟩),(14,q1 [(9,.d .i),(0,.own .ch 5)] 4 [(0,.own .ch 5)]),(20,q1 [(10,.d .i),(0,.own .ch 5)] 6 [(0,.own .ch 5)])],[(11,[]),(17,[]),(23,[])],[],[],[]⟩ func43 (cC (xE fu)<|cN) (by kernel_rfl) fun pn x=>by kernel_rfl
theorem vG:jx ⟨45,[.own .ch 5,.d .i,.d .i,.d .i],[.d .i,.own .ch 5],fun x=>zz fu x.1 x.2.1 x.2.2.1 x.2.2.2.1,1⟩:=UW (fu:=fu) ⟨[],[],[(40003,q1 [(9,.d .i),(10,.d .i),(0,.own .ch 5)] 0 [(9,.d .i),(0,.own .ch 5)]),(3,⟨⟨[(1,.d .i),(9,.d .i)],[]⟩,⟨[0],[(.x 2,⟨[(1,.d .i),(9,.d .i)],[]⟩)]⟩⟩),(5,⟨⟨[(10,.d .i)],[]⟩,⟨[0],[(.x 4,⟨[(10,.d .i)],[]⟩)]⟩⟩)],[(1,[]),(8,[])],[],[],[]⟩ func45 (cC (xE fu)<|cN) (by kernel_rfl) fun pn x=>by kernel_rfl
theorem qJ:jx ⟨46,[.own .ch 5,.d .i,.d .i,.d .i],[.d .i,.d .b,.own .ch 5],fun x=>zA fu x.1 x.2.1 x.2.2.1 x.2.2.2.1,1⟩:=UW (fu:=fu) ⟨[],[(524297,⟨[0],[(.n,⟨[(65,.d .b)],[]⟩)]⟩)],[(3,⟨⟨[(10,.d .i)],[]⟩,⟨[0],[(.x 0,⟨[(10,.d .i)],[]⟩)]⟩⟩),(5,⟨⟨[(11,.d .i)],[]⟩,⟨[0],[(.x 2,⟨[(11,.d .i)],[]⟩)]⟩⟩),(40013,q1 [(10,.d .i),(11,.d .i),(0,.own .ch 5)] 4 [(11,.d .i),(0,.own .ch 5)]),(13,⟨⟨[(1,.d .i),(10,.d .i)],[]⟩,⟨[0],[(.x 6,⟨[(1,.d .i),(10,.d .i)],[]⟩)]⟩⟩),(15,⟨⟨[(11,.d .i)],[]⟩,⟨[0],[(.x 8,⟨[(11,.d .i)],[]⟩)]⟩⟩)],[(1,[]),(8,[]),(10,[]),(18,[]),(21,[])],[],[],[]⟩ func46 (cC (xE fu)<|cN) (by kernel_rfl) fun pn x=>by kernel_rfl
theorem qf:jx ⟨42,[.own .ch 5,.d .i,.d .i],[.own .ch 5],fun x=>zE fu x.1 x.2.1 x.2.2.1,1⟩:=UW (fu:=fu) ⟨[],[],[(2,q1 [(6,.d .i),(7,.d .i),(0,.own .ch 5)] 0 [(0,.own .ch 5)])],[(3,[])],[],[],[]⟩ func42 (cN) (by kernel_rfl) fun pn x=>by kernel_rfl
def qV:jo:=⟨25,[.own .ch 5,.d .i,.d .i,.d .i],[.own .ch 5],fun x=>zW fu x.1 x.2.1 x.2.2.1 x.2.2.2.1,1⟩
theorem wq:∀fu:Nat,jx (qV fu)
 |0=>ML (by kernel_rfl) fun _=>rfl
 |fu+1=>UW (fu:=fu) ⟨[],[(786448,⟨[],[(.n,⟨[(11,.d .i),(12,.d .i),(0,.own .ch 5)],[]⟩)]⟩),(1048594,⟨[],[(.n,⟨[(0,.own .ch 5)],[]⟩),(.r,⟨[(0,.own .ch 5)],[]⟩)]⟩),(1179669,⟨[],[(.n,⟨[(1,.d .i),(0,.own .ch 5)],[]⟩),(.x 1,⟨[(1,.d .i),(77,.d .i),(78,.d .i),(80,.d .ch),(82,.d .i),(84,.d .ch),(85,.d .b),(86,.d .b),(0,.own .ch 5)],[(76,.al 0),(81,.al 0)]⟩)]⟩)],[(2,⟨⟨[(1,.d .i),(2,.d .i),(3,.d .i),(8,.d .b),(9,.d .b),(0,.own .ch 5)],[]⟩,⟨[],[(.r,⟨[(0,.own .ch 5)],[]⟩)]⟩⟩)],[],[],[],[]⟩ func25 (cC (vY fu)<|cC (qM fu)<|cC (qa fu)<|cC (qm fu)<|cC (qf fu)<|cC (wA fu)<|cC (xE fu)<|cC (vG fu)<|cC (qJ fu)<|cC (wq fu)<|cN) (by kernel_rfl) fun pn x=>by kernel_rfl
theorem kI:jx ⟨20,[.own .ch 5],[.own .ch 5],fun x=>yG fu x.1,1⟩:=UW (fu:=fu) Vn func20 (cC (wq fu)<|cC (ZL fu)<|cN) (by kernel_rfl) fun pn x=>by kernel_rfl
theorem U7:jx ⟨10,[.d .tr],[.d (.l .ch)],fun x=>vZ fu x.1,0⟩:=mW (Vi fu)<|kI fu
theorem Xy:jx ⟨4,[.d .tx,.d .i],[.d .b],fun x=>vb fu x.1 x.2.1,0⟩:=sq fu ⟨[],[(983057,⟨[],[(.n,⟨[],[]⟩),(.r,⟨[],[(4,.kb false)]⟩)]⟩),(1572890,⟨[],[(.n,⟨[(0,.d .tx),(5,.d .b),(9,.d .tr),(12,.d .tr),(15,.d (.l .ch))],[]⟩),(.r,⟨[],[(4,.kb false)]⟩)]⟩)],[(6,q1 [(6,.own .ch 5),(7,.d .i)] 0 [(6,.own .ch 5)]),(21,⟨⟨[(16,.d .i),(17,.d .i)],[]⟩,⟨[],[(.x 2,⟨[(16,.d .i)],[]⟩),(.r,⟨[],[(4,.kb false)]⟩)]⟩⟩),(27,q1 [(18,.d .b),(19,.d .i)] 4 [(18,.d .b)]),(35,q1 [(20,.d .i),(21,.d .ch)] 6 [(20,.d .i)]),(38,q1 [(0,.d .tx),(5,.d .b),(9,.d .tr),(12,.d .tr),(16,.d .i),(20,.d .i),(22,.d .i)] 8 [(0,.d .tx),(5,.d .b),(9,.d .tr),(12,.d .tr),(16,.d .i),(20,.d .i)])],[],[],[],[]⟩ func4<|cC (Jz fu)<|cC (WC fu)<|cC (WE fu)<|cC (Yv fu)<|cC (U7 fu)<|cN
end
end
section
variable{fu:Nat}
theorem eY{s:Tx}{i:Nat}(h:i<s.length):s.drop i=s.getD i 0::s.drop (i+1):=by rw[R0 h];simp[h]
def Ao(s:Tx)(i:Nat):Bool:=decide (0<i) && yU (s.getD (i-1) 0)
theorem fc{s:Tx}(hs:s.length<=300):∀(n i k:Nat) (t1:Tx),s.length-i<=n->i<=s.length->t1.length<=2*i->n<k->
 ∃t',zn (xZ fu s) k (t1,(i:Int))=some t'/\t'++[32]=t1++yi (Ao s i) (s.drop i)/\t'.length<=600
 |n,i,k+1,t1,hn,hi,ht,hk=>by
  rw[yf,xZ];by_cases h:i<s.length
  ·have ha:s.drop i=s.getD i 0::s.drop (i+1):=eY h;have hb:Ao s (i+1)=yU (s.getD i 0):=by unfold Ao;simp
   have els:(¬(Ao s i=true/\yU (s.getD i 0)=true))->∃t',(∀X:Option Tx,X=(ck ((t1.length+([(32:Nat)]).length)*1<=140737488355328)<|nm (t1++([(32:Nat)])) fun t3=>zy (i:Int) s.length fun j6=>nm (s.getD j6 0) fun m6=>ck ((t3.length+([m6]).length)*1<=140737488355328)<|nm (t3++([m6])) fun t4=>zb ((i:Int)+1) fun x4=>zn (xZ fu s) k (t4,x4))->X=some t')/\t'++[32]=t1++yi (Ao s i) (s.drop i)/\t'.length<=600:=fun hc=>by
    obtain⟨t',h1,h2,h3⟩:=fc hs (n-1) (i+1) k (t1++[32]++[s.getD i 0]) (by lia) (by lia) (by simp;lia) (by lia);refine⟨t',fun X hX=> ?_,?_,h3⟩
    ·rw[hX,vE (by simp;lia),wB,xd h,wB,vE (by simp;lia),wB,zk ((i+1:Nat):Int) (by lia) ⟨by lia,by lia⟩];exact h1
    ·rw[h2,ha,yi,ir hc,hb];simp
   rw[vq];by_cases h0:0<i
   ·rw[vq,xd h,wB];by_cases c1:48<=s.getD i 0
    ·rw[vq,xd h,wB];by_cases c2:s.getD i 0<=57
     ·rw[vq,zk ((i-1:Nat):Int) (by lia) ⟨by lia,by lia⟩,ye,wB];by_cases c3:48<=s.getD (i-1) 0
      ·rw[vq,zk ((i-1:Nat):Int) (by lia) ⟨by lia,by lia⟩,ye,wB];by_cases c4:s.getD (i-1) 0<=57
       ·rw[vq,xd h,wB,vE (by simp;lia),wB,zk ((i+1:Nat):Int) (by lia) ⟨by lia,by lia⟩];obtain⟨t',h1,h2,h3⟩:=fc hs (n-1) (i+1) k (t1++[s.getD i 0]) (by lia) (by lia) (by simp;lia) (by lia);refine⟨t',h1,?_,h3⟩;have e1:Ao s i=true:=by unfold Ao;rw[xI.2 ⟨c3,c4⟩,decide_eq_true h0];rfl
        have e2:yU (s.getD i 0)=true:=xI.2 ⟨c1,c2⟩;rw[h2,ha,yi,if_pos ⟨e1,e2⟩,hb,e2];simp
       ·rw[xb];obtain⟨t',h1,h2⟩:=els fun hh=>by have:=hh.1;unfold Ao at this;rw[IR]at this;exact c4 (xI.1 this.2).2
        exact⟨t',h1 _ rfl,h2⟩
      ·rw[xb];obtain⟨t',h1,h2⟩:=els fun hh=>by have:=hh.1;unfold Ao at this;rw[IR]at this;exact c3 (xI.1 this.2).1
       exact⟨t',h1 _ rfl,h2⟩
     ·rw[xb];obtain⟨t',h1,h2⟩:=els fun hh=>c2 (xI.1 hh.2).2;exact⟨t',h1 _ rfl,h2⟩
    ·rw[xb];obtain⟨t',h1,h2⟩:=els fun hh=>c1 (xI.1 hh.2).1;exact⟨t',h1 _ rfl,h2⟩
   ·rw[xb];obtain⟨t',h1,h2⟩:=els fun hh=>by have:=hh.1;unfold Ao at this;rw[IR]at this;exact h0<|of_decide_eq_true this.1
    exact⟨t',h1 _ rfl,h2⟩
  ·rw[xb];have:s.drop i=[]:=RY (by lia);exact⟨t1,rfl,by rw[this];rfl,by lia⟩
theorem mq:vZ fu .nil=some []:=rfl
theorem VN:∀t:Tr,Gt t->∀c∈xT t,je c=true
 |.nil,h,_,_=>h.elim
 |.mk op m d i l r,h,c,hc=>by
  rw[xT]at hc;have il:=VN l;have ir:=VN r;unfold Gt at h;rcases h with⟨rfl,_,_,rfl,rfl,_⟩|⟨rfl,_,h,_,rfl,rfl⟩|⟨rfl,_,_,_,h,rfl⟩|⟨rfl,_,_,_,_,h,rfl⟩|⟨rfl,_,_,_,h,rfl⟩|⟨rfl,_,_,_,h,h2⟩|⟨ho,_,_,_,h,h2⟩
  ·simp[xT]at hc
  ·simp[xT]at hc;rw[hc];exact h
  ·simp[xT]at hc;exact il h c hc
  ·simp[xT]at hc;exact il h c hc
  ·simp[xT]at hc;exact il h c hc
  ·simp at hc;rcases hc with hc|hc;exact il h c hc;exact ir h2 c hc
  ·rw[xb]at hc;simp at hc;rcases hc with hc|hc;exact il h c hc;exact ir h2 c hc
theorem sy{t:Tr}(hf:3005000<=fu)(h:Gt t)(hb:br t<=100)(hl:(tx t).length<=4096):vZ fu t=some (J9 t):=by
 have hp:=Wg t h;have ha:tx t≠[]:=fun e=>by
  rw[e]at hp
  cases t with
  |nil=>exact h
  |mk=>simp[nd]at hp
 unfold vZ;rw[A7 hf h hb hl,zF,ir ha,fO,Vu];exact vE<|Pe.2 fun c hc=>VN t h c hc
theorem IL{s l:Tx}{j:Nat}(hj:j<l.length)(hs:s.length<=300):∀(n i k:Nat) (b:Bool),s.length-i<=n->i<=s.length->n<k->zn (vK fu (j:Int) s l) k (b,(i:Int))=some (b||(s.drop i).contains (l.getD j 0))
 |n,i,k+1,b,hn,hi,hk=>by
  rw[yf,vK];by_cases h:i<s.length
  ·have ha:s.drop i=s.getD i 0::s.drop (i+1):=eY h;have ih:=fun b=>IL hj hs (n-1) (i+1) k b (by lia) (by lia) (by lia);rw[vq,ha,List.contains_cons];cases b
   ·rw[ir (by decide),xd h,wB,xd hj,wB];by_cases he:s.getD i 0=l.getD j 0
    ·rw[vq,zk ((i+1:Nat):Int) (by lia) ⟨by lia,by lia⟩,ih,he];simp
    ·rw[xb,zk ((i+1:Nat):Int) (by lia) ⟨by lia,by lia⟩,ih];have:(l.getD j 0==s.getD i 0)=false:=by simpa using fun e=>he e.symm
     rw[this];simp
   ·rw[iq rfl,zk ((i+1:Nat):Int) (by lia) ⟨by lia,by lia⟩,ih];simp
  ·rw[xb];have:s.drop i=[]:=RY (by lia);rw[this];simp
theorem Dn{s l:Tx}{c1:Bool}{q1 q2:Tr}(hs:s.length<=300)(hl:l.length<=256)(hr:∀i,i+1<l.length->l.getD i 0<l.getD (i+1) 0)(ha:∀i,i<l.length->s.contains (l.getD i 0)=true)(hf:1000<=fu):
 ∀(n i k:Nat),l.length-i<=n->i<=l.length->n<k->zn (vJ fu s c1 q1 q2 l) k ((i:Int),(i:Int))=some (.inl (l.length:Int))
 |n,i,k+1,hn,hi,hk=>by
  rw[yf,vJ];by_cases h:i<l.length
  ·have ih:=Dn (c1:=c1) (q1:=q1) (q2:=q2) hs hl hr ha hf (n-1) (i+1) k (by lia) (by lia) (by lia);have hb:=IL (fu:=fu) (s:=s) h hs 300 0 fu false (by lia) (by lia) (by lia);rw[vq];have e:(if(0:Int)<(i:Int)then zb ((i:Int)-1) fun x13=>zy x13 l.length fun j11=>nm (l.getD j11 0) fun y1=>zy (i:Int) l.length fun j12=>nm (l.getD j12 0) fun y2=>if(y2:Int)<=(y1:Int)then some (.inr ())else some (.inl (s,c1,q1,q2,l))else some (.inl (s,c1,q1,q2,l)):Option ((Tx×Bool×Tr×Tr×Tx)⊕Unit))=some (.inl (s,c1,q1,q2,l)):=by
    by_cases h0:0<i
    ·have:=hr (i-1) (by lia);rw[show i-1+1=i by lia]at this;rw[vq,zk ((i-1:Nat):Int) (by lia) ⟨by lia,by lia⟩,ye,wB,xd h,wB,xb]
    ·rw[xb]
   rw[e,zF];simp only;refine(zq hb).trans ?_;have hd:s.drop 0=s:=rfl;rw[hd,ha i h,ir (by decide),zk ((i+1:Nat):Int) (by lia) ⟨by lia,by lia⟩,zk ((i+1:Nat):Int) (by lia) ⟨by lia,by lia⟩];exact ih
  ·rw[xb];rw[show i=l.length by lia]
theorem C7{s:Tx}{c:Nat}{b:Bool}{q1 q2:Tr}{i7:Int}{m:Nat}(hs:s.length<=300)(hm:m<1000):∀(n i k:Nat),s.length-i<=n->i<=s.length->n<k->
 zn (vS fu c) k (s,b,q1,q2,i7,(m:Int),(i:Int))=some (s,b,q1,q2,i7,((m+if(s.drop i).contains c then 1 else 0:Nat):Int))
 |n,i,k+1,hn,hi,hk=>by
  rw[yf,vS];by_cases h:i<s.length
  ·have ha:s.drop i=s.getD i 0::s.drop (i+1):=eY h;rw[vq,xd h,wB,ha,List.contains_cons];by_cases he:s.getD i 0=c
   ·rw[vq,zk ((m+1:Nat):Int) (by lia) ⟨by lia,by lia⟩,he];simp
   ·rw[xb,zk ((i+1:Nat):Int) (by lia) ⟨by lia,by lia⟩,C7 hs hm (n-1) (i+1) k (by lia) (by lia)<|by lia];have:(c==s.getD i 0)=false:=by simpa using fun e=>he e.symm
    rw[this,Sa]
  ·rw[xb];have:s.drop i=[]:=RY (by lia);rw[this];simp
theorem oO{s:Tx}{b:Bool}{q1 q2:Tr}{i5:Int}(hs:s.length<=300)(hf:1000<=fu):∀(n c k m:Nat),123-c<=n->c<=123->m<=c->n<k->
 zn (vQ fu s b q1 q2 i5) k ((m:Int),c)=some ((m+(RK c<|123-c).countP (fun x=>s.contains x):Nat):Int)
 |n,c,k+1,m,hn,hc,hm,hk=>by
  rw[yf,vQ];simp only;by_cases h:c<=122
  ·have h1:=C7 (fu:=fu) (c:=c) (b:=b) (q1:=q1) (q2:=q2) (i7:=i5) (m:=m) hs (by lia) 300 0 fu (by lia) (by lia) (by lia);rw[show s.drop 0=s from rfl]at h1;rw[vq];refine(zq h1).trans ?_;simp only;rw[wB,show(c+1)%256=c+1 by lia,oO hs hf (n-1) (c+1) k _ (by lia) (by lia) (by split<;>lia)<|by lia];rw[show 123-c=(123-(c+1))+1 by lia,TQ,List.countP_cons];congr 2;lia
  ·rw[xb,show 123-c=0 by lia];simp
theorem sC{s:Tx}{t:Tr}(h1:∀c∈xT t,je c=true)(h2:∀c,je c=true->(c∈s↔c∈xT t)):(J9 t).length=(RK 97 26).countP fun x=>s.contains x:=by
 unfold J9;rw[<-List.countP_eq_length_filter,List.range_eq_range',show RK 0 256=RK 0 97++(RK 97 26++RK 123 133)by decide+kernel,List.countP_append,List.countP_append];have z:∀l:List Nat,(∀c∈l,je c=false)->l.countP (fun c=>(xT t).contains c)=0:=fun l hl=>List.countP_eq_zero.2 fun c hc hx=>by
  have:=h1 c (by simpa using hx);rw[hl c hc]at this;cases this
 rw[z (RK 0 97) (by decide+kernel),z (RK 123 133) (by decide+kernel),Pk,Sl];refine List.countP_congr fun c hc=> ?_;have:je c=true:=by
  rw[List.mem_range'_1]at hc;simp[je];lia
 simp only[TG];exact(h2 c this).symm
theorem Ez{t:Tr}{i:Nat}(h:i+1<(J9 t).length):(J9 t).getD i 0<(J9 t).getD (i+1) 0:=by
 have hp:(J9 t).Pairwise (· < ·):=S4 _ List.pairwise_lt_range;have:=List.pairwise_iff_getElem.1 hp i (i+1) (by lia) h (by lia);simpa[h,show i<(J9 t).length by lia]using this
theorem aU(hf:3005000<=fu)(hk:jl fu=some true)(s:Tx)(a:Int):vb fu s a=some true:=by
 unfold vb;rw[hk,zF];by_cases ha:(300:Int)<(s.length:Int)
 ·rw[iq ha]
 ·have hs:s.length<=300:=by lia
  rw[ir ha];obtain⟨t',h1,h2,h3⟩:=fc (fu:=fu) hs 300 0 fu [] (by lia) (by lia) (by simp) (by lia);have h2:t'++[32]=yi false s:=h2;refine(zq h1).trans ?_;have hp:=cM (s:=s) (show 20000<=fu by lia) (a:=a);have hq:=cM (s:=yi false s) (show 20000<=fu by lia) (a:=a);obtain⟨w1,w2⟩:=fM hs a;have ho:=oV s a;have hg:=fun t x e=>tR (s:=s) (a:=a) (t:=t) (x:=x) (e:=e);have hb:=fun t x=>mn (s:=s) (a:=a) (t:=t) (x:=x);generalize qx s a=p at hp w1 w2 ho hg hb;obtain⟨t,x,e⟩:=p;generalize qx (yi false s) a=q at hq w1 w2;obtain⟨u,y,f⟩:=q;simp only at w1 w2;subst w1 w2;rw[hp,zF];simp only;rw[vE (by simp;lia),wB,h2,hq,zF];simp only;rw[iq (by trivial),zF];simp only;by_cases he:e=0
  ·subst he;rcases hg t x 0 rfl with⟨_,_,g1,g2,g3,g4⟩|⟨h,_⟩
   ·have hd:=VN t g1;have hj:=fun c hc=>hb t x rfl (c:=c) hc;have hl:=sC hd hj;have hn:(RK 97 26).countP (fun x=>s.contains x)<=26:=TC;have hm:∀i,i<(J9 t).length->s.contains ((J9 t).getD i 0)=true:=fun i hi=>by
     have:(J9 t).getD i 0∈J9 t:=by
      rw[show(J9 t).getD i 0=(J9 t)[i]by simp[hi]];exact Rm hi
     generalize(J9 t).getD i 0=c at this⊢;have hc:c∈xT t:=by
      unfold J9 at this;simpa using(PO.1 this).2
     simpa using(hj c<|hd c hc).2 hc
    rw[iq rfl,sy hf g1 g2 (by lia),zF];refine(zq<|Dn (c1:=true) (q1:=t) (q2:=t) hs (by lia) (fun i hi=>Ez hi) hm (by lia) 256 0 fu (by lia) (by lia)<|by lia).trans ?_;simp only;refine(zq<|oO (b:=true) (q1:=t) (q2:=t) (i5:=((J9 t).length:Int)) hs (by lia) 300 97 fu 0 (by lia) (by lia) (by lia)<|by lia).trans ?_;rw[iq (by trivial),WH 4096 fu _ 4200 ho (by lia) (by decide) (by decide),zF,zF,K9 4096 fu _ ho (by lia),zF,iq rfl,iq (by rw[hl];simp),mq,zF];rfl
   ·exact absurd rfl h
  ·rw[ir he]
end
set_option maxRecDepth 100000 in
theorem cg:jl 35184372088832=some true:=by decide+kernel
section
namespace exprBlanks
open Go.ChangeShapes Go.WideShapes Go.ChangeAt Go.RowKit
theorem own:ownKnob Tryz.prog.godebug=none:=by kernel_rfl
theorem OH:U0 Tryz.prog .tx 9:=id (by kernel_rfl:Tryz.prog.underlying 9=some .string)
theorem nc:U0 Tryz.prog .i 3:=id (by kernel_rfl:Tryz.prog.underlying 3=some (.int .i64))
def Fg:DataW Unit->Array Value
 |.agg l=>(l.map fun
  |.lit (.int k z)=>Value.int k z
  |_=>undef).toArray
 |_=> #[]
def LF:DataW Unit->ByteArray
 |.iface _ (.ptr (.agg [.lit (.string l)]))=>⟨l.toArray⟩
 |_=>⟨#[]⟩
def dH(cs:Array Value):Obj->Obj
 |.cells _ t z=> .cells cs t z
 |o=>o
noncomputable def Xz:Nat:=(World.holding Tryz.prog default ⟨#[],#[],[]⟩).heap.size
noncomputable def Kk(os:Os):World:=
 let w0:=World.holding Tryz.prog os ⟨#[.cells #[.string<|LF Rows.laid_strconv_ErrRange] 163,.cells #[.string<|LF Rows.laid_strconv_ErrSyntax] 163],#[],[]⟩
 {w0 with heap:=((((w0.heap.modify 6<|dH<|Fg Rows.laid_math_bits_deBruijn32tab).modify 7<|dH<|Fg Rows.laid_math_bits_deBruijn64tab).modify 3<|dH<|Fg Rows.laid_internal_strconv_uint64pow10).modify 5<|dH #[.iface 161 (.pointer<|some ⟨Xz,0,none⟩)]).modify 4<|dH #[.iface 161 (.pointer<|some ⟨Xz+1,0,none⟩)]}
set_option maxRecDepth 100000 in
theorem JA(os:Os)(args:Array Value):laidMet Tryz.prog Rows.exprBlanksRow.laid ((Kk os).forCall (fun _ _=>0) ⟨#[],args,[]⟩).memory:=
 laidMet_of_run' 8 (by kernel_rfl) (by kernel_rfl)
theorem cW:Tryz.prog.cellsOf 163=1:=by kernel_rfl
theorem sP:Tryz.prog.cellsOf 9=1:=by kernel_rfl
def Ek:String:=match Rows.laid_strconv_ErrRange (H:=Unit)with
 |.iface nm _=>nm
 |_=> ""
theorem tF(u:TypeId)(h:Tryz.prog.typeName? 3 u=some Ek):u=161:=
 typeName_ptr_named (nm:= "errors.errorString") (by kernel_rfl) (by kernel_rfl) (by decide) u (h.trans<|by kernel_rfl)
set_option maxRecDepth 100000 in
theorem Ie{W:World}(h:laidMet Tryz.prog Rows.exprBlanksRow.laid W):Gv W:=by
 have h3:=h.tail.tail;have h4:=h3.tail;have h5:=h4.tail;refine⟨Lib.tabIs_of_head (g:=3) (t:=137) (e:=64) (n:=20) (rest:=_) (by kernel_rfl) (by kernel_rfl) (by kernel_rfl) (by kernel_rfl) (by kernel_rfl) (by kernel_rfl) h3,?_,?_⟩
 ·obtain⟨a,s,hv,_⟩:=laid_sentinel (g:=5) h4 (by kernel_rfl) (by kernel_rfl) Tryz.underlying110 tF Tryz.underlying161 Tryz.underlying163 rfl rfl Tryz.underlying9 cW sP;exact⟨_,_,hv⟩
 ·obtain⟨a,s,hv,_⟩:=laid_sentinel (g:=4) h5 (by kernel_rfl) (by kernel_rfl) Tryz.underlying110 tF Tryz.underlying161 Tryz.underlying163 rfl rfl Tryz.underlying9 cW sP;exact⟨_,_,hv⟩
def NL(M:uC [.d .tx,.d .i]->Option Bool):jo:=⟨4,[.d .tx,.d .i],[.d .b],M,0⟩
set_option maxRecDepth 100000 in
theorem lifted{M:uC [.d .tx,.d .i]->Option Bool}(hs:zQ Tryz.prog (NL M))(hz:∀x,M x=some true)(os:Os)(started:os.Started)(H:Type)(enc:TypeId×Value->H):
 ReturnsInHanded {} Tryz.checked os 4 .any (fun w args=>(Rows.exprBlanksSpec.pre enc Tryz.prog Tryz.f4 Rows.exprBlanksRow.domain false w args/\laidMet Tryz.prog Rows.exprBlanksRow.laid w)/\sizedMet enc Tryz.prog Tryz.f4 (OpenSpec.ofChange Rows.exprBlanksSpec) false w args)
  (Rows.exprBlanksSpec.post enc Tryz.prog Tryz.f4 false true false false):=by
 refine returnsInHanded_of_change_and (C:=Tryz.checked) (X:=fun w _=>laidMet Tryz.prog Rows.exprBlanksRow.laid w) (fun _ _ _ hh h=>h.of_heap hh) own started (by kernel_rfl) Tryz.func4
  (ChangeSpec.witness_at (enc:=enc) (C:=Tryz.checked) (os:=os) (X:=fun w _=>laidMet Tryz.prog Rows.exprBlanksRow.laid w) false (Kk os) #[.string ⟨#[]⟩,.int .i64 0] 8 rfl (by kernel_rfl) (by kernel_rfl) (by kernel_rfl) (by kernel_rfl) (by kernel_rfl) (JA os _)) ?_
 intro W base args ds gs before ha hW hg hc hL _;have hb:∀(j:Nat) t v,Tryz.f4.params[j]? =some t->args[j]? =some v->SQ Tryz.prog W .any base t v:=ha;have hd:=hW;obtain⟨p,q,he,hV,_,_,_⟩:=hW;have hA:SV enc Tryz.prog W 0 (fun _=>true) true Tryz.f4.params.toList args.toList ds p:=he;rw[Tryz.params4]at hA;obtain⟨v0,vs0,d0,ds0,p0,q0,hf,rfl,_,_,r0⟩:=trodAll_cons hA;obtain⟨v1,vs1,d1,ds1,p1,q1,_,rfl,_,_,r1⟩:=trodAll_cons r0;obtain⟨_,rfl,_⟩:=trodAll_nil r1;obtain⟨rfl,_⟩:=trodVars_none hV
 exact tm (sg:=NL M) hd rfl hb hc (by kernel_rfl) (by rw[Tryz.params4];decide+kernel) (by rw[Tryz.params4];exact⟨OH,nc,trivial⟩) rfl hs
  (fun x hx hw=>hz x) (B:=4) (by kernel_rfl) Tryz.underlying4 rfl rfl (Ie hL)
set_option maxRecDepth 100000 in
theorem NC:Tryz.pinned.checked.prog.funcNamed Rows.exprBlanksRow.func=some 4:=by kernel_rfl
set_option maxRecDepth 100000 in
set_option maxHeartbeats 4000000 in
theorem jf:joinedFacts Tryz.pinned.checked.prog 4 Tryz.f4 Rows.exprBlanksSpec Rows.exprBlanksRow=true:=by
 unfold joinedFacts;simp only[IR];repeat' apply TH
 all_goals (as_aux_lemma=>kernel_rfl)
theorem over:Rows.exprBlanksRow.holds Tryz.pinned (OpenSpec.ofChange Rows.exprBlanksSpec):=
 OpenClaim.holds_of_wide 4 Tryz.f4 rfl rfl rfl rfl rfl rfl rfl ⟨rfl,rfl,rfl,rfl,rfl⟩ rfl rfl rfl rfl rfl NC Tryz.func4 jf
  (of_decide_eq_true<|by kernel_rfl) (by unfold Func.isWrapper;first|(rw[iq<|by decide+kernel];kernel_rfl)|(rw[ir<|by decide+kernel];exact⟨rfl,rfl⟩))
  (fun os started H enc _=>lifted (M:=fun x=>vb 35184372088832 x.1 x.2.1) (Xy 35184372088832) (fun x=>aU (by decide) cg x.1 x.2.1) os started H enc)
set_option maxRecDepth 100000 in
theorem proved:Rows.ExprBlanksCardSaid:=
 Claim7.holds_tied_plain_at .later [] [.data,.data,.data,.sentinel,.sentinel] true (true,"d152d743adf367b099d5ff6922d9055b9fa6c78bd8b292ecd99d2df46e1405a1") true
  over (fun _ h=>by cases h) (by kernel_rfl) (fun _ h=>by cases h) exprBlanks_row_tie rfl ⟨rfl,rfl⟩ (by kernel_rfl) rfl
  (fun f fn hf ha=>by
   obtain rfl:f=4:=(P9<|NC.symm.trans hf).symm;obtain rfl:fn=Tryz.f4:=(P9<|Tryz.func4.symm.trans ha).symm;refine⟨by kernel_rfl,fun j t ht=> ?_⟩;rw[Tryz.params4]at ht;have h3:t=9\/t=3:=by
    rcases j with _|_|j
    ·left;simpa using ht.symm
    ·right;simpa using ht.symm
    ·simp at ht
   rcases h3 with rfl|rfl
   ·exact(by kernel_rfl:Tryz.prog.wantsStandIn 9=false)
   ·exact(by kernel_rfl:Tryz.prog.wantsStandIn 3=false))
  (by kernel_rfl)
end exprBlanks
end
end Go.Proofs.YtbaoeefdjpaomaaGreatDoor
