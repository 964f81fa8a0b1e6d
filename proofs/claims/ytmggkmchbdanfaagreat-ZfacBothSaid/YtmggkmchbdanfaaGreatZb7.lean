/- The factors of a product are those of both, their numbers added: for every input. No condition. -/
import Derived.Test.YtmggkmchbdanfaaGreatZb6
set_option linter.unusedVariables false
set_option linter.unusedSimpArgs false
namespace Go.Proofs.YtmggkmchbdanfaaGreat
open And renaming intro->xfx
open Bool renaming and_eq_true->xam,false_eq_true->xak
open Classical renaming byContradiction->xac
open DataW renaming TrodAll->xeH
open Int renaming add_zero->xbD,dvd_mul_left->xcQ,dvd_mul_right->xco,dvd_neg->xfP,dvd_of_emod_eq_zero->xaJ,dvd_refl->xdO,dvd_trans->xbG,emod_emod->xaF,emod_emod_of_dvd->xcH,emod_eq_emod_iff_emod_sub_eq_zero->xaK,emod_eq_of_lt->xaC,emod_eq_zero_of_dvd->xaB,eq_ofNat_of_zero_le->xaA,le_of_lt->xdD,le_refl->xfr,mul_add->xeY,mul_assoc->xbK,mul_comm->xbo,mul_dvd_mul->xfO,mul_emod->xbr,mul_eq_zero->xeF,mul_le_mul_of_nonneg_left->xaW,mul_le_mul_of_nonneg_right->xbz,mul_ne_zero->xdF,mul_nonneg->xcD,mul_one->xcl,mul_zero->xaw,natAbs_dvd_natAbs->xcq,natAbs_ediv_le_natAbs->xdq,natAbs_mul->xch,natAbs_natCast->xbe,natCast_add->xdX,natCast_dvd_natCast->xen,natCast_mul->xfc,one_mul->xce,pow_nonneg->xft,pow_succ->xbn,pow_zero->xbs,sub_self->xdc,sub_zero->xcG,toNat_natCast->xaE,zero_add->xcF,zero_ediv->xfI,zero_emod->xag,zero_mul->xaV
open List renaming append_nil->xbQ,append_of_mem->xdP,drop_eq_getElem_cons->xcz,drop_eq_nil_of_le->xcm,ext_getElem->xeS,filter_cons->xdk,filter_cons_of_neg->xfi,filter_cons_of_pos->xfh,getD_eq_getElem?_getD->H1,getElem?_append_left->xbq,getElem?_append_right->xcn,getElem?_drop->xet,getElem?_eq_getElem->xaa,getElem?_map->xaT,getElem?_replicate->xfd,getElem?_take->xcp,getElem_map->xfE,getElem_mem->xbk,length->xaI,length_append->xax,length_cons->xaq,length_drop->xbN,length_eq_zero_iff->xbF,length_filter_le->xfC,length_map->xaP,length_nil->xbR,length_range->xcC,length_replicate->xaZ,length_set->xcL,length_singleton->xeG,length_take->xav,map_append->xbg,map_congr_left->xcj,map_cons->xbZ,map_map->xcT,mem_append->Nm,mem_cons->xad,mem_cons_of_mem->UV,mem_cons_self->FS,mem_iff_getElem->xdA,mem_map->xap,mem_map_of_mem->xbL,mem_of_mem_drop->xeM,mem_or_eq_of_mem_set->xeO,mem_range->xbf,mem_singleton->xai,nil_append->xbA,not_mem_nil->IR,pairwise_append->xdj,pairwise_cons->xbT,pairwise_iff_forall_sublist->xdl,pairwise_iff_getElem->xcW,pairwise_map->xed,range->xbb,range_succ->xdu,replicate->xaf,take_add_one->xeI,take_append_drop->xbH,take_length->xcy
open Nat renaming add_comm->xds,add_mul->xaR,add_sub_cancel->xeu,add_zero->xbS,le_mul_of_pos_left->xdm,le_mul_of_pos_right->xbU,le_of_lt->xcS,le_of_not_lt->xbw,le_refl->xab,le_succ->xcd,le_trans->xan,lt_of_le_of_lt->xba,lt_of_lt_of_le->xal,mul_add->xbh,mul_le_mul->xbJ,mul_le_mul_left->xaD,mul_le_mul_right->xat,mul_left_comm->xeb,mul_lt_mul''->xdJ,mul_lt_mul_of_pos_right->xbX,mul_one->xcI,mul_zero->xcO,not_lt_zero->xbl,one_mul->xcb,pow_add->xbY,pow_le_pow_right->xaz,pow_lt_pow_right->xeN,pow_mul->xda,pow_pos->xbj,pow_succ->xbd,strongRecOn->xdr,sub_self->xdb,zero_add->xaN,zero_le->xah,zero_mul->xcs
open Option.some renaming injEq->xay
open Prod renaming ext->xeT
open Prod.mk renaming injEq->xcx
open Value renaming okWide->xee
section
variable{q f:Pz}{m:Nat}{l:List (List Zr×Int)}{a b:List Zr}
theorem Pm.one:Pm (pc 1):=fun d hd=>by
 have:=hd 0;unfold pc at this;rw[iq rfl]at this;exact Nat.dvd_one.1<|xen.1 this
theorem Pm.pp{q:Pz}(h:Pm q):∀n,Pm (pp q n)
 |0=>Pm.one
 |n+1=>(Pm.pp h n).mul h
theorem Po.one:Po (pc 1):=⟨0,by decide,fun k hk=>by unfold pc;rw[zC]⟩
theorem Ir.one(h:Ir q):¬Zd q (pc 1):=fun⟨w,fw,e⟩=>by
 obtain⟨a,ha⟩:=Tp.ex h.fs h.pm.nz;have hw:Nz w:=xac fun hn=>by
  have:=congrFun e 0;rw[xq,yJ fun k _=>by rw[Nz.not hn k,xaV]]at this;exact absurd this<|by decide
 obtain⟨b,hb⟩:=Tp.ex fw hw;have h1:=hb.mul ha;rw[<-e]at h1;have h2:=h1.uniq (m:=0) ⟨by decide,fun k hk=>by unfold pc;rw[zC]⟩;exact h.dg<|(KF.tp ha).2<|by lia
def Mu(q f:Pz)(n:Nat):Prop:=∃u,Fs u/\f=u*pp q n/\¬Zd q u
theorem Mu.ex{q:Pz}(hq:Ir q)(m:Nat):∀{f:Pz},Tp f m->∃n,n<=m/\Mu q f n:=by
 induction m using xdr with
 |ind m ih=>
  intro f hf;by_cases hd:Zd q f
  ·obtain⟨u,fu,e⟩:=hd;have hu:Nz u:=xac fun hn=>by
    refine hf.1 ?_;rw[e,xq,yJ fun k _=>by rw[Nz.not hn k,xaV]]
   obtain⟨a,ha⟩:=Tp.ex fu hu;obtain⟨b,hb⟩:=Tp.ex hq.fs hq.pm.nz;have h1:=ha.mul hb;rw[<-e]at h1;have h1:=h1.uniq hf;have hc:b≠0:=fun h=>hq.dg<|(KF.tp hb).2 h;obtain⟨n,hn,v,fv,e2,hv⟩:=ih a (by lia) ha;refine⟨n+1,by lia,v,fv,?_,hv⟩;show f=v*(pp q n*q);rw[e,e2,zf]
  ·exact⟨0,xah m,f,hf.fs,(zU f).symm,hd⟩
theorem Mu.mul{q f g:Pz}{n m:Nat}(hq:Ir q)(hf:Mu q f n)(hg:Mu q g m):Mu q (f*g) (n+m):=by
 obtain⟨u,fu,rfl,hu⟩:=hf;obtain⟨v,fv,rfl,hv⟩:=hg;refine⟨u*v,fu.mul fv,?_,fun h=> ?_⟩
 ·rw[tL,zf,zf,zy<|pp q n]
 ·rcases hq.prime fu fv h with h|h
  ·exact hu h
  ·exact hv h
theorem Mu.lt{n:Nat}(hq:Ir q)(h:Mu q f n)(g:Mu q f m):¬n<m:=fun ha=>by
 obtain⟨u,fu,e1,hu⟩:=h;obtain⟨v,fv,e2,hv⟩:=g;obtain⟨d,rfl⟩:∃d,m=d+1+n:=⟨m-1-n,by lia⟩;have fp:=hq.fs.pp (n:=n);refine hu ⟨v*pp q d,fv.mul<|hq.fs.pp d,?_⟩;refine pX fu ((fv.mul<|hq.fs.pp d).mul hq.fs) (hq.fs.pp n) (hq.pm.pp n).nz ?_;rw[<-e1,e2,tL,zf<|v*pp q d,zf v];show v*(pp q d*q*pp q n)=_;rw[zf<|pp q d]
theorem Mu.uniq{n:Nat}(hq:Ir q)(h:Mu q f n)(g:Mu q f m):n=m:=by
 have:=h.lt hq g;have:=g.lt hq h;lia
theorem Mu.zero(ff:Fs f)(h:¬Zd q f):Mu q f 0:=⟨f,ff,(zU f).symm,h⟩
theorem Mu.dvd{n:Nat}(hq:Fs q)(h:Mu q f n)(hn:1<=n):Zd q f:=by
 obtain⟨u,fu,rfl,_⟩:=h;obtain⟨k,rfl⟩:∃k,n=k+1:=⟨n-1,by lia⟩;exact⟨u*pp q k,fu.mul<|hq.pp k,by rw[zf];rfl⟩
theorem Mu.self(hq:Ir q)(n:Nat):Mu q (pp q n) n:=⟨pc 1,Fs.pc 1,(zz _).symm,hq.one⟩
theorem Ir.pp{q r:Pz}(hq:Ir q)(hr:Fs r):∀n,Zd q (pp r n)->Zd q r
 |0,h=>absurd h hq.one
 |n+1,h=>by
  rcases hq.prime (hr.pp n) hr h with h|h
  ·exact Ir.pp hq hr n h
  ·exact h
theorem Ir.prz{q:Pz}(hq:Ir q):∀{l:List Pz},(∀r∈l,Fs r)->Zd q (prZ l)->∃r,r∈l/\Zd q r
 |[],_,h=>absurd h hq.one
 |r::l,hl,h=>by
  rcases hq.prime (hl r<|FS) (Fs.prZ fun x hx=>hl x<|UV _ hx) h with h|h
  ·exact⟨r,FS,h⟩
  ·obtain⟨x,hx,h⟩:=Ir.prz hq (fun x hx=>hl x<|UV _ hx) h;exact⟨x,UV _ hx,h⟩
def prM:List (Pz×Nat)->Pz
 |[]=>pc 1
 |x::r=>pp x.1 x.2*prM r
theorem o9:∀{l:List (Pz×Nat)},(∀x∈l,Fs x.1)->Fs (prM l)
 |[],_=>Fs.pc 1
 |x::r,h=>((h x<|FS).pp _).mul<|o9 fun y hy=>h y<|UV _ hy
theorem zbX{q:Pz}(hq:Ir q)(pq:Po q):∀{l:List (Pz×Nat)},(∀x∈l,Ir x.1/\Po x.1/\q≠x.1)->¬Zd q (prM l)
 |[],_,h=>hq.one h
 |x::r,hl,h=>by
  obtain⟨h1,h2,h3⟩:=hl x<|FS;have hr:=fun y hy=>hl y<|UV _ hy;rcases hq.prime (h1.fs.pp _) (o9 fun y hy=>(hr y hy).1.fs) h with h|h
  ·exact h3<|hq.eq h1 pq h2<|hq.pp h1.fs _ h
  ·exact zbX hq pq hr h
theorem mus{f:Pz}(ff:Fs f)(nf:Nz f):∀{l:List (Pz×Nat)},l.Pairwise (fun x y=>x.1≠y.1)->(∀x∈l,Ir x.1/\Po x.1/\Mu x.1 f x.2)->∃u,Fs u/\f=u*prM l/\∀x∈l,¬Zd x.1 u
 |[],_,_=>⟨f,ff,(zU f).symm,fun _ h=>absurd h IR⟩
 |x::r,hp,h=>by
  obtain⟨h1,h2,h3⟩:=h x<|FS;rw[xbT]at hp;have hr:=fun y hy=>h y<|UV _ hy;obtain⟨u,fu,e,hu⟩:=mus ff nf hp.2 hr;have nu:Nz u:=xac fun hn=>by
   obtain⟨k,hk⟩:=nf;rw[e,xq,yJ fun k _=>by rw[Nz.not hn k,xaV]]at hk;exact hk rfl
  obtain⟨m,hm⟩:=Tp.ex fu nu;obtain⟨n,_,hn⟩:=Mu.ex h1 m hm;have h4:=Mu.zero (o9 fun y hy=>(hr y hy).1.fs)<|zbX h1 h2 fun y hy=>⟨(hr y hy).1,(hr y hy).2.1,hp.1 y hy⟩;have h5:=hn.mul h1 h4;rw[<-e]at h5;obtain rfl:n=x.2:=(h5.uniq h1 h3);obtain⟨w,fw,e2,hw⟩:=hn;refine⟨w,fw,?_,fun y hy=> ?_⟩
  ·show f=w*(pp x.1 x.2*prM r);rw[<-zf,<-e2,e]
  ·rcases xad.1 hy with rfl|hy
   ·exact hw
   ·exact fun hz=>hu y hy<|by rw[e2,zk];exact hz.mul _<|h1.fs.pp _
theorem zdD(ff:Fs f)(nf:Nz f){l:List (Pz×Nat)}(hp:l.Pairwise fun x y=>x.1≠y.1)(h:∀x∈l,Ir x.1/\Po x.1/\Mu x.1 f x.2)(ha:∀q,Ir q->Po q->Zd q f->∃x∈l,x.1=q):∃c,c≠0/\f=pc c*prM l:=by
 obtain⟨u,fu,e,hu⟩:=mus ff nf hp h;have nu:Nz u:=xac fun hn=>by
  obtain⟨k,hk⟩:=nf;rw[e,xq,yJ fun k _=>by rw[Nz.not hn k,xaV]]at hk;exact hk rfl
 obtain⟨c,g,hc,fg,hg,rfl⟩:=Pm.ex fu nu;obtain⟨m,hm⟩:=Tp.ex fg hg.nz;by_cases h1:1<=m
 ·obtain⟨q,q1,q2,q3⟩:=Ir.ex m (xab m) hm hg h1;have q4:Zd q (pc (c:Int)*g):=q3.mul _<|Fs.pc _;obtain⟨x,hx,rfl⟩:=ha q q1 q2 (by rw[e,zk];exact q4.mul _<|o9 fun y hy=>(h y hy).1.fs);exact absurd q4<|hu x hx
 ·obtain⟨d,rfl⟩:=((KF.tp hm).2<|by lia).ex;refine⟨c*d,xdF (by lia) ?_,by rw[e,qQ]⟩;rintro rfl;have:=sM hg;lia
def m8(f g:Nat->Int):Nat->Int
 |0=>0
 |n+1=>if f n=g n then m8 f g n else if f n<g n then-1 else 1
theorem IF(f g:Nat->Int):∀n,m8 g f n= -m8 f g n
 |0=>rfl
 |n+1=>by
  unfold m8;by_cases h:f n=g n
  ·rw[iq h,iq h.symm];exact IF f g n
  ·rw[ir h,ir<|fun e=>h e.symm];by_cases h2:f n<g n
   ·rw[iq h2,zC];rfl
   ·rw[ir h2,zP]
theorem HH(f g:Nat->Int):∀n,m8 f g n=0->∀k,k<n->f k=g k
 |0,_,k,h=>absurd h<|xbl _
 |n+1,h,k,hk=>by
  unfold m8 at h;by_cases h1:f n=g n
  ·rw[iq h1]at h;by_cases e:k=n
   ·rw[e,h1]
   ·exact HH f g n h k<|by lia
  ·rw[ir h1]at h;split at h<;>exact absurd h<|by decide
theorem CB(f g h:Nat->Int):∀n,m8 f g n<=0->m8 g h n<=0->m8 f h n<=0
 |0,_,_=>xfr 0
 |n+1,h1,h2=>by
  unfold m8 at h1 h2⊢;by_cases e1:f n=g n
  ·rw[iq e1]at h1;by_cases e2:g n=h n
   ·rw[iq e2]at h2;rw[iq<|e1.trans e2];exact CB f g h n h1 h2
   ·rw[ir e2]at h2;rw[ir (fun e=>e2<|by lia),e1];exact h2
  ·rw[ir e1]at h1;have h3:f n<g n:=xac fun hn=>by rw[ir hn]at h1;lia
   by_cases e2:g n=h n
   ·rw[ir (fun e=>e1<|by lia),zP];lia
   ·rw[ir e2]at h2;have h4:g n<h n:=xac fun hn=>by rw[ir hn]at h2;lia
    rw[zC,zP];lia
def vI(a b:List Zr):Int:=if a.length=b.length then m8 (cf a) (cf b) a.length else if a.length<b.length then-1 else 1
theorem qM(a b:List Zr):vI b a= -vI a b:=by grind [vI,IF]
theorem pE{c:List Zr}(h1:vI a b<=0)(h2:vI b c<=0):vI a c<=0:=by
 unfold vI at h1 h2⊢;by_cases e1:a.length=b.length
 ·rw[iq e1]at h1;by_cases e2:b.length=c.length
  ·rw[iq e2,<-e1]at h2;rw[iq<|e1.trans e2];exact CB _ _ _ _ h1 h2
  ·rw[ir e2]at h2;rw[ir (fun e=>e2<|by lia),e1];exact h2
 ·rw[ir e1]at h1;have h3:a.length<b.length:=xac fun hn=>by rw[ir hn]at h1;lia
  by_cases e2:b.length=c.length
  ·rw[ir (fun e=>e1<|by lia),zP];lia
  ·rw[ir e2]at h2;have h4:b.length<c.length:=xac fun hn=>by rw[ir hn]at h2;lia
   rw[zC,zP];lia
theorem Jw(ha:yj a=a)(hb:yj b=b)(h:∀k,cf a k=cf b k):a=b:=by
 rw[<-ha,<-hb];exact aH (fun k hk=>ye hk) (fun k hk=>ye hk) h
theorem lN(ha:yj a=a)(hb:yj b=b)(h:vI a b=0):a=b:=by
 unfold vI at h;by_cases e:a.length=b.length
 ·rw[iq e]at h;have h1:=HH _ _ _ h;refine Jw ha hb fun k=> ?_;by_cases hk:k<a.length
  ·exact h1 k hk
  ·rw[ye (by lia),ye<|by lia]
 ·rw[ir e]at h;split at h<;>exact absurd h<|by decide
theorem p9{α:Type}{R:α->α->Prop}(ha:∀x y,R x y->¬R y x):∀{l m:List α},l.Pairwise R->m.Pairwise R->(∀x,x∈l↔x∈m)->l=m
 |[],[],_,_,_=>rfl
 |[],y::m,_,_,h=>absurd ((h y).2<|FS) IR
 |x::l,[],_,_,h=>absurd ((h x).1<|FS) IR
 |x::l,y::m,hl,hm,h=>by
  rw[xbT]at hl hm;have e:x=y:=by
   rcases xad.1 ((h x).1<|FS)with e|e
   ·exact e
   ·rcases xad.1 ((h y).2<|FS)with e2|e2
    ·exact e2.symm
    ·exact absurd (hl.1 y e2)<|ha _ _<|hm.1 x e
  subst e;rw[p9 ha hl.2 hm.2 fun z=>⟨fun hz=>by
   rcases xad.1 ((h z).1<|UV _ hz)with e|e
   ·subst e;exact absurd (hl.1 z hz)<|ha _ _<|hl.1 z hz
   ·exact e,fun hz=>by
   rcases xad.1 ((h z).2<|UV _ hz)with e|e
   ·subst e;exact absurd (hm.1 z hz)<|ha _ _<|hm.1 z hz
   ·exact e⟩]
structure FL(f:Pz)(l:List (List Zr×Int)):Prop where
 el:∀x∈l,yj x.1=x.1/\Ir (cf x.1)/\Po (cf x.1)/\1<=x.2/\Mu (cf x.1) f x.2.toNat
 al:∀q,Ir q->Po q->Zd q f->∃x∈l,cf x.1=q
 so:l.Pairwise fun x y=>vI x.1 y.1<0
theorem FL.sub{m:List (List Zr×Int)}(h:FL f l)(g:FL f m){x:List Zr×Int}(hx:x∈l):x∈m:=by
 obtain⟨h1,h2,h3,h4,h5⟩:=h.el x hx;obtain⟨y,hy,e⟩:=g.al _ h2 h3 (h5.dvd h2.fs<|by lia);obtain⟨g1,g2,g3,g4,g5⟩:=g.el y hy;have e1:y.1=x.1:=Jw g1 h1 fun k=>congrFun e k;rw[e1]at g5;have e2:=g5.uniq h2 h5;have:y=x:=xeT e1 (by lia);rw[<-this];exact hy
theorem FL.uniq{m:List (List Zr×Int)}(h:FL f l)(g:FL f m):l=m:=
 p9 (fun x y h1 h2=>by rw[qM]at h2;lia) h.so g.so fun x=>⟨fun hx=>h.sub g hx,fun hx=>g.sub h hx⟩
end
section
variable{a b k:Nat}{p:Int}{f u v g q:Pz}
theorem zgn{A B:Pz}{d e:Nat}(hA:Mn A d)(hB:Mn B e):Mn (A*B) (d+e):=
 ⟨by rw[Vw hA.2 hB.2,hA.1,hB.1];rfl,fun k hk=>vL (n:=d+1) (m:=e+1) (fun j hj=>hA.2 j<|by lia)<|fun j hj=>hB.2 j<|by lia⟩
theorem zaC:∀{l:List Pz},(∀A∈l,∃d,Mn A d)->∃d,Mn (prZ l) d
 |[],_=>⟨0,rfl,fun k hk=>by show pc 1 k=0;unfold pc;rw[zC]⟩
 |A::l,h=>by
  obtain⟨d,hd⟩:=h A<|FS;obtain⟨e,he⟩:=zaC fun B hB=>h B<|UV _ hB;exact⟨d+e,zgn hd he⟩
theorem dc{α:Type}(F:α->Pz)(P:α->Bool):∀l:List α,prZ (l.map F)=prZ ((l.filter P).map F)*prZ ((l.filter fun x=> !P x).map F)
 |[]=>(zU _).symm
 |x::l=>by
  have ih:=dc F P l
  cases h:P x with
  |true=>
   rw[xfh h,xfi<|by rw[h];decide];show F x*_=F x*_*_;rw[ih,zf]
  |false=>
   rw[xfi (by rw[h];decide),xfh<|by rw[h];rfl];show F x*_=_*(F x*_);rw[ih,zy]
theorem Ma{P:Int}(hp:wK P=true){a b:Pz}{c:Int}(fa:Fs a)(fb:Fs b)(h:Cg P (a*b) (pc c))(hc:¬P∣c):∃x,Cg P a (pc x):=by
 obtain⟨p1,p2⟩:=zu hp;obtain⟨Q,rfl⟩:=xaA (show 0<=P by lia);have he:=Ym hp;rw[xaE]at he;have red:∀f:Pz,Fs f->¬Cg (Q:Int) f (pc 0)->∃g n,Tp g n/\Cg (Q:Int) g f/\¬(Q:Int)∣g n:=fun f ff hn=>by
  have f2:Fs (fun k=>f k%(Q:Int)):=by
   obtain⟨n,hn⟩:=ff;exact⟨n,fun k hk=>by show f k%_=0;rw[hn k hk,xag]⟩
  obtain⟨n,h1⟩:=Tp.ex f2 (xac fun hz=>hn fun k=>by
   have:=Nz.not hz k;rw[zO,xag];exact this)
  exact⟨_,n,h1,fun k=>xaF _ _,fun hd=>h1.1 (by
   show f n%_=0;have:=xaB hd;rwa[xaF]at this)⟩
 have ha:¬Cg (Q:Int) a (pc 0):=fun e=>hc (by
  have:=(h.symm.trans<|e.mul_zero_r b).dvd 0;unfold pc at this;rwa[iq rfl]at this)
 have hb:¬Cg (Q:Int) b (pc 0):=fun e=>hc (by
  have:=(h.symm.trans<|e.mul_zero_l a).dvd 0;unfold pc at this;rwa[iq rfl]at this)
 obtain⟨u,i,u1,u2,u3⟩:=red a fa ha;obtain⟨v,j,v1,v2,v3⟩:=red b fb hb;have h1:=(u2.mul v2).trans h;by_cases hf:i=0
 ·subst hf;obtain⟨x,rfl⟩:=((KF.tp u1).2 rfl).ex;exact⟨x,u2.symm⟩
 ·exfalso;have h2:=h1<|i+j;rw[Vw u1.2 v1.2,show pc c (i+j)=0 from zC,xag]at h2;rcases Fq (by lia) he (xaJ h2)with h3|h3
  ·exact u3 h3
  ·exact v3 h3
theorem ey{p a:Int}(hp:wK p=true)(ha:a%p≠0):∀k,∃w,p^k∣w*a-1
 |0=>⟨0,by rw[xbs];exact Int.one_dvd _⟩
 |k+1=>by
  obtain⟨p1,p2⟩:=zu hp;by_cases hk:k=0
  ·subst hk;obtain⟨Q,rfl⟩:=xaA (show 0<=p by lia);obtain⟨w,hw⟩:=Nk hp (d:=a) fun h=>ha<|xaB h;exact⟨w,by rw[xbn,xbs,xce];exact hw⟩
  ·obtain⟨w,hw⟩:=ey hp ha k;refine⟨w*(2-w*a),?_⟩;have e:w*(2-w*a)*a-1= -((w*a-1)*(w*a-1)):=by
    generalize hx:w*a=x;have:w*(2-x)*a=x*(2-x):=by rw[xbK,xbo (2-x) a,<-xbK,hx]
    rw[this];grind
   rw[e];refine xfP.2<|xbG (ay (i:=k+1) (j:=k+k)) ?_;rw[Int.pow_add];exact xfO hw hw
abbrev Lx:=List Zr×List Int
def pu(xs:List Lx):Pz:=prZ<|xs.map fun x=>(cf x.1:Pz)
def pl(xs:List Lx):Pz:=prZ<|xs.map fun x=>(ci x.2:Pz)
theorem zf7(xs:List Lx):Fs (pu xs):=Fs.prZ fun f hf=>by
 obtain⟨x,_,rfl⟩:=xap.1 hf;exact Fs.cf _
theorem zjU(xs:List Lx):Fs (pl xs):=Fs.prZ fun f hf=>by
 obtain⟨x,_,rfl⟩:=xap.1 hf;exact Fs.ci _
structure Lc(p:Int)(k:Nat)(f:Pz)(n:Nat)(xs:List Lx):Prop where
 hp:wK p=true
 k1:1<=k
 el:∀x∈xs,Up p k x.1 x.2/\Wa p x.2/\x.2.length<=66
 pw:xs.Pairwise fun a b=>qW p (ci a.2)<|ci b.2
 tp:Tp f n
 nb:n<=64
 ps:0<f n
 lc:f n%p≠0
 pm:Pm f
 cg:Cg (p^k) f (pc (f n)*pu xs)
theorem zjf{x:Lx}(h:Up p k x.1 x.2/\Wa p x.2/\x.2.length<=66):Mn (cf x.1) (x.2.length-1):=by
 obtain⟨h1,h2,_⟩:=h;have h3:=h1.top;have h4:=h2.l1;rw[h1.len]at h3;exact⟨h3,fun j hj=>ye<|by rw[h1.len];lia⟩
theorem IC{p:Int}{k:Nat}:∀{xs:List Lx},(∀x∈xs,Up p k x.1 x.2/\Wa p x.2/\x.2.length<=66)->Cg p (pu xs) (pl xs)
 |[],_=>Cg.rfl
 |x::xs,h=>(h x<|FS).1.cg.mul<|IC fun y hy=>h y<|UV _ hy
theorem zje{xs:List Lx}(h:∀x∈xs,Up p k x.1 x.2/\Wa p x.2/\x.2.length<=66):∃d,Mn (pu xs) d:=zaC fun A hA=>by
 obtain⟨x,hx,rfl⟩:=xap.1 hA;exact⟨_,zjf<|h x hx⟩
theorem zda{xs:List Lx}(h:∀x∈xs,Up p k x.1 x.2/\Wa p x.2/\x.2.length<=66):∃d,Mn (pl xs) d:=zaC fun A hA=>by
 obtain⟨x,hx,rfl⟩:=xap.1 hA;exact⟨_,(h x hx).2.1.mn.mn⟩
theorem Lc.lcp{n:Nat}{xs:List Lx}(h:Lc p k f n xs):Cg p f (pc (f n)*pl xs):=
 (h.cg.down<|jj h.k1).trans (Cg.rfl.mul<|IC h.el)
theorem Lc.sf{n:Nat}{xs:List Lx}(h:Lc p k f n xs):∃(m:List Int) (w:Int),Sf p m (xs.map (·.2))/\Cg p (ci m) (pc w*f):=by
 obtain⟨p1,p2⟩:=zu h.hp;obtain⟨w,hw⟩:=ey h.hp h.lc 1;rw[xbn,xbs,xce]at hw;have hz:∀k,n+1<=k->(fun k=>(w*f k)%p) k=0:=fun k hk=>by
  show(w*f k)%p=0;rw[h.tp.2 k (by lia),xaw,xag]
 have hb:(w*f n)%p=1:=by
  have:=(xcH (w*f n)<|xdO p);have h2:(w*f n)%p=1%p:=xaK.2<|xaB hw;rw[h2,xaC (by decide)<|by lia]
 have ha:=rq hz;have hc:=mj (n+1)<|fun k=>(w*f k)%p;have hf:=Bn (n+1)<|fun k=>(w*f k)%p;obtain⟨m,hm⟩:∃m,m=nl (n+1) (fun k=>(w*f k)%p):=⟨_,rfl⟩;rw[<-hm]at ha hc hf;have hd:m.length=n+1:=by
  by_cases e:m.length=n+1
  ·exact e
  ·have:=ha n;rw[zV<|by lia]at this;have h3:(w*f n)%p=0:=this.symm;lia
 have he:Cg p (ci m) (pc w*f):=fun k=>by rw[ha k,zN];exact xaF _ _
 refine⟨m,w,⟨h.hp,⟨⟨fun k=>by rw[ha k];exact(yi).1,fun k=>by rw[ha k];exact(yi).2,hc⟩,by lia,by rw[ha];show(w*f (m.length-1))%p=1;rw[hd];exact hb⟩,by have:=h.nb;lia,fun u hu=> ?_,?_,?_⟩,he⟩
 ·obtain⟨x,hx,rfl⟩:=xap.1 hu;obtain⟨_,h2,h3⟩:=h.el x hx;exact⟨h2,by lia⟩
 ·exact xed.2 h.pw
 ·refine he.trans<|(Cg.rfl.mul h.lcp).trans ?_;rw[<-zf,qQ,xcT];refine Cg.trans (Cg.mul (f':=pc 1) (fun j=> ?_) Cg.rfl)<|Cg.of<|zz _;unfold pc;split
  ·rw[hb];exact(xaC (by decide)<|by lia).symm
  ·rfl
noncomputable def own(p:Int)(u:Pz)(xs:List Lx):List Lx:=by
 classical exact xs.filter fun x=>decide<|Di p (ci x.2) u
noncomputable def FJ(p:Int)(u:Pz)(xs:List Lx):List Lx:=by
 classical exact xs.filter fun x=> !decide (Di p (ci x.2) u)
theorem J5{xs:List Lx}{x:Lx}:x∈own p u xs↔x∈xs/\Di p (ci x.2) u:=by grind [own]
theorem Oe(p:Int)(u:Pz)(xs:List Lx):pu xs=pu (own p u xs)*pu (FJ p u xs)/\pl xs=pl (own p u xs)*pl (FJ p u xs):=by
 classical
 exact⟨dc _ _ xs,dc _ _ xs⟩
theorem Lc.or{n:Nat}{xs:List Lx}(h:Lc p k f n xs)(fu:Fs u)(fv:Fs v)(ub:∀j,b<=j->u j=0)(hb:b<=290)(e:f=u*v){x:Lx}(hx:x∈xs):(Di p (ci x.2) u\/Di p (ci x.2) v)/\¬(Di p (ci x.2) u/\Di p (ci x.2) v):=by
 obtain⟨m,w,hS,hm⟩:=h.sf;obtain⟨h1,h2,h3⟩:=h.el x hx;have ha:x.2∈xs.map (·.2):=xbL hx;constructor
 ·rcases h2.or' h.hp (by lia) ub hb with hd|hc
  ·exact .inl hd
  ·right;have hf:Di p (ci x.2) f:=by
    refine Di.cg ?_ h.lcp.symm;exact(J0 (fun y hy=>by obtain⟨z,_,rfl⟩:=xap.1 hy;exact Fs.ci _)<|xbL (f:=fun x:Lx=>(ci x.2:Pz)) hx).mul _<|Fs.pc _
   rw[e]at hf;exact Di.euclid fv hc hf
 ·rintro⟨d1,d2⟩;exact hS.apart fu fv ⟨pc w,Fs.pc w,by rw[<-e];exact hm⟩ ha d1 d2
theorem Lc.oth_own{n:Nat}{xs:List Lx}(h:Lc p k f n xs)(fu:Fs u)(fv:Fs v)(ub:∀j,b<=j->u j=0)(hb:b<=290)(e:f=u*v):FJ p u xs=own p v xs:=by
 classical
 unfold FJ own;refine List.filter_congr fun x hx=> ?_;obtain⟨h1,h2⟩:=h.or fu fv ub hb e hx;by_cases hd:Di p (ci x.2) u
 ·rw[decide_eq_true hd,decide_eq_false fun hv=>h2 ⟨hd,hv⟩];rfl
 ·rw[decide_eq_false hd,decide_eq_true<|h1.resolve_left hd];rfl
theorem Lc.pcop{n:Nat}{xs:List Lx}(h:Lc p k f n xs):(own p u xs).Pairwise (fun a b=>qW p (ci a.2)<|ci b.2):=by
 classical
 unfold own;exact h.pw.sublist List.filter_sublist
theorem Lc.odv{n:Nat}{xs:List Lx}(h:Lc p k f n xs)(fu:Fs u):Di p (pl<|own p u xs) u:=by
 refine Di.prz fu (fun y hy=>by obtain⟨z,_,rfl⟩:=xap.1 hy;exact Fs.ci _) (xed.2 h.pcop) fun y hy=> ?_;obtain⟨z,hz,rfl⟩:=xap.1 hy;exact(J5.1 hz).2
theorem tF{n:Nat}{xs:List Lx}(h:Lc p k f n xs)(u:Pz):∀x∈own p u xs,Up p k x.1 x.2/\Wa p x.2/\x.2.length<=66:=fun x hx=>h.el x (J5.1 hx).1
theorem Lc.loc{n:Nat}{xs:List Lx}(h:Lc p k f n xs)(hu:Tp u a)(hv:Tp v b)(e:f=u*v):Cg p u (pc (u a)*pl (own p u xs))/\Mn (pl<|own p u xs) a:=by
 obtain⟨p1,p2⟩:=zu h.hp;have fu:=hu.fs;have fv:=hv.fs;have he:a+b=n:=by
  have:=hu.mul hv;rw[<-e]at this;exact this.uniq h.tp
 have hf:f n=u a*v b:=by rw[<-he,e,Vw hu.2 hv.2]
 have ho:FJ p u xs=own p v xs:=h.oth_own fu fv (b:=a+1) (fun j hj=>hu.2 j<|by lia) (by have:=h.nb;lia) e;obtain⟨α,fα,h1⟩:=h.odv fu;obtain⟨β,fβ,h2⟩:=h.odv fv;obtain⟨d0,hg⟩:=zda h.el;have ha:=(Oe p u xs).2;rw[ho]at ha;have h3:Cg p ((α*β-pc (f n))*pl xs) (pc 0):=by
  rw[vi];refine Cg.iff_sub.1<|Cg.trans ?_ h.lcp;rw[e];refine Cg.trans (Cg.of ?_) (h1.mul h2).symm;rw[ha,zf α,zf α,zy (pl<|own p u xs) β]
 have h4:=hg.zero p1 ((fα.mul fβ).subt<|Fs.pc _) fun j _=>by rw[h3 j,zO,xag]
 have hb:¬p∣f n:=fun hd=>h.lc<|xaB hd;obtain⟨x,hx⟩:=Ma h.hp fα fβ (Cg.iff_sub.2 h4) hb;have h5:Cg p u (pc x*pl (own p u xs)):=h1.trans<|hx.mul Cg.rfl;obtain⟨d,hd⟩:=zda<|tF h u;have hc:¬p∣u a:=fun hd=>hb (by rw[hf];exact xbG hd<|xco _ _);have t1:=h5 a;have t2:=h5 d;rw[zN]at t1 t2;rw[hd.1,xcl]at t2;have hi:a=d:=by
  by_cases c1:a<d
  ·exfalso;rw[hu.2 d c1,xag]at t2;refine hc<|xaJ ?_;rw[t1,xbr,<-t2,xaV,xag]
  ·by_cases c2:d<a
   ·exfalso;rw[hd.2 a c2,xaw,xag]at t1;exact hc<|xaJ t1
   ·lia
 subst hi;refine⟨h5.trans<|Cg.mul (fun j=> ?_) Cg.rfl,hd⟩;unfold pc;split
 ·exact t2.symm
 ·rfl
theorem Lc.up{n:Nat}{xs:List Lx}(h:Lc p k f n xs)(hu:Tp u a)(hv:Tp v b)(e:f=u*v):Cg (p^k) u (pc (u a)*pu (own p u xs)):=by
 obtain⟨p1,p2⟩:=zu h.hp;have fu:=hu.fs;have fv:=hv.fs;have hp:a+b=n:=by
  have:=hu.mul hv;rw[<-e]at this;exact this.uniq h.tp
 have hb:f n=u a*v b:=by rw[<-hp,e,Vw hu.2 hv.2]
 have hl:¬p∣f n:=fun hd=>h.lc<|xaB hd;have hq:u a%p≠0:=fun hd=>hl (by rw[hb];exact xbG (xaJ hd)<|xco _ _);have hr:v b%p≠0:=fun hd=>hl (by rw[hb];exact xbG (xaJ hd)<|xcQ _ _);have ho:FJ p u xs=own p v xs:=h.oth_own fu fv (b:=a+1) (fun j hj=>hu.2 j<|by lia) (by have:=h.nb;lia) e;obtain⟨l1,m1⟩:=h.loc hu hv e;obtain⟨l2,m2⟩:=h.loc hv hu (by rw[e,zk]);obtain⟨w,hw⟩:=ey h.hp hq k;obtain⟨z,hz⟩:=ey h.hp hr k;have hk:=jj (p:=p) h.k1;have one:∀{M c d:Int},M∣c*d-1->Cg M (pc c*pc d) (pc 1):=fun{M c d} hd j=>by
  rw[qQ];unfold pc;split
  ·exact xaK.2<|xaB hd
  ·rfl
 have hA:∃A:Pz,Mn A a/\Fs A/\Cg (p^k) A (pc w*u):=by
  refine⟨fun j=>if j=a then 1 else w*u j,⟨iq rfl,fun j hj=> ?_⟩,⟨a+1,fun j hj=> ?_⟩,fun j=> ?_⟩
  ·show(if j=a then(1:Int)else w*u j)=0;rw[zC,hu.2 j hj,xaw]
  ·show(if j=a then(1:Int)else w*u j)=0;rw[zC,hu.2 j (by lia),xaw]
  ·show(if j=a then(1:Int)else w*u j)%_=_;rw[zN];by_cases c:j=a
   ·rw[iq c,c];exact(xaK.2<|xaB hw).symm
   ·rw[ir c]
 obtain⟨A,mA,fA,cA⟩:=hA;obtain⟨dA,he⟩:=zje<|tF h u;have hf:=IC<|tF h u;have hs:=IC<|tF h v;have cu:Cg p A (pl<|own p u xs):=by
  refine(cA.down hk).trans<|(Cg.rfl.mul l1).trans ?_;rw[<-zf];exact(Cg.mul (one<|xbG hk hw) Cg.rfl).trans<|Cg.of<|zz _
 have cv:Cg p (pc z*v) (pl<|own p v xs):=by
  refine(Cg.rfl.mul l2).trans ?_;rw[<-zf];exact(Cg.mul (one<|xbG hk hz) Cg.rfl).trans<|Cg.of<|zz _
 have mu:Mn (pu<|own p u xs) a:=by
  have t1:=(hf.trans cu.symm) a;have t2:=(hf.trans cu.symm) dA;rw[mA.1]at t1;rw[he.1]at t2;have ha:(1:Int)%p=1:=xaC (by decide) (by lia);have:dA=a:=by
   by_cases c1:dA<a
   ·rw[he.2 a c1,xag,ha]at t1;cases t1
   ·by_cases c2:a<dA
    ·rw[mA.2 dA c2,xag,ha]at t2;cases t2
    ·lia
  rw[<-this];exact he
 have hm:qW p (pl<|own p u xs) (pl<|own p v xs):=by
  have:=BA (p:=p) (A:=(own p u xs).map (·.2)) (B:=(own p v xs).map (·.2)) fun c hc d hd=>by
   obtain⟨x,hx,rfl⟩:=xap.1 hc;obtain⟨y,hy,rfl⟩:=xap.1 hd;have hg:=J5.1 hx;have hn:=J5.1 hy;obtain⟨_,i1,i2⟩:=h.el x hg.1;obtain⟨_,i3,i4⟩:=h.el y hn.1;refine i1.cop h.hp i3 (by lia) (by lia) fun ee=> ?_;have:=(h.or fu fv (b:=a+1) (fun j hj=>hu.2 j<|by lia) (by have:=h.nb;lia) e hg.1).2;exact this ⟨hg.2,by rw[ee];exact hn.2⟩
  rw[xcT,xcT]at this;exact this
 have hi:Cg (p^k) (A*(pc z*v)) (pu (own p u xs)*pu (own p v xs)):=by
  have e1:=(Oe p u xs).1;rw[ho]at e1;rw[<-e1];refine(cA.mul Cg.rfl).trans ?_;have e2:pc w*u*(pc z*v)=pc w*(pc z*f):=by rw[e,zf,zy u (pc z) v]
  rw[e2];refine(Cg.mul Cg.rfl<|Cg.mul Cg.rfl h.cg).trans ?_;have e3:pc w*(pc z*(pc (f n)*pu xs))=(pc w*pc (u a))*((pc z*pc (v b))*pu xs):=by
   rw[hb,<-zf,<-zf,<-zf,qQ,qQ,qQ,qQ,qQ];congr 2;grind
  rw[e3];exact(Cg.mul (one hw)<|(Cg.mul (one hz) Cg.rfl).trans<|Cg.of<|zz _).trans<|Cg.of<|zz _
 obtain⟨r1,_⟩:=Iu p1 mA mu fA (zf7 _) ((Fs.pc z).mul fv) (zf7 _) (hm.congr cu.symm cv.symm) (cu.trans hf.symm) (cv.trans hs.symm) k hi;refine Cg.trans ?_<|Cg.rfl.mul r1;refine Cg.trans ?_<|Cg.rfl.mul cA.symm;rw[<-zf];refine Cg.symm<|(Cg.mul (one (d:=w) ?_) Cg.rfl).trans<|Cg.of<|zz _;rw[xbo];exact hw
theorem Lc.step{n:Nat}{xs:List Lx}(h:Lc p k f n xs)(hg:Tp g a)(hq:Tp q b)(pg:0<g a)(e:f=q*g):Lc p k q b (FJ p g xs):=by
 have e2:f=g*q:=by rw[e,zk]
 have hc:a+b=n:=by
  have:=hg.mul hq;rw[<-e2]at this;exact this.uniq h.tp
 have ha:f n=g a*q b:=by rw[<-hc,e2,Vw hg.2 hq.2]
 have ho:FJ p g xs=own p q xs:=h.oth_own hg.fs hq.fs (b:=a+1) (fun j hj=>hg.2 j<|by lia) (by have:=h.nb;lia) e2;have hb:=h.ps;rw[ho];refine⟨h.hp,h.k1,tF h q,h.pcop,hq,by have:=h.nb;lia,?_,fun hd=> ?_,?_,h.up hq hg e⟩
 ·rw[ha]at hb;exact Int.pos_of_mul_pos_right hb pg
 ·exact h.lc<|by rw[ha];exact xaB<|xbG (xaJ hd)<|xcQ _ _
 ·have:=h.pm;rw[e]at this;exact this.left
theorem Lc.pick{n:Nat}{xs S:List Lx}(h:Lc p k f n xs)(hS:∀x∈S,x∈xs)(hg:Tp g a)(hq:Tp q b)(e:f=g*q){γ:Int}(hc:Cg p (pc γ*g) (pc (f n)*pl S)){x:Lx}(hx:x∈xs):Di p (ci x.2) g↔x∈S:=by
 obtain⟨p1,p2⟩:=zu h.hp;have hb:¬p∣f n:=fun hd=>h.lc<|xaB hd;have elS:=fun y hy=>h.el y<|hS y hy;obtain⟨d,hd⟩:=zda elS;have hγ:¬p∣γ:=fun hf=>hb (by
  have t:=hc d;rw[zN,zN,hd.1,xcl]at t;refine xaJ ?_;rw[<-t];exact xaB<|xbG hf<|xco _ _)
 obtain⟨_,i1,i2⟩:=h.el x hx;have unit:∀{c:Int}{y:Pz},¬p∣c->Fs y->Di p (ci x.2) (pc c*y)->Di p (ci x.2) y:=fun{c y} hc fy hd=>by
  rcases i1.or' h.hp (by lia) (f:=pc c) (n:=1) (fun k hk=>by unfold pc;rw[zC]) (by decide)with h1|h1
  ·exact absurd (i1.const p1 h1) hc
  ·exact Di.euclid fy h1 hd
 constructor
 ·intro h1;have h2:Di p (ci x.2) (pl S):=unit hb (zjU S)<|(h1.mul (pc γ)<|Fs.pc γ).cg hc;have h3:=i1.mem h.hp (us:=S.map (·.2)) (by lia) (fun w hw=>by
   obtain⟨y,hy,rfl⟩:=xap.1 hw;obtain⟨_,j1,j2⟩:=elS y hy;exact⟨j1,by lia⟩) (by rw[xcT];exact h2)
  obtain⟨y,hy,e2⟩:=xap.1 h3;have:x=y:=by
   by_cases ne:x=y
   ·exact ne
   ·exfalso;have Vy:=h.pw;have ha:qW p (ci x.2) (ci y.2):=by
     obtain⟨A,B,e3⟩:=xdP hx;have he:=hS y hy;rw[e3]at he Vy;rw[xdj,xbT]at Vy;rcases Nm.1 he with h4|h4
     ·exact(Vy.2.2 y h4 x<|FS).symm
     ·rcases xad.1 h4 with h5|h5
      ·exact absurd h5.symm ne
      ·exact Vy.2.1.1 y h5
    rw[e2]at ha;exact i1.self p1 ha
  rw[this];exact hy
 ·intro h1;refine unit hγ hg.fs<|Di.cg ?_ hc.symm;exact(J0 (fun y hy=>by obtain⟨z,_,rfl⟩:=xap.1 hy;exact Fs.ci _)<|xbL (f:=fun x:Lx=>(ci x.2:Pz)) h1).mul _<|Fs.pc _
end
section
variable{f u v g q:Pz}{p:Int}{k N:Nat}{xs:List Lx}{a:List Int}
theorem zjT{α:Type}{P Q R:α->Bool}:∀{l:List α},(∀x∈l,P x=true->R x=true)->(∀x∈l,Q x=true->R x=true)->(∀x∈l,¬(P x=true/\Q x=true))->(l.filter P).length+(l.filter Q).length<=(l.filter R).length
 |[],_,_,_=>xab _
 |x::l,h1,h2,h3=>by
  have ih:=zjT (l:=l) (fun y hy=>h1 y<|UV _ hy) (fun y hy=>h2 y<|UV _ hy) fun y hy=>h3 y<|UV _ hy;have a1:=h1 x<|FS;have a2:=h2 x<|FS;have a3:=h3 x<|FS;rw[xdk,xdk,xdk];cases hP:P x<;>cases hQ:Q x<;>cases hR:R x<;>simp only[hP,hQ,hR,if_true,xaq,xak,if_false]at a1 a2 a3⊢<;>first|lia|exact absurd (a1 trivial) id|exact absurd (a2 trivial) id|exact absurd ⟨trivial,trivial⟩ a3
def Ls(p:Int)(f:Pz)(xs:List Lx)(c:Nat):Prop:=∀u v,Fs u->Fs v->f=u*v->¬KF u->c<=(own p u xs).length
theorem jo(nf:Nz f)(e:f=u*v):Nz u/\Nz v:=by
 obtain⟨k,hk⟩:=nf;rw[e,xq]at hk;exact⟨xac fun hn=>hk (yJ fun i _=>by rw[Nz.not hn i,xaV]),xac fun hn=>hk<|yJ fun i _=>by rw[Nz.not hn _,xaw]⟩
theorem Ls.one{n:Nat}(h:Lc p k f n xs):Ls p f xs 1:=fun u v fu fv e nc=>by
 obtain⟨nu,nv⟩:=jo h.tp.nz e;obtain⟨a,ha⟩:=Tp.ex fu nu;obtain⟨b,hb⟩:=Tp.ex fv nv;obtain⟨_,hm⟩:=h.loc ha hb e
 cases ho:own p u xs with
 |nil=>
  exfalso;rw[ho]at hm;have h1:=hm.1;refine nc<|(KF.tp ha).2<|xac fun h0=> ?_;rw[show pl [] a=0 from ir h0]at h1;cases h1
 |cons x r=>exact Nat.succ_le_succ<|xah _
theorem Ls.two{w:Pz}{n:Nat}(h:Lc p k f n xs)(fu:Fs u)(fv:Fs v)(fw:Fs w)(e:f=u*v*w):(own p u xs).length+(own p v xs).length<=(own p (u*v) xs).length:=by
 classical
 obtain⟨n1,nw⟩:=jo h.tp.nz e;obtain⟨nu,nv⟩:=jo n1 rfl;obtain⟨a,ha⟩:=Tp.ex fu nu;obtain⟨b,hb⟩:=Tp.ex (fv.mul fw)<|Nz.mul fv fw nv nw;have hc:a+b=n:=by
  have:=ha.mul hb;rw[<-zf,<-e]at this;exact this.uniq h.tp
 unfold own;refine zjT (fun x _ h1=> ?_) (fun x _ h1=> ?_) fun x hx ⟨h1,h2⟩=> ?_
 ·refine decide_eq_true ?_;rw[zk];exact(of_decide_eq_true h1).mul v fv
 ·exact decide_eq_true<|(of_decide_eq_true h1).mul u fu
 ·refine(h.or fu (fv.mul fw) (b:=a+1) (fun j hj=>ha.2 j<|by lia) (by have:=h.nb;lia) (by rw[e,zf]) hx).2 ⟨of_decide_eq_true h1,?_⟩;rw[zk];exact(of_decide_eq_true h2).mul w fw
theorem Ls.ir{n c:Nat}(h:Lc p k f n xs)(hl:Ls p f xs c)(hc:1<=c)(fg:Fs g)(fq:Fs q)(e:f=g*q)(pm:Pm g)(nc:¬KF g)(hn:(own p g xs).length<2*c):Ir g:=by
 refine⟨fg,pm,nc,fun u v fu fv e2=>xac fun ha=> ?_⟩;have cu:¬KF u:=fun h=>ha (.inl h);have cv:¬KF v:=fun h=>ha (.inr h);subst e2;have h1:=hl u (v*q) fu (fv.mul fq) (by rw[e,zf]) cu;have h2:=hl v (u*q) fv (fu.mul fq) (by rw[e,zf,zy]) cv;have h3:=Ls.two h fu fv fq e;lia
theorem Ls.step{n c:Nat}(h:Lc p k f n xs)(hl:Ls p f xs c)(fg:Fs g)(fq:Fs q)(e:f=q*g):Ls p q (FJ p g xs) c:=fun u v fu fv e2 nc=>by
 classical
 subst e2;have h1:=hl u (v*g) fu (fv.mul fg) (by rw[e,zf]) nc;obtain⟨n1,ng⟩:=jo h.tp.nz e;obtain⟨nu,nv⟩:=jo n1 rfl;obtain⟨a,ha⟩:=Tp.ex fg ng;obtain⟨b,hb⟩:=Tp.ex fq n1;have hc:b+a=n:=by
  have:=hb.mul ha;rw[<-e]at this;exact this.uniq h.tp
 have:own p u (FJ p g xs)=own p u xs:=by
  unfold own FJ;rw[List.filter_filter];refine List.filter_congr fun x hx=> ?_;by_cases hd:Di p (ci x.2) u
  ·have h2:=(h.or fg fq (b:=a+1) (fun j hj=>ha.2 j<|by lia) (by have:=h.nb;lia) (by rw[e,zk]) hx).2;rw[decide_eq_true hd,decide_eq_false fun hg=>h2 ⟨hg,by rw[zk];exact hd.mul v fv⟩];rfl
  ·rw[decide_eq_false hd];rfl
 rw[this];exact h1
structure nW(N c:Nat)(a:List Int):Prop where
 ln:a.length=c
 lo:∀i,i<c->(i:Int)<=ci a i
 hi:∀i,i<c->ci a i+c<=N+i
 st:∀i,i+1<c->ci a i<ci a (i+1)
def Lt(f g:Nat->Int)(c:Nat):Prop:=∃j,j<c/\f j<g j/\∀k,k<j->f k=g k
theorem tm(f g:Nat->Int)(c:Nat):(∀k,k<c->f k=g k)\/Lt f g c\/Lt g f c:=by
 by_cases h:∃k,k<c/\f k≠g k
 ·obtain⟨j,⟨j1,j2⟩,j3⟩:=zgp h;have je:∀k,k<j->f k=g k:=fun k hk=>xac fun hn=>j3 k hk ⟨by lia,hn⟩;by_cases ha:f j<g j
  ·exact .inr (.inl ⟨j,j1,ha,je⟩)
  ·exact .inr (.inr ⟨j,j1,by lia,fun k hk=>(je k hk).symm⟩)
 ·exact .inl fun k hk=>xac fun hn=>h ⟨k,hk,hn⟩
theorem Lt.asy{f g:Nat->Int}{c:Nat}(h:Lt f g c)(h2:Lt g f c):False:=by
 obtain⟨i,i1,i2,i3⟩:=h;obtain⟨j,j1,j2,j3⟩:=h2;by_cases e:i<j
 ·have:=j3 i e;lia
 ·by_cases e2:j<i
  ·have:=i3 j e2;lia
  ·obtain rfl:i=j:=by lia
   lia
def nxA(c k:Nat)(a:List Int):List Int:=zl c fun i=>if i<k then ci a i else ci a k+1+((i:Int)-k)
theorem nW.up{N c:Nat}{T:List Int}(hT:nW N c T){i:Nat}:∀d,i+d<c->ci T i+d<=ci T (i+d)
 |0,_=>by rw[xbS];lia
 |d+1,h=>by
  have h1:=hT.up (i:=i) d (by lia);have h2:=hT.st (i+d) (by lia);rw[show i+(d+1)=i+d+1 by lia];lia
theorem QM{c:Nat}{i:Nat}(h:i<c:=by lia):ci (nxA c k a) i=if i<k then ci a i else ci a k+1+((i:Int)-k):=jt h
theorem nW.next{c:Nat}(h:nW N c a)(hk:k<c)(h1:ci a k+c<N+k):nW N c (nxA c k a):=by
 refine⟨zL _ _,fun i hi=> ?_,fun i hi=> ?_,fun i hi=> ?_⟩
 ·rw[QM hi];have:=h.lo i hi;have:=h.lo k hk;split<;>lia
 ·rw[QM hi];have:=h.hi i hi;split<;>lia
 ·rw[QM,QM hi];by_cases e:i+1<k
  ·rw[zP,iq e];exact h.st i hi
  ·by_cases e2:i<k
   ·have:=h.st i hi;obtain rfl:k=i+1:=by lia
    rw[zP,zC];lia
   ·rw[ir e2,ir e];lia
theorem zkb{c:Nat}{T:List Int}(hT:nW N c T)(hk:k<c)(ha:∀i,k<i->i<c->ci a i+c=N+i)(h:Lt (ci a) (ci T) c):(∀i,i<c->ci (nxA c k a) i=ci T i)\/Lt (ci<|nxA c k a) (ci T) c:=by
 obtain⟨j,j1,j2,j3⟩:=h;have hb:j<=k:=by
  by_cases e:j<=k
  ·exact e
  ·have:=ha j (by lia) j1;have:=hT.hi j j1;lia
 by_cases e:j<k
 ·exact .inr ⟨j,j1,by rw[QM j1,iq e];exact j2,fun i hi=>by rw[QM,zP];exact j3 i hi⟩
 ·obtain rfl:j=k:=by lia
  rcases tm (ci<|nxA c j a) (ci T) c with h1|h1|h1
  ·exact .inl h1
  ·exact .inr h1
  ·exfalso;obtain⟨i,i1,i2,i3⟩:=h1;rw[QM i1]at i2;by_cases e2:i<j
   ·rw[iq e2,j3 i e2]at i2;lia
   ·rw[ir e2]at i2;have:=hT.up (i:=j) (i-j) (by lia);rw[show j+(i-j)=i by lia]at this;lia
def Nb(N:Nat)(f:Nat->Int):Nat->Nat
 |0=>0
 |n+1=>Nb N f n*(N+1)+(N-(f n).toNat)
theorem zc7(N:Nat)(f:Nat->Int):∀n,Nb N f n+1<=(N+1)^n
 |0=>xab _
 |n+1=>by
  have ih:=xat (N+1)<|zc7 N f n;rw[xaR]at ih;show Nb N f n*(N+1)+(N-(f n).toNat)+1<=(N+1)^n*(N+1);lia
theorem zat{N:Nat}{f g:Nat->Int}:∀n,(∀k,k<n->f k=g k)->Nb N f n=Nb N g n
 |0,_=>rfl
 |n+1,h=>by
  show Nb N f n*(N+1)+_=Nb N g n*(N+1)+_;rw[zat n fun k hk=>h k (by lia),h n<|by lia]
theorem zbh{N:Nat}{f g:Nat->Int}{j:Nat}(h0:∀k,k<j->f k=g k)(h1:0<=g j)(h2:f j=g j+1)(h3:f j<=N):∀d,Nb N f (j+1+d)+1<=Nb N g (j+1+d)
 |0=>by
  show Nb N f j*(N+1)+_+1<=Nb N g j*(N+1)+_;rw[zat j h0];lia
 |d+1=>by
  have ih:=xat (N+1)<|zbh h0 h1 h2 h3 d;rw[xaR]at ih;show Nb N f (j+1+d)*(N+1)+(N-(f<|j+1+d).toNat)+1<=Nb N g (j+1+d)*(N+1)+(N-(g<|j+1+d).toNat);lia
end
section
variable{B R Q:Pz}{la lb ql K J fu:Nat}{b a:List Zr}
structure DvZ(A B Q R:Pz)(la lb n ql K J:Nat):Prop where
 eq:A=Q*B+R
 q1:∀k,k<n->Q k=0
 q2:∀k,ql<=k->Q k=0
 r:∀k,n+(lb-1)<=k->R k=0
 bz:∀k,Bz (K+(ql-n)*(J+1))<|R k
 bq:∀k,Bz (K+(ql-n)*(J+1))<|Q k
theorem DF{n m:Nat}(hB:Tp B m)(h:Zd B R)(hr:∀k,n+m<=k->R k=0):∃w:Pz,R=w*B/\∀k,n<=k->w k=0:=by
 obtain⟨w,fw,rfl⟩:=h;refine⟨w,rfl,?_⟩;by_cases nw:Nz w
 ·obtain⟨d,hd⟩:=Tp.ex fw nw;have h1:=(hd.mul hB).1;intro k hk;refine hd.2 k ?_;by_cases c:d<n
  ·lia
  ·exact absurd (hr (d+m)<|by lia) h1
 ·exact fun k _=>Nz.not nw k
theorem DvZ.step{A:Pz}{n:Nat}(h:DvZ A B Q R la lb (n+1) ql K J)(hB:Tp B (lb-1))(hn:n+1<=ql){c:Int}(hc:R (n+(lb-1))=c*B (lb-1))(hJ:∀k,Bz J<|B k):
 DvZ A B (Zo Q n c) (fun k=>R k-c*sh B n k) la lb n ql K J:=by
 have hb:Bz (K+(ql-(n+1))*(J+1)) c:=(h.bz<|n+(lb-1)).le (by
  rw[hc,xch];exact xbU _ (by have:=hB.1;lia))
 have ha:K+(ql-n)*(J+1)=K+(ql-(n+1))*(J+1)+J+1:=by rw[show ql-n=ql-(n+1)+1 by lia,xaR];lia
 have e1:Zo Q n c=Q+mono n c:=funext fun k=>by
  rw[zM];unfold Zo mono;by_cases e:k=n
  ·rw[iq e,iq e,e,h.q1 n<|by lia];lia
  ·rw[ir e,ir e];lia
 refine⟨?_,fun k hk=> ?_,fun k hk=> ?_,fun k hk=> ?_,fun k=> ?_,fun k=> ?_⟩
 ·rw[e1,ym];funext k;have:=congrFun h.eq k;rw[zM]at this;rw[zM,zM,Xh];show _=_+_+(R k-c*sh B n k);lia
 ·unfold Zo;rw[zC];exact h.q1 k<|by lia
 ·unfold Zo;rw[zC];exact h.q2 k hk
 ·show R k-c*sh B n k=0;unfold sh;rw[zP];by_cases e:k=n+(lb-1)
  ·rw[e,hc,show n+(lb-1)-n=lb-1 by lia];lia
  ·rw[h.r k (by lia),hB.2 _<|by lia];lia
 ·rw[ha];refine Bz.sub ((h.bz k).mono<|by lia)<|hb.mul ?_;unfold sh;split
  ·exact hJ _
  ·exact Bz.zero _
 ·rw[ha];unfold Zo;split
  ·exact hb.mono<|by lia
  ·exact(h.bq k).mono<|by lia
theorem zfB{n:Nat}{c:Int}(hb:xc J b)(he:b.length=lb)(hn:n+lb<=la)(hl:la<=1000)(hR:∀k,Bz K<|R k)(hc:Bz K c)(hK:K+J+1<=40000)(hf:3000000<=fu):
 zm (QG fu (n:Int) b) fu ((0:Int),b,zi la R,zi ql Q,yK c)=some (b,zi la<|fun k=>R k-c*sh (cf b) n k,zi ql Q):=by
 refine zB (fun s:Int×List Zr×List Zr×List Zr×Zr=>∃j:Nat,j<=lb/\s=((j:Int),b,zi la (fun k=>if k<n+j then R k-c*sh (cf b) n k else R k),zi ql Q,yK c)) (fun s=>lb-s.1.toNat) _ ?_ _ _ ⟨0,xah _,?_⟩ (by show lb-0<fu;lia)
 ·rintro s L ⟨j,hj,rfl⟩ ih;unfold QG;simp only;by_cases h1:j<lb
  ·rw[zP,zd rfl];simp only[if_true];have hd:=hb.get j;rw[yp,zj,show(n:Int)+(j:Int)=((n+j:Nat):Int)by lia,ze,ze,zw (by rw[yM];lia),zj,YK (by lia),zC,zd<|yf (hc.ok<|by lia) (KE.of hd<|by lia) hf,zA,VG];have ha:Bz (K+J) (c*cf b j):=hc.mul<|hb.bz j;rw[zd<|qq ((hR _).ok<|by lia) (ha.ok<|by lia) hf,zA,zA,zw (by rw[yM];lia),zj,KU,ze];refine ih _ ⟨j+1,by lia,?_⟩ (by show lb-((j:Int)+1).toNat<lb-(j:Int).toNat;lia);rw[show((j:Int)+1)=((j+1:Nat):Int)by lia];refine xeT rfl<|xeT rfl<|xeT ?_ rfl;refine xe fun k hk=> ?_;unfold Zo;by_cases e:k=n+j
   ·rw[iq e,zP,e];unfold sh;rw[zP,show n+j-n=j by lia]
   ·rw[ir e];show(if k<n+j then R k-c*sh (cf b) n k else R k)=_;by_cases e2:k<n+j
    ·rw[iq e2,zP]
    ·rw[ir e2,zC]
  ·rw[zC,zd rfl];simp only[xak,if_false];obtain rfl:j=lb:=by lia
   refine congrArg some<|xeT rfl<|xeT ?_ rfl;refine xe fun k hk=> ?_;by_cases e:k<n+j
   ·rw[iq e]
   ·rw[ir e];unfold sh;rw[zP,ye<|by lia];lia
 ·refine xeT rfl<|xeT rfl<|xeT ?_ rfl;refine xe fun k hk=> ?_;by_cases e:k<n+0
  ·rw[iq e];unfold sh;rw[zC];lia
  ·rw[ir e]
theorem zhc(a:List Zr):yj a=zi (yj a).length (cf a):=by
 have h:yj a=zi (dg (cf a) a.length) (cf a):=rfl;rw[show(yj a).length=dg (cf a) a.length from xM _ _];exact h
theorem km(h:(yj a).length≠0):Tp (cf a) ((yj a).length-1):=by
 have h1:=Zy (n8 a) h;rw[uU]at h1;exact⟨h1,fun k hk=>by rw[<-uU];exact ye<|by lia⟩
theorem jO(h:(yj a).length=0)(k:Nat):cf a k=0:=by rw[<-uU];exact ye<|by lia
theorem VE(ha:xc K a)(hb:xc J b)(hK:K+(a.length+1)*(J+1)<=30000)(hH:a.length<=1000)(hJ:b.length<=1000)(h0:(yj b).length≠0)(hf:3000000<=fu):
 ∃q e,wJ fu a b=some (q,e)/\(e=0↔Zd (cf b) (cf a))/\(e=0->(cf a:Pz)=cf q*cf b/\yj q=q/\q.length<=a.length):=by
 have hn:=oU hb;have hL:=WC b;have hM:=WC a;have tb:=km h0;have hN:J+1<=(a.length+1)*(J+1):=xdm _ (by lia);obtain⟨la,hi⟩:∃la,la=(yj a).length:=⟨_,rfl⟩;obtain⟨lb,hg⟩:∃lb,lb=(yj b).length:=⟨_,rfl⟩;obtain⟨ql,hO⟩:∃ql,ql=la+1-lb:=⟨_,rfl⟩;have hz:=zhc a;rw[<-hi]at hz;rw[<-hg]at tb h0;unfold wJ;rw[zd<|zF ha (by lia) (by lia) hf,zd<|zF hb (by lia) (by lia) hf,show vO a.length (cf a)=yj a from rfl,show vO b.length (cf b)=yj b from rfl,<-hi,<-hg,zC];by_cases hP:0<la/\la<lb
 ·rw[zd (v:=Sum.inr ())<|by rw[zP,zP]];refine⟨[],4,rfl,⟨fun h=>absurd h (by decide),fun h=> ?_⟩,fun h=>absurd h<|by decide⟩;exfalso;have ta:=km (a:=a) (by lia);rw[<-hi]at ta;obtain⟨w,hw,w0⟩:=DF (n:=0) tb h fun k hk=>ta.2 k (by lia);exact ta.1<|by rw[hw,xq,yJ fun i _=>by rw[w0 i (by lia),xaV]]
 ·rw[zd (v:=Sum.inl ()) (by
   by_cases h1:0<la
   ·rw[zP,zC]
   ·rw[zC])]
  simp only;have hp:max ((la:Int)-lb+1) 0=(ql:Int):=by lia
  rw[ze,ze,zj,hp,yI,yL,zj,dm,yM,ze]
  obtain⟨s,hs,hQ⟩:=yA (f:=QL fu) (fun s:Int×List Zr×List Zr×List Zr=>∃(n:Nat) (Q R:Pz),n<=ql/\s=((n:Int)-1,yj b,zi la R,zi ql Q)/\DvZ (cf a) (cf b) Q R la lb n ql K J) (fun s=>(s.1+1).toNat)
   (fun r=>(∃Q R:Pz,r=.inl (zi la R,zi ql Q)/\DvZ (cf a) (cf b) Q R la lb 0 ql K J)\/(r=.inr 4/\¬Zd (cf b) (cf a))) (by
   rintro s L ⟨n,Q,R,hx,rfl,hI⟩ ih
   unfold QL
   simp only
   cases n with
   |zero=>
    rw[zC]
    exact⟨_,rfl,.inl ⟨Q,R,rfl,hI⟩⟩
   |succ n=>
    have hy:(ql-(n+1))*(J+1)<=(a.length+1)*(J+1):=xat _<|by lia
    have hG:(ql-(n+1))*(J+1)+(J+1)<=(a.length+1)*(J+1):=by
     have:=xat (J+1) (show ql-(n+1)+1<=a.length+1 by lia);rw[xaR,xcb]at this;exact this
    have hl:=hI.bz
    rw[show((n+1:Nat):Int)-1=(n:Int)by lia,zP,<-hg,ze,show(n:Int)+(lb:Int)-1=((n+(lb-1):Nat):Int)by lia,ze,zw (by rw[yM];lia),zj,YK (by lia),show(lb:Int)-1=((lb-1:Nat):Int)by lia,ze,yp,zj]
    have hq:=hn.get<|lb-1
    rw[zd<|XV ((hl _).okS<|by lia) ⟨hq.1,by have:=hq.2;lia⟩ hf,zA,VG,uU]
    simp only
    have hj:=tb.1
    have hE:exE (R<|n+(lb-1)) (cf b<|lb-1)=if R (n+(lb-1))%cf b (lb-1)=0 then 0 else 4:=by unfold exE;rw[ir hj]
    have hX:exI (R<|n+(lb-1)) (cf b<|lb-1)=if R (n+(lb-1))%cf b (lb-1)=0 then R (n+(lb-1))/cf b (lb-1)else 0:=by unfold exI;rw[ir hj]
    by_cases hd:R (n+(lb-1))%cf b (lb-1)=0
    ·rw[iq hd]at hE hX
     obtain⟨c,hu⟩:∃c,c=R (n+(lb-1))/cf b (lb-1):=⟨_,rfl⟩
     have hc:R (n+(lb-1))=c*cf b (lb-1):=by rw[hu,Int.ediv_mul_cancel<|xaJ hd]
     have hA:Bz (K+(ql-(n+1))*(J+1)) c:=(hl<|n+(lb-1)).le (by
      rw[hc,xch];exact xbU _<|by lia)
     rw[hE,hX,<-hu,iq rfl,zw (by rw[yM];lia),zj,KU,zd<|zfB hn hg.symm (by lia) (by lia) hl hA (by lia) hf]
     simp only
     rw[ze]
     have hs:=hI.step tb hx hc hb.bz
     have e:(fun k=>R k-c*sh (cf<|yj b) n k)=fun k=>R k-c*sh (cf b) n k:=by rw[show cf (yj b)=cf b from funext (uU b)]
     rw[e]
     exact ih _ ⟨n,_,_,by lia,rfl,hs⟩ (by show((n:Int)-1+1).toNat<(((n+1:Nat):Int)-1+1).toNat;lia)
    ·rw[ir hd]at hE
     rw[hE,ir<|by decide]
     refine⟨_,rfl,.inr ⟨rfl,fun hz=>hd ?_⟩⟩
     have hm:Zd (cf b) R:=by
      have e:R=(cf a:Pz)-Q*cf b:=funext fun k=>by
       have:=congrFun hI.eq k;rw[zM]at this;rw[yE];lia
      rw[e];exact hz.sub ⟨Q,⟨ql,hI.q2⟩,rfl⟩
     obtain⟨w,hw,w0⟩:=DF (n:=n+1) tb hm hI.r
     have:=Vw (f:=w) (g:=cf b) (n:=n) (m:=lb-1) (fun k hk=>w0 k<|by lia) tb.2
     rw[<-hw]at this
     rw[this,Int.mul_emod_left]) fu ((ql:Int)-1,yj b,yj a,zi ql fun _=>0) ⟨ql,fun _=>0,cf a,xab _,by rw[hz],⟨funext fun k=>by
    rw[zM,xq,yJ fun i _=>xaV _,xcF],fun _ _=>rfl,fun _ _=>rfl,fun k hk=>by
    by_cases e:la=0
    ·exact jO (by lia) k
    ·rw[<-uU];exact ye (by lia),fun k=>(ha.bz k).mono (by lia),fun k=>Bz.zero _⟩⟩ (by show((ql:Int)-1+1).toNat<fu;lia)
  rw[zd hs];rcases hQ with⟨Q,R,rfl,hI⟩|⟨rfl,hB⟩
  ·have hy:(ql-0)*(J+1)<=(a.length+1)*(J+1):=xat _ (by lia);have hC:xc 30000 (zi la R):=Qu fun j=>(hI.bz j).mono (by lia);have hD:xc 30000 (zi ql Q):=Qu fun j=>(hI.bq j).mono (by lia);have hv:∀k,la<=k->R k=0:=fun k hk=>by
    by_cases e:la=0
    ·have h1:=congrFun hI.eq k;rw[zM,xq,yJ (n:=k+1) fun i _=>by rw[hI.q2 i (by lia),xaV],jO<|by lia]at h1;lia
    ·exact hI.r k<|by lia
   simp only;rw[zd<|zF hC (by decide) (by rw[yM];lia) hf,yM,r9];by_cases hr:(vO la R).length=0
   ·have ho:∀k,R k=0:=fun k=>by rw[<-jD hv k];exact ye<|by lia
    have hF:(cf (vO ql Q):Pz)=Q:=funext fun k=>jD hI.q2 k;have he:(cf a:Pz)=cf (vO ql Q)*cf b:=by
     rw[hF];funext k;have:=congrFun hI.eq k;rw[zM,ho k,xbD]at this;exact this
    rw[zC,zd<|zF hD (by decide) (by rw[yM];lia) hf,yM,r9];refine⟨_,0,rfl,⟨fun _=>⟨_,Fs.cf _,he⟩,fun _=>rfl⟩,fun _=>⟨he,(YV _ _).symm,?_⟩⟩;rw[xM];have:=qe Q ql;lia
   ·rw[zP];refine⟨[],4,rfl,⟨fun h=>absurd h (by decide),fun h=> ?_⟩,fun h=>absurd h<|by decide⟩;exfalso;have e:R=(cf a:Pz)-Q*cf b:=funext fun k=>by
     have:=congrFun hI.eq k;rw[zM]at this;rw[yE];lia
    have hm:Zd (cf b) R:=by
     rw[e];exact h.sub ⟨Q,⟨ql,hI.q2⟩,rfl⟩
    obtain⟨w,hw,w0⟩:=DF (n:=0) tb hm hI.r;have ho:∀k,R k=0:=fun k=>by rw[hw,xq,yJ fun i _=>by rw[w0 i (by lia),xaV]]
    have ht:=Zy (YV la R) hr;rw[jD hv]at ht;exact ht<|ho _
  ·exact⟨[],4,rfl,⟨fun h=>absurd h (by decide),fun h=>absurd h hB⟩,fun h=>absurd h<|by decide⟩
theorem nJ(ha:xc K a)(hb:xc J b)(hK:K<=40000)(hJ:J<=40000)(hc:a.length<=1000)(hd:b.length<=1000)(h0:(yj b).length=0)(hf:3000000<=fu):wJ fu a b=some ([],3):=by grind [wJ,yj,vO,cf,zd,zF]
end
section
variable{N fu:Nat}{a:List Int}
theorem nW.ext{c:Nat}{b:List Int}(ha:nW N c a)(hb:nW N c b)(h:∀k,k<c->ci a k=ci b k):a=b:=by
 rw[<-H2 a,<-H2 b,ha.ln,hb.ln];exact yu h
theorem Ao{c:Nat}(hc:c<=1000)(hf:3000000<=fu):zm (fun L (z:List Int×Int)=>
 if z.2<((zl c fun _=>0).length:Int)then
  zH z.2 z.1.length fun j=>
  nm (z.1.set j z.2) fun xs=>
  zg (z.2+1) fun i=>L (xs,i)
 else some z.1) fu (zl c fun _=>0,0)=some (zl c fun i=>(i:Int)):=by
 refine zB (fun s:List Int×Int=>∃j:Nat,j<=c/\s=(zl c (fun k=>if k<j then(k:Int)else 0),(j:Int))) (fun s=>c-s.2.toNat) _ ?_ _ _ ⟨0,xah _,?_⟩ (by show c-0<fu;lia)
 ·rintro s L ⟨j,hj,rfl⟩ ih
  simp only[zL]
  by_cases h1:j<c
  ·rw[zP,zw h1,zj,j8,ze]
   refine ih _ ⟨j+1,by lia,?_⟩ (by show c-((j:Int)+1).toNat<c-(j:Int).toNat;lia)
   refine xeT (yu fun k hk=> ?_) rfl
   unfold Zo
   by_cases e:k=j
   ·rw[iq e,zP,e]
   ·rw[ir e]
    show(if k<j then(k:Int)else 0)=_
    by_cases e2:k<j
    ·rw[iq e2,zP]
    ·rw[ir e2,zC]
  ·rw[zC]
   obtain rfl:j=c:=by lia
   exact congrArg some<|yu fun k hk=>iq hk
 ·exact xeT (yu fun k hk=>(ir<|xbl k).symm) rfl
theorem DX{c:Nat}(ha:nW N c a)(hN:N<=1000)(hf:3000000<=fu):
 ∃i:Int,zm (fun L i=>
 if 0<=i then
  zH i a.length fun j=>
  nm (a.getD j 0) fun y=>
  zg ((N:Int)-c) fun e=>
  zg (e+i) fun e=>
  if y=e then zg (i-1) fun i=>L i
  else some i
 else some i) fu ((c:Int)-1)=some i/\ -1<=i/\i<c/\(∀j:Nat,i<j->j<c->ci a j+c=N+j)/\∀k:Nat,i=k->ci a k+c<N+k:=by
 have hb:c<=N\/c=0:=by
  by_cases h:c=0
  ·exact .inr h
  ·have:=ha.hi 0 (by lia);have:=ha.lo 0 (by lia);exact .inl<|by lia
 obtain⟨r,h1,h2⟩:=yA (f:=fun L (i:Int)=>
  if 0<=i then
   zH i a.length fun j=>
   nm (a.getD j 0) fun y=>
   zg ((N:Int)-c) fun e=>
   zg (e+i) fun e=>
   if y=e then zg (i-1) fun i=>L i
   else some i
  else some i) (fun i:Int=> -1<=i/\i<c/\∀j:Nat,i<j->j<c->ci a j+c=N+j) (fun i=>(i+1).toNat) (fun i=> -1<=i/\i<c/\(∀j:Nat,i<j->j<c->ci a j+c=N+j)/\∀k:Nat,i=k->ci a k+c<N+k) (by
   rintro i L ⟨i1,i2,i3⟩ ih;by_cases h0:0<=i
   ·obtain⟨k,rfl⟩:=xaA h0;have hd:=ha.ln;rw[iq h0,yp,zj,ze,ze,ZA];by_cases e:ci a k=(N:Int)-c+k
    ·rw[iq e,ze];refine ih _ ⟨by lia,by lia,fun j hj hc=> ?_⟩ (by lia);by_cases e2:j=k
     ·rw[e2];lia
     ·exact i3 j (by lia) hc
    ·rw[ir e];refine⟨_,rfl,i1,i2,i3,fun j hj=> ?_⟩;obtain rfl:k=j:=by lia
     have:=ha.hi k (by lia);lia
   ·rw[ir h0];exact⟨_,rfl,i1,i2,i3,fun j hj=>by lia⟩) fu ((c:Int)-1) ⟨by lia,by lia,fun j hj hc=>by lia⟩ (by lia)
 exact⟨r,h1,h2⟩
theorem Hz{c k:Nat}(ha:nW N c a)(hN:N<=1000)(hk:k<c)(h1:ci a k+c<N+k)(hf:3000000<=fu):
 zm (fun L (z:Int×List Int)=>
 if z.1<(c:Int)then
  zg (z.1-1) fun e=>
  zH e z.2.length fun j=>
  nm (z.2.getD j 0) fun y=>
  zg (y+1) fun e=>
  zH z.1 z.2.length fun j=>
  nm (z.2.set j e) fun xs=>
  zg (z.1+1) fun i=>L (i,xs)
 else some z.2) fu ((k:Int)+1,a.set k (ci a k+1))=some (nxA c k a):=by
 have hb:=ha.hi k hk;have hc:=ha.lo k hk;refine zB (fun s:Int×List Int=>∃j:Nat,k+1<=j/\j<=c/\s=((j:Int),zl c (fun i=>if i<k then ci a i else if i<j then ci a k+1+((i:Int)-k)else ci a i))) (fun s=>c-s.1.toNat) _ ?_ _ _ ⟨k+1,xab _,hk,?_⟩ (by show c-((k:Int)+1).toNat<fu;lia)
 ·rintro s L ⟨j,j1,j2,rfl⟩ ih;simp only[zL];by_cases h2:j<c
  ·obtain⟨i,rfl⟩:∃i,j=i+1:=⟨j-1,by lia⟩;rw[zP,show((i+1:Nat):Int)-1=(i:Int)by lia,ze,yp,zj,qf,zC,zP,ze,zw h2,zj,j8,ze];refine ih _ ⟨i+1+1,by lia,by lia,?_⟩ (by show c-(((i+1:Nat):Int)+1).toNat<c-((i+1:Nat):Int).toNat;lia);refine xeT rfl<|yu fun m hm=> ?_;unfold Zo;by_cases e:m=i+1
   ·rw[iq e,zC,zP];lia
   ·rw[ir e];show(if m<k then ci a m else if m<i+1 then ci a k+1+((m:Int)-k)else ci a m)=_;by_cases e2:m<k
    ·rw[iq e2,iq e2]
    ·rw[ir e2,ir e2];by_cases e3:m<i+1
     ·rw[iq e3,zP]
     ·rw[ir e3,zC]
  ·rw[zC];obtain rfl:j=c:=by lia
   refine congrArg some<|yu fun m hm=> ?_;by_cases e2:m<k
   ·rw[iq e2,iq e2]
   ·rw[ir e2,ir e2,iq hm]
 ·refine xeT (by show(k:Int)+1=((k+1:Nat):Int);lia) ?_;show a.set k (ci a k+1)=_;conv=>lhs;rw[<-H2 a,ha.ln]
  rw[j8];refine yu fun m hm=> ?_;unfold Zo;by_cases e:m=k
  ·rw[iq e,zC,zP,e];rw[show ci (zl c<|ci a) k=ci a k from jt hk];lia
  ·rw[ir e];by_cases e2:m<k
   ·rw[iq e2]
   ·rw[ir e2,zC]
theorem Ek{X Y:Type}{c:Nat}{g:List Int->X->Option (List Int×(X⊕Y))}{x0:X}{Rej:List Int->Prop}{Acc:List Int->Y->Prop}(hk:1<=c)(hl:c<=N)(hN:N<=10)(he:c<=5)(hf:3000000<=fu)(hg:∀a,nW N c a->(g a x0=some (a,.inl x0)/\Rej a)\/∃y a',g a x0=some (a',.inr y)/\Acc a y):
 (wq fu (c:Int) (N:Int) g x0=some (.inl x0)/\∀a,nW N c a->Rej a)\/∃a y,nW N c a/\Acc a y/\wq fu (c:Int) (N:Int) g x0=some (.inr y):=by
 have h0:nW N c (zl c fun i=>(i:Int)):=⟨zL _ _,fun i hi=>by rw[jt hi];lia,fun i hi=>by rw[jt hi];lia,fun i hi=>by rw[jt (by lia),jt hi];lia⟩;have ha:∀T,nW N c T->¬Lt (ci T) (ci<|zl c fun i=>(i:Int)) c:=fun T hT ⟨j,j1,j2,_⟩=>by
  rw[jt j1]at j2;have:=hT.lo j j1;lia
 have hj:Nb N (ci<|zl c fun i=>(i:Int)) c<fu:=by
  have h1:=zc7 N (ci<|zl c fun i=>(i:Int)) c;have h2:(N+1)^c<=11^5:=xan (Nat.pow_le_pow_left (by lia) c)<|xaz (by decide) he;have h3:(11:Nat)^5=161051:=by decide
  lia
 obtain⟨r,hr,hQ⟩:=yA (f:=fun L (q:X×List Int)=>vh fu (c:Int) (N:Int) g q.1 q.2 (fun x xs _ _ _ _ _=>L (x,xs)) (fun x _ _ _=>some (.inl x)) fun y _=>some (.inr y))
  (fun s:X×List Int=>s.1=x0/\nW N c s.2/\∀T,nW N c T->Lt (ci T) (ci s.2) c->Rej T) (fun s=>Nb N (ci s.2) c) (fun r:X⊕Y=>(r=.inl x0/\∀a,nW N c a->Rej a)\/∃a y,nW N c a/\Acc a y/\r=.inr y) (by
  rintro⟨x,a⟩ L ⟨hx,hI,hR⟩ ih
  simp only at hx hI hR
  subst hx
  simp only
  unfold vh
  rcases hg a hI with⟨e,rj⟩|⟨y,a',e,ac⟩
  ·rw[zd e]
   simp only[Sum.elim_inl]
   obtain⟨i,l1,l2,l3,l4,l5⟩:=DX hI (by lia) hf
   rw[ze,zd l1]
   by_cases hi:i<0
   ·rw[iq hi]
    refine⟨_,rfl,.inl ⟨rfl,fun T hT=> ?_⟩⟩
    rcases tm (ci T) (ci a) c with h|h|h
    ·rw[hT.ext hI h];exact rj
    ·exact hR T hT h
    ·exfalso
     obtain⟨j,j1,j2,_⟩:=h
     have:=l4 j (by lia) j1
     have:=hT.hi j j1
     lia
   ·obtain⟨k,rfl⟩:=xaA (show 0<=i by lia)
    have hn:=hI.ln
    have h5:=l5 k rfl
    have ho:=hI.lo k<|by lia
    rw[ir hi,yp,zj,ZA,ze,yp,zj,ze,zd<|Hz hI (by lia) (by lia) h5 hf]
    refine ih _ ⟨rfl,hI.next (by lia) h5,fun T hT hb=> ?_⟩ ?_
    ·rcases tm (ci T) (ci a) c with h|h|h
     ·rw[hT.ext hI h];exact rj
     ·exact hR T hT h
     ·exfalso
      simp only at hb
      rcases zkb (k:=k) hT (by lia) (fun i hi hc=>l4 i (by lia) hc) h with h6|h6
      ·obtain⟨j,j1,j2,_⟩:=hb
       rw[h6 j j1]at j2
       lia
      ·exact hb.asy h6
    ·obtain⟨d,hd⟩:∃d,c=k+1+d:=⟨c-k-1,by lia⟩
     have:=zbh (N:=N) (f:=ci<|nxA c k a) (g:=ci a) (j:=k) (fun m hm=>by rw[QM,iq hm]) (by lia) (by rw[QM,zC];lia) (by rw[QM,zC];lia) d
     rw[<-hd]at this
     exact this
  ·rw[zd e]
   simp only[Sum.elim_inr]
   exact⟨_,rfl,.inr ⟨a,y,hI,ac,rfl⟩⟩) fu (x0,zl c fun i=>(i:Int)) ⟨rfl,h0,fun T hT h=>absurd h (ha T hT)⟩ hj
 have hM:wq fu (c:Int) (N:Int) g x0=some r:=by
  unfold wq;rw[yI,yL,zj,J3,zd<|Ao (by lia) hf];exact hr
 rw[hM];rcases hQ with⟨rfl,h⟩|⟨a,y,h1,h2,rfl⟩
 ·exact .inl ⟨rfl,h⟩
 ·exact .inr ⟨a,y,h1,h2,rfl⟩
end
section
variable{a:List Int}{m x:Int}{xs:List Lx}{i fu:Nat}
theorem zfs{a:List Zr}(h:¬m<=0):Su a m=(wy a m,0):=by unfold Su;rw[ir h]
theorem lA(a:List Zr):(va a).natAbs=Yc (cf a) (yj a).length:=by grind [va,Int.natAbs_neg,xbe]
theorem Q9(a:List Zr):pc (va a)*(cf (vt a):Pz)=cf a:=by grind [zN,Xr,aA,Int.mul_ediv_cancel']
theorem QV{a:List Zr}(h:(yj a).length≠0):Pm (cf<|vt a)/\Po (cf<|vt a):=by
 have h0:=sY h;have hm:=Q9 a;constructor
 ·intro d hd;have h1:(va a).natAbs*d∣Yc (cf a) (yj a).length:=FE _ fun k _=>by
   have h2:=congrFun hm k;rw[zN]at h2;have h3:=xcq.2<|xfO (xdO<|va a)<|hd k;rw[h2,xch,xbe]at h3;exact h3
  rw[<-lA]at h1;have h5:(va a).natAbs*d∣(va a).natAbs*1:=by rw[xcI];exact h1
  exact Nat.dvd_one.1<|Nat.dvd_of_mul_dvd_mul_left (by lia) h5
 ·have ht:=km h;refine⟨(yj a).length-1,?_,fun k hk=>by rw[Xr,ht.2 k hk,xfI]⟩;have h2:=congrFun hm<|(yj a).length-1;rw[zN]at h2;have h3:=ht.1;obtain⟨x,hx⟩:∃x,x=cf (vt a) ((yj a).length-1):=⟨_,rfl⟩;rw[<-hx]at h2⊢;have hg:(0:Int)<(Yc (cf a) (yj a).length:Nat):=by
   have:=lA a;lia
  have hc:va a=if cf (yj a) ((yj a).length-1)<0 then-((Yc (cf a) (yj a).length:Nat):Int)else((Yc (cf a) (yj a).length:Nat):Int):=rfl;rw[uU]at hc;by_cases hn:cf a ((yj a).length-1)<0
  ·rw[iq hn]at hc;refine xac fun ha=> ?_;have:=Int.mul_nonneg_of_nonpos_of_nonpos (show va a<=0 by lia) (show x<=0 by lia);lia
  ·rw[ir hn]at hc;refine xac fun ha=> ?_;have:=Int.mul_nonpos_of_nonneg_of_nonpos (show 0<=va a by lia) (show x<=0 by lia);lia
theorem W4(a:List Zr):yj (vt a)=vt a:=(YV _ _).symm
theorem zbd(a:List Zr)(hm:0<m)(k:Nat):cf (eo a m) k=near (cf a k) m:=jD (fun j hj=>by
 rw[ye hj];unfold near;rw[xag,zC]) k
theorem zaw(x:Int):near x m%m=x%m:=by
 unfold near;split
 ·rw[Int.sub_emod_right,xaF]
 ·exact xaF _ _
theorem zeH{y:Int}(h:x%m=y%m)(hb:2*y.natAbs<m):near x m=y:=by
 unfold near;rw[h];by_cases hy:0<=y
 ·rw[xaC hy (by lia),zC]
 ·have e:y%m=y+m:=by
   rw[<-Int.add_emod_right];exact xaC (by lia)<|by lia
  rw[e,zP];lia
def BQ(xs:List Lx)(a:List Int)(c:Nat):List Lx:=(xbb c).map fun i=>xs.getD (ci a i).toNat ([],[])
theorem zaj(xs:List Lx)(a:List Int)(c:Nat):BQ xs a (c+1)=BQ xs a c++[xs.getD (ci a c).toNat ([],[])]:=by grind [BQ,xdu]
theorem Sk(a b:List Lx):pu (a++b)=pu a*pu b:=by grind [pu,wk]
theorem Lv:(xs.map (·.1)).getD i []=(xs.getD i ([],[])).1:=by grind
theorem iK(h:i<xs.length:=by lia):xs.getD i ([],[])∈xs:=by grind [xaa,xbk]
theorem Ry{c k:Nat}{p:Int}{f:List Zr}(hp:wK p=true)(hg:1<=k)(hk:k<=1000)(hm:∀x∈xs,Up p k x.1 x.2/\Wa p x.2/\x.2.length<=66)(hN:xs.length<=1000)(ha:nW xs.length c a)(hc:c<=5)(hn:xc 250 f)(hr:0<f.length)(ht:f.length<=66)(hf:3000000<=fu):
 ∃t,qB fu f (xs.map (·.1)) a (yK<|p^k)=some (vt<|eo t<|p^k,a)/\xc 250 t/\t.length<=1+c*66/\Cg (p^k) (cf t) (pc (cf f<|f.length-1)*pu (BQ xs a c)):=by
 obtain⟨p1,p2⟩:=zu hp;have hb:=lJ hp hk;have hu:=cG hp hg;have hd:gI (yK<|p^k):=hb.okS (by decide);have hv:=ha.ln
 obtain⟨s,hs,t,rfl,t1,t2,t3⟩:=yA (f:=jB fu (xs.map (·.1)) a<|yK<|p^k) (fun s:List Zr×Int×List Int=>∃(i:Nat) (t:List Zr),i<=c/\s=(t,(i:Int),a)/\xc 250 t/\t.length<=1+i*66/\Cg (p^k) (cf t) (pc (cf f<|f.length-1)*pu (BQ xs a i))) (fun s=>c-s.2.1.toNat)
  (fun r=>∃t:List Zr,r=(t,a)/\xc 250 t/\t.length<=1+c*66/\Cg (p^k) (cf t) (pc (cf f<|f.length-1)*pu (BQ xs a c))) (by
  rintro s L ⟨i,t,hi,rfl,h1,h2,h3⟩ ih
  unfold jB
  simp only
  by_cases he:i<c
  ·have hw:=ha.lo i he
   have hx:=ha.hi i he
   obtain⟨j,hj⟩:=xaA (show 0<=ci a i by lia)
   have ho:=iK (xs:=xs) (i:=j)
   obtain⟨hU,hI,hl⟩:=hm _ ho
   have hy:=hU.len
   rw[zP,zd rfl]
   simp only[if_true]
   rw[yp,zj,ZA,hj,zw (by rw[xaP];lia),zj,Lv,zd<|mI h1 hU.rd.ok (by lia) (by lia) hd hf,zA,zfs<|by lia]
   simp only
   rw[ze]
   have l1:=Zq (yT t (xs.getD j ([],[])).1)<|p^k
   have l2:=jU t (xs.getD j ([],[])).1
   refine ih _ ⟨i+1,_,by lia,rfl,JN hb (by lia),by lia,?_⟩ (by show c-((i:Int)+1).toNat<c-(i:Int).toNat;lia)
   refine(Zx _ _).trans ?_
   rw[qG,zaj,Sk,hj,xaE,<-zf]
   refine h3.mul<|Cg.of ?_
   exact(zU _).symm
  ·rw[zC,zd rfl]
   simp only[xak,if_false]
   obtain rfl:i=c:=by lia
   exact⟨_,rfl,t,rfl,h1,h2,h3⟩) fu (f.drop (f.length-1),0,a) ⟨0,_,xah _,rfl,fun z hz=>hn z (xeM hz),by rw[xbN];lia,by
   rw[CL]
   refine Cg.of<|funext fun j=> ?_
   rw[show BQ xs a 0=[]from rfl,show pu []=pc 1 from rfl,zU]
   cases j with
   |zero=>rfl
   |succ j=>exact ye (p:=[f.getD (f.length-1) (false,[])])<|by simp⟩ (by show c-(0:Int).toNat<fu;lia)
 refine⟨t,?_,t1,t2,t3⟩;unfold qB;rw[show(f.length:Int)-1=((f.length-1:Nat):Int)by lia,ze,yI,yL,zj,zd hs];simp only;have hq:xc 250 (eo t<|p^k):=xn fun j=>Bz.near hb (by lia);have hA:(eo t<|p^k).length<=t.length:=by unfold eo;rw[xM];exact qe _ _
 rw[zd<|iX t1 (by decide) hd (by lia) hf,zA];unfold Mc;rw[zC];simp only;rw[zd<|vM hq (by decide) (by lia) hf]
theorem FV(hl:a.length<=1000)(hf:3000000<=fu):xI fu a x=some (decide<|x∈a,a):=by
 unfold xI vK;obtain⟨s,hs,hQ⟩:=yA (f:=w4 fu a x) (fun i:Int=>0<=i/\i<=a.length/\∀j:Nat,j<i->ci a j≠x) (fun i=>(a.length-i).toNat) (fun r:Unit⊕Int=>(r=.inl ()/\¬x∈a)\/∃i:Nat,r=.inr (i:Int)/\x∈a) (by
  rintro i L ⟨i1,i2,i3⟩ ih;obtain⟨k,rfl⟩:=xaA i1;unfold w4;by_cases h1:k<a.length
  ·rw[zP,zw h1,zj,ZA];by_cases h2:x=ci a k
   ·rw[iq h2];refine⟨_,rfl,.inr ⟨k,rfl,?_⟩⟩;rw[h2,<-ZA,H1,xaa h1];exact xbk h1
   ·rw[ir h2,ze];refine ih _ ⟨by lia,by lia,fun j hj=> ?_⟩ (by lia);by_cases e:j=k
    ·rw[e];exact fun h=>h2 h.symm
    ·exact i3 j<|by lia
  ·rw[zC];refine⟨_,rfl,.inl ⟨rfl,fun hx=> ?_⟩⟩;obtain⟨j,hj,e⟩:=xdA.1 hx;refine i3 j (by lia) ?_;rw[<-ZA,H1,xaa hj];exact e) fu 0 ⟨by lia,by lia,fun j hj=>by lia⟩ (by lia)
 rw[hs];rcases hQ with⟨rfl,h⟩|⟨i,rfl,h⟩
 ·rw[decide_eq_false h];rfl
 ·rw[decide_eq_true h];show(if(0:Int)<=(i:Int)then some (true,a)else some (false,a))=some (true,a);rw[zP]
theorem ET{us:List (List Zr)}(hl:us.length<=1000)(ha:a.length<=1000)(hf:3000000<=fu):
 xo fu us a=some (((xbb us.length).filter fun i:Nat=> !decide ((i:Int)∈a)).map fun i=>us.getD i [],a):=by
 unfold xo;rw[zd (v:=(((xbb us.length).filter fun i:Nat=> !decide ((i:Int)∈a)).map fun i=>us.getD i [],a))];refine zB (fun s:List (List Zr)×Int×List Int=>∃j:Nat,j<=us.length/\s=(((xbb j).filter fun i:Nat=> !decide ((i:Int)∈a)).map fun i=>us.getD i [],(j:Int),a)) (fun s=>us.length-s.2.1.toNat) _ ?_ _ _ ⟨0,xah _,rfl⟩ (by show us.length-0<fu;lia);rintro s L ⟨j,hj,rfl⟩ ih;unfold jI;simp only;by_cases h1:j<us.length
 ·rw[zP,zd rfl];simp only[if_true];rw[zw h1,zj,zd<|FV ha hf];simp only;have hb:((xbb j).filter fun i:Nat=> !decide ((i:Int)∈a)).length<=j:=xan (xfC _ _) (by rw[xcC];exact xab j);by_cases h2:(j:Int)∈a
  ·rw[decide_eq_true h2,ir (by decide),ze];refine ih _ ⟨j+1,by lia,?_⟩ (by show us.length-((j:Int)+1).toNat<us.length-(j:Int).toNat;lia);rw[xdu,List.filter_append,xfi (by rw[decide_eq_true h2];decide),List.filter_nil,xbQ];rfl
  ·rw[decide_eq_false h2,iq (by decide),wE (by rw[xaP];simp only[xaq,xbR];lia),zj,ze];refine ih _ ⟨j+1,by lia,?_⟩ (by show us.length-((j:Int)+1).toNat<us.length-(j:Int).toNat;lia);rw[xdu,List.filter_append,xfh (by rw[decide_eq_false h2];decide),List.filter_nil,xbg];rfl
 ·rw[zC,zd rfl];simp only[xak,if_false];obtain rfl:j=us.length:=by lia
  rfl
end
section
variable{M p:Int}{f q g f0:Pz}{k i fu:Nat}{xs:List Lx}{a:List Int}
def Bdz(M:Int)(f:Pz):Prop:=∀(u v:Pz) (b:Nat),Fs u->Tp v b->f=u*v->∀j,2*((v b*u j).natAbs:Int)<M
theorem Bdz.dv(h:Bdz M f)(ng:Nz g)(fg:Fs g)(e:f=q*g):Bdz M q:=fun u v b fu hv e2 j=>by
 obtain⟨a,ha⟩:=Tp.ex fg ng;have h1:=h u (v*g) (b+a) fu (hv.mul ha) (by rw[e,e2,zf]) j;rw[Vw hv.2 ha.2]at h1;have h2:(v b*u j).natAbs<=(v b*g a*u j).natAbs:=by
  rw[Int.mul_right_comm,xch<|v b*u j];exact xbU _ (by have:=ha.1;lia)
 lia
theorem ziL{K:Nat}(h:Bdz M f)(ng:Nz g)(fg:Fs g)(fq:Fs q)(e:f=q*g)(hM:Bz K M)(k:Nat):Bz K (q k):=by
 obtain⟨a,ha⟩:=Tp.ex fg ng;have h1:=h q g a fq ha e k;have h2:(q k).natAbs<=(g a*q k).natAbs:=by
  rw[xch];exact xdm _ (by have:=ha.1;lia)
 exact hM.le<|by lia
structure Gd(g:List Zr):Prop where
 can:yj g=g
 ir:Ir (cf g)
 ps:Po (cf g)
 ok:xc 250 g
 ln:g.length<=11
structure Ch(p:Int)(k:Nat)(f0:Pz)(F:List Zr)(xs:List Lx)(out:List (List Zr))(c:Nat):Prop where
 lc:Lc p k (cf F) (F.length-1) xs
 k2:k<=1000
 can:yj F=F
 ok:xc 250 F
 ln:F.length<=11
 bd:Bdz (p^k) (cf F)
 ls:Ls p (cf F) xs c
 ct:xs.length+out.length<=10
 pr:f0=prZ (out.map fun g=>(cf g:Pz))*cf F
 gd:∀g∈out,Gd g
theorem Ch.l0{c:Nat}{F:List Zr}{out:List (List Zr)}(h:Ch p k f0 F xs out c):0<F.length:=by
 have h1:=h.lc.tp.1;by_cases e:F.length=0
 ·exact absurd (ye<|by lia) h1
 ·lia
theorem zgP(p1:2<=p)(ha:∀x∈xs,Wa p x.2)(Vy:xs.Pairwise fun a b=>qW p (ci a.2)<|ci b.2){j:Nat}(hi:i<xs.length)(hj:j<xs.length)(h:xs.getD i ([],[])=xs.getD j ([],[])):i=j:=by grind [Wa.self,xcW,xaa,xbk]
theorem TJ(p1:2<=p)(ha:∀x∈xs,Wa p x.2)(Vy:xs.Pairwise fun a b=>qW p (ci a.2)<|ci b.2):xs.Nodup:=by grind [Wa.self,xcW,xbk]
theorem Na{α:Type}(d:α)(xs:List α):xs=(xbb xs.length).map fun i=>xs.getD i d:=by
 refine xeS (by simp) fun i h1 h2=> ?_;rw[xfE,List.getElem_range,H1,xaa h1];rfl
theorem N9{c:Nat}(ha:nW xs.length c a):∀x∈BQ xs a c,x∈xs:=fun x hx=>by
 obtain⟨j,hj,rfl⟩:=xap.1 hx;have hj:=xbf.1 hj;have h1:=ha.hi j hj;have h2:=ha.lo j hj;exact iK
theorem zim{c:Nat}(p1:2<=p)(hb:∀x∈xs,Wa p x.2)(Vy:xs.Pairwise fun a b=>qW p (ci a.2)<|ci b.2)(ha:nW xs.length c a)(hi:i<xs.length):xs.getD i ([],[])∈BQ xs a c↔(i:Int)∈a:=by
 have hc:=ha.ln;constructor
 ·intro h;obtain⟨j,hj,e⟩:=xap.1 h;have hj:=xbf.1 hj;have h1:=ha.hi j hj;have h2:=ha.lo j hj;have e2:=zgP p1 hb Vy (by lia) hi e;have e3:(i:Int)=ci a j:=by lia
  rw[e3,<-ZA,H1,xaa<|by lia];exact xbk _
 ·intro h;obtain⟨j,hj,e⟩:=xdA.1 h;have e2:ci a j=(i:Int):=by
   rw[<-ZA,H1,xaa hj];exact e
  exact xap.2 ⟨j,xbf.2 (by lia),by rw[e2];rfl⟩
theorem OV{α:Type}(P:α->Bool):∀l:List α,(l.filter P).length+(l.filter fun x=> !P x).length=l.length
 |[]=>rfl
 |x::l=>by
  have ih:=OV P l;rw[xdk,xdk];cases h:P x<;>simp[h]<;>lia
theorem Ni{c:Nat}{F:List Zr}{out:List (List Zr)}(h:Ch p k f0 F xs out c)(hF:1<=c)(hH:c<=5)(ha:nW xs.length c a)(hf:3000000<=fu):
 (vN fu (yK<|p^k) a (F,xs.map (·.1),out)=some (a,.inl (F,xs.map (·.1),out))/\∀u v,Fs u->Fs v->cf F=u*v->¬KF u->own p u xs≠BQ xs a c)\/
 ∃y a',vN fu (yK<|p^k) a (F,xs.map (·.1),out)=some (a',.inr y)/\∃F' xs' out',y=(F',xs'.map (·.1),out')/\Ch p k f0 F' xs' out' c/\xs'.length<xs.length:=by
 have hL:=h.lc;have hp:=hL.hp;obtain⟨p1,p2⟩:=zu hp;have hv:=lJ hp h.k2;have hY:=cG hp hL.k1;have hI:=h.l0;have hZ:=h.ln;have h0:=h.ct;have hz:=fun x hx=>(hL.el x hx).2.1;obtain⟨t,t1,t2,t3,t4⟩:=Ry (fu:=fu) hp hL.k1 h.k2 hL.el (by lia) ha hH h.ok hI (by lia) hf;obtain⟨G,hG⟩:∃G,G=eo t (p^k):=⟨_,rfl⟩;rw[<-hG]at t1;have hA:∀j,cf G j=near (cf t j) (p^k):=fun j=>by rw[hG];exact zbd t (by lia) j
 have hJ:Cg (p^k) (cf G) (pc (cf F<|F.length-1)*pu (BQ xs a c)):=Cg.trans (fun j=>by rw[hA];exact zaw _) t4;have hK:xc 250 G:=by rw[hG];exact xn fun j=>Bz.near hv<|by lia
 have h8:G.length<=400:=by
  have:(eo t<|p^k).length<=t.length:=by unfold eo;rw[xM];exact qe _ _
  rw[hG];lia
 have hk:=zbu hK;have hM:=Yp G;have h9:=WC G;have hm:=Q9 G;have hn:=W4 G;obtain⟨g,hg⟩:∃g,g=vt G:=⟨_,rfl⟩;rw[<-hg]at t1 hk hM hm hn;have exact_:∀u v,Fs u->Fs v->cf F=u*v->own p u xs=BQ xs a c->∃b,Tp v b/\(cf G:Pz)=pc (v b)*u:=fun u v fu' fv e ho=>by
  obtain⟨nu,nv⟩:=jo hL.tp.nz e;obtain⟨d,hd⟩:=Tp.ex fu' nu;obtain⟨b,hb⟩:=Tp.ex fv nv;refine⟨b,hb,funext fun j=> ?_⟩;have h1:=hL.up hd hb e;have hN:d+b=F.length-1:=by
   have:=hd.mul hb;rw[<-e]at this;exact this.uniq hL.tp
  have hO:cf F (F.length-1)=u d*v b:=by rw[<-hN,e,Vw hd.2 hb.2]
  rw[hA,zN];refine zeH ?_ ?_
  ·have h2:Cg (p^k) (cf t) (pc (v b)*u):=by
    refine t4.trans ?_;rw[hO,<-ho,xbo,<-qQ,zf];exact Cg.rfl.mul h1.symm
   rw[h2 j,zN]
  ·exact h.bd u v b fu' hb e j
 have reject:¬(Zd (cf g) (cf F)/\1<g.length)->∀u v,Fs u->Fs v->cf F=u*v->¬KF u->own p u xs≠BQ xs a c:=fun hP u v fu' fv e nc ho=>by
  obtain⟨b,hb,he⟩:=exact_ u v fu' fv e ho;obtain⟨nu,_⟩:=jo hL.tp.nz e;have hq:(yj G).length≠0:=fun e0=>by
   obtain⟨j,hj⟩:=nu;have:=jO e0 j;rw[he,zN]at this;exact(xdF hb.1 hj) this
  obtain⟨q1,q2⟩:=QV hq;rw[<-hg]at q1 q2;have z1:Zd (cf g) (cf G):=⟨pc<|va G,Fs.pc _,hm.symm⟩;rw[he]at z1;have z2:=Zd.pm (Fs.cf g) q1 hb.1 z1;refine hP ⟨z2.trans ⟨v,fv,by rw[e,zk]⟩,xac fun hl=>nc fun j hj=> ?_⟩;have h3:cf G j=0:=by rw[<-hm,zN,ye (by lia),xaw]
  rw[he,zN]at h3;rcases xeF.1 h3 with h4|h4
  ·exact absurd h4 hb.1
  ·exact h4
 have hB:∀{q:List Zr}{e:Int},wJ fu F g=some (q,e)->vN fu (yK<|p^k) a (F,xs.map (·.1),out)=if e=0 then(if 1<(g.length:Int)then ck ((out.length+1)*24<=140737488355328)<|nm (out++[g]) fun pr=>bd (xo fu (xs.map (·.1)) a) fun w=>some (w.2,.inr (q,w.1,pr))else some (a,.inl (F,xs.map (·.1),out)))else some (a,.inl (F,xs.map (·.1),out)):=fun{q e} hd=>by
  unfold vN;simp only;rw[zd t1];simp only;rw[zd hd]
 by_cases hr:(yj g).length=0
 ·rw[hB<|nJ h.ok hk (by decide) (by decide) (by lia) (by lia) hr hf,ir<|by decide];refine .inl ⟨rfl,reject fun hh=> ?_⟩;rw[hn]at hr;lia
 ·obtain⟨q,e,d1,d2,d3⟩:=VE (fu:=fu) h.ok hk (by have:=xat (250+1) (show F.length+1<=12 by lia);lia) (by lia) (by lia) hr hf;rw[hB d1];by_cases he:e=0
  ·by_cases hQ:1<g.length
   ·right;obtain⟨e1,e2,e3⟩:=d3 he;have hq:(yj G).length≠0:=by lia
    obtain⟨q1,q2⟩:=QV hq;rw[<-hg]at q1 q2;have hc:Tp (cf g) (g.length-1):=by
     have:=km (a:=g) (by lia);rwa[hn]at this
    obtain⟨nq,ng⟩:=jo hL.tp.nz e1;have hR:(yj q).length≠0:=fun e0=>by
     obtain⟨j,hj⟩:=nq;exact hj<|jO e0 j
    have hs:Tp (cf q) (q.length-1):=by
     have:=km hR;rwa[e2]at this
    have e1':(cf F:Pz)=cf g*cf q:=by rw[e1,zk]
    have ncg:¬KF (cf g):=fun hC=>by
     have:=(KF.tp hc).1 hC;lia
    have hD:∀x∈xs,Di p (ci x.2) (cf g)↔x∈BQ xs a c:=fun x hx=>hL.pick (N9 ha) hc hs e1' (γ:=va G) (by
     rw[hm];exact(hJ.down<|jj hL.k1).trans<|Cg.rfl.mul<|IC fun y hy=>hL.el y<|N9 ha y hy) hx
    have hS:=TJ p1 hz hL.pw;have hV:(own p (cf g) xs).length<=c:=by
     classical
     have h1:(own p (cf g) xs).Nodup:=by unfold own;exact hS.sublist List.filter_sublist
     have h2:=K2 h1 (us:=BQ xs a c) fun x hx=>(hD x (J5.1 hx).1).1 (J5.1 hx).2;have h3:(BQ xs a c).length=c:=by unfold BQ;simp
     lia
    have hT:=h.ls (cf g) (cf q) (Fs.cf g) (Fs.cf q) e1' ncg;have hE:=Ls.ir hL h.ls hF (Fs.cf g) (Fs.cf q) e1' q1 ncg (by lia);have ht:0<cf g (g.length-1):=by
     obtain⟨m,m1,m2⟩:=q2.tp;have:=m1.uniq hc;rw[<-this];exact m2
    have hu:=hL.step hc hs ht e1;have hW:(own p (cf g) xs).length+(FJ p (cf g) xs).length=xs.length:=by
     classical
     unfold own FJ;exact OV (fun x:Lx=>decide<|Di p (ci x.2)<|cf g) xs
    have hX:0<p^k:=by lia
    have hw:(((xbb (xs.map (·.1)).length).filter fun i:Nat=> !decide ((i:Int)∈a)).map fun i=>(xs.map (·.1)).getD i [])=(FJ p (cf g) xs).map (·.1):=by
     classical
     have e4:FJ p (cf g) xs=((xbb xs.length).filter fun i:Nat=> !decide ((i:Int)∈a)).map fun i=>xs.getD i ([],[]):=by
      unfold FJ;conv=>lhs;rw[Na ([],[]) xs]
      rw[List.filter_map];refine congrArg _<|List.filter_congr fun i hi=> ?_;have hi:=xbf.1 hi;show(!decide (Di p (ci (xs.getD i ([],[])).2)<|cf g))=_;have h5:=(hD _<|iK hi).trans<|zim p1 hz hL.pw ha hi;by_cases h6:(i:Int)∈a
      ·rw[decide_eq_true h6,decide_eq_true<|h5.2 h6]
      ·rw[decide_eq_false h6,decide_eq_false fun h7=>h6<|h5.1 h7]
     rw[e4,xcT,xaP];refine xcj fun i _=> ?_;exact Lv
    have h':=ha.ln;refine⟨(q,(FJ p (cf g) xs).map (·.1),out++[g]),a,?_,q,FJ p (cf g) xs,out++[g],rfl,?_,by lia⟩
    ·rw[iq he,zP,yL,zj,zd<|ET (by rw[xaP];lia) (by lia) hf,hw]
    ·have hU:∀j,Bz 250 (cf q j):=ziL h.bd ng (Fs.cf g) (Fs.cf q) e1 hv;refine⟨hu,h.k2,e2,by rw[<-e2];exact xn hU,by lia,h.bd.dv ng (Fs.cf g) e1,h.ls.step hL (Fs.cf g) (Fs.cf q) e1,?_,?_,fun x hx=> ?_⟩
     ·rw[xax,xeG];lia
     ·rw[xbg,wk,h.pr,e1'];show prZ _*(cf g*cf q)=prZ _*(cf g*pc 1)*cf q;rw[zU,zf]
     ·rcases Nm.1 hx with hx|hx
      ·exact h.gd x hx
      ·obtain rfl:=xai.1 hx;have:x.length<=11:=by
        have:=(hc.mul hs).uniq (by rw[<-e1'];exact hL.tp);lia
       exact⟨hn,hE,q2,hk,this⟩
   ·rw[iq he,zC];exact .inl ⟨rfl,reject fun hh=>hQ hh.2⟩
  ·rw[ir he];exact .inl ⟨rfl,reject fun hh=>he<|d2.2 hh.1⟩
theorem zhh{is:List (Fin xs.length)}(hp:is.Pairwise (· < ·)):nW xs.length is.length (is.map fun i=>(i.val:Int))/\BQ xs (is.map fun i=>(i.val:Int)) is.length=is.map (xs[·]):=by
 have ha:∀j (hj:j<is.length),ci (is.map fun i=>(i.val:Int)) j=(is[j].val:Int):=fun j hj=>by
  rw[<-ZA,H1,xaT,xaa hj];rfl
 have hb:∀i j (hi:i<is.length) (hj:j<is.length),i<j->is[i].val<is[j].val:=fun i j hi hj hd=>xcW.1 hp i j hi hj hd;have hc:∀d i (hi:i+d<is.length),is[i].val+d<=is[i+d].val:=fun d=>by
  induction d with
  |zero=>intro i hi;exact xab _
  |succ d ih=>
   intro i hi;have h1:=ih i (by lia);have h2:=hb (i+d) (i+(d+1)) (by lia) hi (by lia);lia
 refine⟨⟨by simp,fun i hi=> ?_,fun i hi=> ?_,fun i hi=> ?_⟩,?_⟩
 ·rw[ha i hi];have:=hc i 0 (by lia);simp only[xaN]at this;lia
 ·rw[ha i hi];have h1:=hc (is.length-1-i) i (by lia);have h2:=is[i+(is.length-1-i)].isLt;lia
 ·rw[ha i (by lia),ha (i+1) hi];have:=hb i (i+1) (by lia) hi (by lia);lia
 ·unfold BQ;refine xeS (by simp) fun i h1 h2=> ?_;rw[xaP]at h2;rw[xfE,List.getElem_range,xfE,ha i h2,xaE,H1,xaa is[i].isLt];rfl
theorem GI{F:List Zr}(h0:Ch p k f0 F xs [] 1)(hf:3000000<=fu):
 ∃s,zm (fun L x=>uy fu (yK<|p^k) x L) fu (F,xs.map (·.1),[],1)=some s/\∃(F:List Zr) (xs:List Lx) (out:List (List Zr)) (c:Nat),s=(F,xs.map (·.1),out)/\Ch p k f0 F xs out c/\xs.length<2*c:=by
 exact yA (f:=fun L x=>uy fu (yK<|p^k) x L) (fun s:List Zr×List (List Zr)×List (List Zr)×Int=>∃(F:List Zr) (xs:List Lx) (out:List (List Zr)) (c:Nat),s=(F,xs.map (·.1),out,(c:Int))/\Ch p k f0 F xs out c/\1<=c/\c<=6) (fun s=>s.2.1.length*20+(20-s.2.2.2.toNat))
  (fun r=>∃(F:List Zr) (xs:List Lx) (out:List (List Zr)) (c:Nat),r=(F,xs.map (·.1),out)/\Ch p k f0 F xs out c/\xs.length<2*c) (by
  rintro s L ⟨F,xs,out,c,rfl,hC,hb,hg⟩ ih
  unfold uy
  simp only
  have hj:=hC.ct
  rw[ze,xaP]
  by_cases h2:2*c<=xs.length
  ·rw[zP]
   have hc:=fun a ha=>Ni (fu:=fu) (a:=a) hC hb (show c<=5 by lia) ha hf
   rcases Ek (fu:=fu) (N:=xs.length) (c:=c) (g:=vN fu<|yK<|p^k) (x0:=(F,xs.map (·.1),out)) (Rej:=fun a=>∀u v,Fs u->Fs v->cf F=u*v->¬KF u->own p u xs≠BQ xs a c) (Acc:=fun a y=>∃F' xs' out',y=(F',xs'.map (·.1),out')/\Ch p k f0 F' xs' out' c/\xs'.length<xs.length) hb (by lia) (by lia) (by lia) hf hc with⟨e,hr⟩|⟨a,y,ha,⟨F',xs',out',rfl,hi,hk⟩,e⟩
   ·rw[zd e]
    rw[Sum.elim_inl]
    simp only
    rw[ze]
    refine ih _ ⟨F,xs,out,c+1,by rw[show((c+1:Nat):Int)=(c:Int)+1 by lia],?_,by lia,by lia⟩ (by
     show(xs.map (·.1)).length*20+(20-((c:Int)+1).toNat)<(xs.map (·.1)).length*20+(20-(c:Int).toNat);lia)
    refine⟨hC.lc,hC.k2,hC.can,hC.ok,hC.ln,hC.bd,fun u v fu' fv e nc=> ?_,hC.ct,hC.pr,hC.gd⟩
    have h3:=hC.ls u v fu' fv e nc
    by_cases h4:(own p u xs).length=c
    ·exfalso
     have hd:(own p u xs).Sublist xs:=by unfold own;exact List.filter_sublist
     obtain⟨is,e5,e6⟩:=List.sublist_eq_map_getElem hd
     obtain⟨i1,i2⟩:=zhh e6
     have he:is.length=c:=by rw[<-h4,e5,xaP]
     rw[he]at i1 i2
     exact hr _ i1 u v fu' fv e nc<|by rw[i2,e5]
    ·lia
   ·rw[zd e]
    rw[Sum.elim_inr]
    refine ih _ ⟨F',xs',out',c,rfl,hi,hb,hg⟩ ?_
    show(xs'.map (·.1)).length*20+(20-(c:Int).toNat)<(xs.map (·.1)).length*20+(20-(c:Int).toNat)
    rw[xaP,xaP]
    lia
  ·rw[zC]
   exact⟨_,rfl,F,xs,out,c,rfl,hC,by lia⟩) fu (F,xs.map (·.1),[],1) ⟨F,xs,[],1,rfl,h0,by lia,by lia⟩ (by
   show(xs.map (·.1)).length*20+(20-(1:Int).toNat)<fu
   rw[xaP]
   have:=h0.ct
   lia)
theorem HL{F:List Zr}(h0:Ch p k (cf F) F xs [] 1)(hf:3000000<=fu):
 ∃out,uq fu F (xs.map (·.1)) (yK<|p^k)=some out/\out.length<=11/\(∀g∈out,Gd g)/\cf F=prZ (out.map fun g=>(cf g:Pz)):=by
 obtain⟨f0,hb⟩:∃f0:Pz,f0=cf F:=⟨_,rfl⟩;rw[<-hb]at h0⊢;obtain⟨s,hs,F',xs',out',c',rfl,hC,hi⟩:=GI h0 hf;unfold uq;rw[zd hs];simp only;have hj:=hC.ct;have hl:=hC.l0;have hm:=hC.ln;have ha:=hC.lc.pm;by_cases h1:1<F'.length
 ·have hn:(yj F').length≠0:=by rw[hC.can];lia
  have hc:va F'=1:=by
   have a1:=lA F';rw[hC.can]at a1;have a2:=(ha _ (dF fun k hk=>ye hk):Yc (cf F') F'.length=1);have a3:va F'=if cf (yj F') ((yj F').length-1)<0 then-((Yc (cf F') (yj F').length:Nat):Int)else((Yc (cf F') (yj F').length:Nat):Int):=rfl;rw[hC.can,ir (by have:=hC.lc.ps;lia),a2]at a3;exact a3
  have hP:vt F'=F':=Jw (W4 F') hC.can fun k=>by rw[Xr,hc,Int.ediv_one]
  have he:Ir (cf F'):=by
   have nc:¬KF (cf F'):=fun h=>by have:=(KF.tp hC.lc.tp).1 h;lia
   have hc1:1<=c'\/c'=0:=by lia
   rcases hc1 with hc1|hc1
   ·refine Ls.ir hC.lc hC.ls hc1 (Fs.cf F') (Fs.pc 1) (zU _).symm ha nc ?_;have:(own p (cf F') xs').length<=xs'.length:=by unfold own;exact xfC _ _
    lia
   ·lia
  refine⟨out'++[F'],?_,by rw[xax,xeG];lia,fun g hg=> ?_,?_⟩
  ·rw[zP,zd<|vM hC.ok (by decide) (by lia) hf,hP,yL,zj]
  ·rcases Nm.1 hg with hg|hg
   ·exact hC.gd g hg
   ·obtain rfl:=xai.1 hg;exact⟨hC.can,he,⟨_,hC.lc.ps,hC.lc.tp.2⟩,hC.ok,hC.ln⟩
  ·rw[hC.pr,xbg,wk];show _=prZ _*(cf F'*pc 1);rw[zU]
 ·refine⟨out',by rw[zC],by lia,hC.gd,?_⟩;obtain⟨d,hd⟩:=((KF.tp hC.lc.tp).2<|by lia).ex;rw[hd]at ha;have h3:=hC.lc.ps;have h4:cf F' (F'.length-1)=d:=by rw[hd,show F'.length-1=0 by lia];exact iq rfl
  rw[hC.pr,hd];rcases sM ha with e|e
  ·rw[e,zU]
  ·lia
end
section
variable{a b K fu bx by_:Nat}{x y:Int}
def Bb(b:Nat)(x:Int):Prop:=x.natAbs<2^b
theorem Bb.mono(h:Bb a x)(ha:a<=b):Bb b x:=xal h<|xaz (by decide) ha
theorem Bb.mul(hx:Bb a x)(hy:Bb b y):Bb (a+b) (x*y):=by
 unfold Bb at*
 rw[xch,xbY];by_cases h:y.natAbs=0
 ·rw[h,xcO];exact Nat.mul_pos (xbj<|by decide)<|xbj<|by decide
 ·exact Nat.mul_lt_mul_of_lt_of_le hx (xcS hy)<|by lia
theorem Bb.sub(hx:Bb b x)(hy:Bb b y):Bb (b+1) (x-y):=by grind [Bb,xbd]
theorem Bb.zero(b:Nat):Bb b 0:=xbj<|by decide
theorem Bb.bz(h:Bb b x)(hK:b<=64*K):Bz K x:=by
 unfold Bz;rw[show(18446744073709551616:Nat)=2^64 by decide,<-xda];exact xal h<|xaz (by decide) hK
theorem Bz.bb(h:Bz K x):Bb (64*K) x:=by grind [Bb,Bz,xda]
theorem Bb.le(hy:Bb b y)(h:x.natAbs<=y.natAbs):Bb b x:=xba h hy
theorem Bb.pow{b:Nat}{x:Int}(h:Bb b x):∀n,Bb (n*b+1) (x^n)
 |0=>by rw[xbs];unfold Bb;rw[xcs];decide
 |n+1=>by
  rw[xbn,xaR,xcb,Nat.add_right_comm];exact(Bb.pow h n).mul h
theorem Bb.pow'{b:Nat}{x y:Int}{c:Nat}(h:Bb b x)(hy:Bb c y):∀n,Bb (n*b+c) (x^n*y)
 |0=>by rw[xbs,xce,xcs,xaN];exact hy
 |n+1=>by
  rw[xbn,Int.mul_right_comm,xaR,xcb,Nat.add_right_comm];exact(Bb.pow' h hy n).mul h
theorem nG{n:Nat}{a:Int}(hn:n<=65536)(hb:∀d,d<=n->Bz K (a^d))(h1:Bz K a)(hK:K<=40000)(hf:3000000<=fu):WQ fu (yK a) (n:Int)=some (yK<|a^n):=by
 unfold WQ;rw[zd<|yb (by decide) hf,zd (v:=yK<|a^n)];refine zB (fun s:Int×Zr=>∃i:Nat,s=((i:Int),yK<|a^i)/\i<=n) (fun s=>n-s.1.toNat) _ ?_ _ _ ⟨0,by rw[xbs];rfl,xah _⟩ (by show n-0<fu;lia);rintro s L ⟨i,rfl,hi⟩ ih;unfold Ux;simp only;by_cases h:i<n
 ·rw[zP,zd<|yf ((hb i hi).ok<|by lia) (h1.ok<|by lia) hf,zA,zA,ze,<-xbn];exact ih _ ⟨i+1,rfl,by lia⟩ (by show n-((i:Int)+1).toNat<n-(i:Int).toNat;lia)
 ·rw[zC];obtain rfl:i=n:=by lia
  rfl
structure PsI(x y:Pz)(l:Int)(ly n bx by_ k:Nat)(Q ρ:Pz):Prop where
 fq:Fs Q
 eq:pc (l^(n-k))*x=Q*y+ρ
 z:∀j,k+(ly-1)<=j->ρ j=0
 b:∀j,Bb (bx+(n-k)*(by_+1))<|ρ j
theorem PsI.step{x y:Pz}{l:Int}{ly n k:Nat}{Q ρ:Pz}(h:PsI x y l ly n bx by_ (k+1) Q ρ)(hk:k+1<=n)(hy:Tp y (ly-1))(hl:y (ly-1)=l)(hb:∀j,Bb by_<|y j):
 PsI x y l ly n bx by_ k (pc l*Q+mono k (ρ<|k+(ly-1))) (fun j=>l*ρ j-ρ (k+(ly-1))*sh y k j):=by
 have e1:n-k=n-(k+1)+1:=by lia
 have ha:bx+(n-k)*(by_+1)=by_+(bx+(n-(k+1))*(by_+1))+1:=by rw[e1,xaR];lia
 refine⟨((Fs.pc l).mul h.fq).add ⟨k+1,fun j hj=>zC⟩,?_,fun j hj=> ?_,fun j=> ?_⟩
 ·rw[e1,xbn,xbo,<-qQ,zf,h.eq,xC,ym,zf];funext j;rw[zM,zM,zM,Xh,zN l ρ];show _=_+_+(l*ρ j-ρ (k+(ly-1))*sh y k j);lia
 ·show l*ρ j-ρ (k+(ly-1))*sh y k j=0;unfold sh;rw[zP];by_cases e:j=k+(ly-1)
  ·rw[e,show k+(ly-1)-k=ly-1 by lia,hl,xbo];lia
  ·rw[h.z j (by lia),hy.2 _<|by lia];lia
 ·rw[ha];refine Bb.sub ((show Bb by_ l by rw[<-hl];exact hb _).mul<|h.b j) ?_;rw[xds by_];refine(h.b _).mul ?_;unfold sh;split
  ·exact hb _
  ·exact Bb.zero _
theorem zhJ{n:Nat}{l:List Zr}(j:Nat):cf (xaf n (false,[])++l) j=sh (cf l) n j:=by
 unfold sh;by_cases h:n<=j
 ·rw[iq h];unfold cf;rw[H1,xcn (by rw[xaZ];exact h),xaZ,<-H1]
 ·rw[ir h];unfold cf;rw[H1,xbq (by rw[xaZ];lia),xfd];rw[zP];rfl
theorem iW{x y:List Zr}(hx:yj x=x)(hy:yj y=y)(hl:y.length<=x.length)(hH:0<y.length)(hJ:x.length<=60)(bX:∀j,Bb bx<|cf x j)(bY:∀j,Bb by_<|cf y j)(hT:bx+(x.length-y.length+1)*(by_+1)<=2400000)(hf:3000000<=fu):
 ∃q r c Q,YU fu x y=some (q,r,0)/\yj r=r/\r.length<y.length/\c≠0/\Fs Q/\(pc c*cf x:Pz)=Q*cf y+cf r/\∀j,Bb (bx+(x.length-y.length+1)*(by_+1)) (cf r j):=by
 obtain⟨n,hn⟩:∃n,n=x.length-y.length+1:=⟨_,rfl⟩;rw[<-hn]at hT⊢;obtain⟨T,hK⟩:∃T,T=bx+n*(by_+1):=⟨_,rfl⟩;have ty:Tp (cf y) (y.length-1):=by
  have:=km (a:=y) (by rw[hy];lia);rwa[hy]at this
 obtain⟨l,he⟩:∃l,l=cf y (y.length-1):=⟨_,rfl⟩;have hb:l≠0:=by rw[he];exact ty.1
 have bl_:Bb by_ l:=by rw[he];exact bY _
 have hi:∀d,d<=n->d*(by_+1)<=n*(by_+1):=fun d hd=>xat _ hd;have hm:∀d:Nat,d*(by_+1)=d*by_+d:=fun d=>by rw[xbh,xcI]
 have hL:by_+1<=T:=by have:=hi 1 (by lia);rw[xcb]at this;lia
 have oX:xc 37500 x:=by rw[<-hx];exact xn fun j=>(bX j).bz<|by lia
 have oY:xc 37500 y:=by rw[<-hy];exact xn fun j=>(bY j).bz<|by lia
 have bpw:∀d,d<=n->Bz 37501 (l^d):=fun d hd=>(Bb.pow bl_ d).bz (by have:=hi d hd;have:=hm d;lia);have bpx:∀d,d<=n->∀z,Bb (bx+(n-d)*(by_+1)) z->Bb T (l^d*z):=fun d hd z hz=>(Bb.pow' bl_ hz d).mono (by
  have h1:=hm d;have h2:n*(by_+1)=d*(by_+1)+(n-d)*(by_+1):=by rw[<-xaR];congr 1;lia
  lia)
 have hA:y.getD (y.length-1) (false,[])=yK l:=by rw[he];exact Il (show y=vO y.length (cf y)from hy.symm)
 obtain⟨r0,hg⟩:∃r0,r0=vO x.length (fun j=>cf x j*l^n):=⟨_,rfl⟩;have hq:∀j,cf r0 j=l^n*cf x j:=fun j=>by rw[hg,jD (fun j hj=>by rw[ye hj,xaV]),xbo]
 obtain⟨s,hs,r,q,rfl,ρ,Q,r1,r2,r3,r4⟩:=yA (f:=XI fu<|yK l) (fun s:List Zr×List Zr×Int×List Zr=>∃(k:Nat) (r q:List Zr),s=(y,r,(k:Int)-1,q)/\k<=n/\yj r=r/\r.length<=x.length+60*(n-k)/\q.length=n/\xc 37500 q/\∃Q ρ,PsI (cf x) (cf y) l y.length n bx by_ k Q ρ/\∀j,cf r j=l^k*ρ j) (fun s=>(s.2.2.1+1).toNat)
  (fun t=>∃(r q:List Zr),t=(r,q)/\∃ρ Q,yj r=r/\(q.length=n/\xc 37500 q)/\PsI (cf x) (cf y) l y.length n bx by_ 0 Q ρ/\∀j,cf r j=ρ j) (by
  rintro s L ⟨k,r,q,rfl,hk,hr,hM,ho,hp,Q,ρ,hI,hc⟩ ih
  unfold XI
  simp only
  cases k with
  |zero=>
   rw[zC]
   exact⟨_,rfl,r,q,rfl,ρ,Q,hr,⟨ho,hp⟩,hI,fun j=>by rw[hc j,xbs,xce]⟩
  |succ k=>
   have hG:60*(n-(k+1))+60=60*(n-k):=by lia
   have hN:60*(n-k)<=60*60:=xaD _<|by lia
   have ht:=hI.step hk ty he.symm bY
   have bR:∀j,Bb T (cf r j):=fun j=>by rw[hc j];exact bpx (k+1) hk _<|hI.b j
   have oR:xc 37500 r:=by rw[<-hr];exact xn fun j=>(bR j).bz<|by lia
   rw[show((k+1:Nat):Int)-1=(k:Int)by lia,zP,ze]
   by_cases hO:r.length<k+y.length
   ·have hB:ρ (k+(y.length-1))=0:=by
     have h1:=hc<|k+(y.length-1);rw[ye<|by lia]at h1;rcases xeF.1 h1.symm with h2|h2
     ·exact absurd h2<|Int.pow_ne_zero hb
     ·exact h2
    rw[zP,ze]
    refine ih _ ⟨k,r,q,rfl,by lia,hr,by lia,ho,hp,_,_,ht,fun j=> ?_⟩ (by show((k:Int)-1+1).toNat<(((k+1:Nat):Int)-1+1).toNat;lia)
    show cf r j=l^k*(l*ρ j-ρ (k+(y.length-1))*sh (cf y) k j)
    rw[hB,xaV,xcG,hc j,xbn,xbK]
   ·have hC:r.length=k+y.length:=by
     by_cases e:r.length=k+y.length
     ·exact e
     ·exfalso;have h1:=Zy (show r=vO r.length (cf r)from hr.symm) (by lia);rw[hc,hI.z _ (by lia),xaw]at h1;exact h1 rfl
    obtain⟨w,hw⟩:∃w,w=ρ (k+(y.length-1)):=⟨_,rfl⟩
    have hD:cf r (k+(y.length-1))=l^k*w*l:=by rw[hc,<-hw,xbn,Int.mul_right_comm]
    have bw:Bb T (l^k*w):=by
     refine bpx k (by lia) w ((hI.b _).mono ?_|>fun h=>by rw[hw];exact h);have:=hi (n-(k+1)) (by lia);have h3:(n-k)*(by_+1)=(n-(k+1))*(by_+1)+(by_+1):=by rw[show n-k=n-(k+1)+1 by lia,xaR,xcb]
     lia
    have bwy:∀j,Bb T (cf y j*(l^k*w)):=fun j=>by
     have h1:Bb (by_+(k*by_+(bx+(n-(k+1))*(by_+1)))) (cf y j*(l^k*w)):=(bY j).mul<|Bb.pow' bl_ (by rw[hw];exact hI.b _) k;refine h1.mono ?_;have h2:n*(by_+1)=(k+1)*(by_+1)+(n-(k+1))*(by_+1):=by rw[<-xaR];congr 1;lia
     have h3:=hm<|k+1;rw[xaR k 1 by_,xcb]at h3;lia
    have hE:exE (l^k*w*l) l=0:=by unfold exE;rw[ir hb,iq<|Int.mul_emod_left _ _]
    have hX:exI (l^k*w*l) l=l^k*w:=by unfold exI;rw[ir hb,iq<|Int.mul_emod_left _ _,Int.mul_ediv_cancel _ hb]
    rw[zC,ze,show(k:Int)+(y.length:Int)-1=((k+(y.length-1):Nat):Int)by lia,ze,yp,zj,zd<|XV (oR.okS (by decide) _) ((bl_.bz (K:=37500)<|by lia).okS<|by decide) hf,VG,zA,hD,hX,hE]
    simp only
    have hu:(q.set k<|yK<|l^k*w).getD k (false,[])=yK (l^k*w):=by rw[H1,List.getElem?_set_self<|by lia];rfl
    rw[yp,zj,yI,yL,zj,zw (by rw[xcL];lia),zj,hu,zd<|qI (l:=37500) oY ⟨yW _,(bw.bz (K:=37500)<|by lia).len⟩ (by decide) (by lia) hf,zA]
    obtain⟨part,ha⟩:∃part,part=vO y.length (fun j=>cf y j*(l^k*w)):=⟨_,rfl⟩
    have hF:∀j,cf part j=cf y j*(l^k*w):=fun j=>by rw[ha,jD<|fun j hj=>by rw[ye hj,xaV]]
    have hP:part.length<=y.length:=by rw[ha,xM];exact qe _ _
    have oPt:xc 37500 part:=by rw[ha];exact xn fun j=>(bwy j).bz<|by lia
    have oSum:xc 37500 (xaf k (false,[])++part):=fun z hz=>by
     rcases Nm.1 hz with hz|hz
     ·rw[(List.mem_replicate.1 hz).2];exact⟨zo.nil,xah _⟩
     ·exact oPt z hz
    rw[<-ha,wE (by rw[xaZ];lia),zj,zd<|kg oR oSum (by decide) (by lia) (by rw[xax,xaZ];lia) hf,ze]
    refine ih _ ⟨k,_,_,rfl,by lia,(YV _ _).symm,?_,by rw[xcL];exact ho,?_,_,_,ht,fun j=> ?_⟩ (by show((k:Int)-1+1).toNat<(((k+1:Nat):Int)-1+1).toNat;lia)
    ·have:=Jl r<|xaf k (false,[])++part
     rw[xax,xaZ]at this
     lia
    ·intro z hz
     rcases xeO hz with h1|h1
     ·exact hp z h1
     ·rw[h1];exact⟨yW _,(bw.bz (K:=37500)<|by lia).len⟩
    ·rw[PC,zhJ,hc j]
     show l^(k+1)*ρ j-sh (cf part) k j=l^k*(l*ρ j-ρ (k+(y.length-1))*sh (cf y) k j)
     rw[<-hw]
     have e2:sh (cf part) k j=l^k*(w*sh (cf y) k j):=by
      unfold sh;split
      ·rw[hF,xbo,xbK]
      ·rw[xaw,xaw]
     rw[e2,xbn,Int.mul_sub,xbK]) fu (y,r0,(n:Int)-1,xaf n (false,[])) ⟨n,r0,_,rfl,xab _,by rw[hg];exact(YV _ _).symm,by rw[hg,xM];have:=qe (fun j=>cf x j*l^n) x.length;lia,xaZ,fun z hz=>by rw[(List.mem_replicate.1 hz).2];exact⟨zo.nil,xah _⟩,pc 0,cf x,⟨Fs.pc 0,by
    rw[xdb,xbs,zz,yh];exact funext fun j=>by rw[zM,zO,xcF],fun j hj=>ye (by lia),fun j=>by rw[xdb,xcs];exact bX j⟩,hq⟩ (by show((n:Int)-1+1).toNat<fu;lia)
 refine⟨vO q.length<|cf q,r,l^n,Q,?_,r1,?_,Int.pow_ne_zero hb,r3.fq,?_,fun j=>by rw[r4 j];exact r3.b j⟩
 ·unfold YU;have hv:max ((x.length:Int)-y.length+1) 0=(n:Int):=by lia
  rw[zd<|zF oX (by decide) (by lia) hf,zd<|zF oY (by decide) (by lia) hf,show vO x.length (cf x)=x from hx,show vO y.length (cf y)=y from hy,zC,ze,ze,zj,hv,show(y.length:Int)-1=((y.length-1:Nat):Int)by lia,ze,yp,zj,hA,zd<|nG (by lia) bpw ((bl_.bz (K:=37501)<|by lia)) (by decide) hf,zd<|qI (l:=37501) oX ⟨yW _,(bpw n<|xab _).len⟩ (by decide) (by lia) hf,zA,<-hg,yI,yL,zj,ze,zd hs];simp only;rw[zd<|zF r2.2 (by decide) (by lia) hf]
 ·by_cases e:r.length=0
  ·lia
  ·have h1:=Zy (show r=vO r.length (cf r)from r1.symm) e;by_cases h2:r.length<y.length
   ·exact h2
   ·rw[r4,r3.z _<|by lia]at h1;exact absurd rfl h1
 ·have:=r3.eq;rw[Nat.sub_zero]at this;rw[this,show(cf r:Pz)=ρ from funext r4]
end
section
def fac:Nat->Int
 |0=>1
 |n+1=>((n+1:Nat):Int)*fac n
theorem uC:∀n,0<fac n
 |0=>by decide
 |n+1=>Int.mul_pos (by lia)<|uC n
def ip(n:Nat)(f g:Pz):Int:=zW (n+1) fun s=>fac s*fac (n-s)*(f s*g s)
theorem Wb(n:Nat)(f g:Pz):ip n f g=ip n g f:=zY fun s _=>by rw[xbo<|f s]
theorem M1(n:Nat)(f g h:Pz):ip n (f+g) h=ip n f h+ip n g h:=by
 unfold ip;rw[<-ZL];exact zY fun s _=>by rw[zM,Int.add_mul,xeY]
theorem oq(n:Nat)(f g h:Pz):ip n h (f+g)=ip n h f+ip n h g:=by grind [Wb,M1]
theorem GF(n:Nat)(c:Int)(f h:Pz):ip n (pc c*f) h=c*ip n f h:=by
 unfold ip;rw[<-jZ];exact zY fun s _=>by rw[zN,xbK c<|f s,Int.mul_left_comm]
theorem gP(n:Nat)(c:Int)(f h:Pz):ip n h (pc c*f)=c*ip n h f:=by rw[Wb,GF,Wb]
theorem E5{f:Nat->Int}:∀{n},(∀k,k<n->0<=f k)->0<=zW n f
 |0,_=>xfr 0
 |n+1,h=>Int.add_nonneg (E5 fun k hk=>h k<|by lia)<|h n<|by lia
theorem zfI(n:Nat)(f:Pz):0<=ip n f f:=E5 fun s _=>xcD (xcD (xdD<|uC _)<|xdD<|uC _)<|jy _
def xP:Pz:=mono 1 1
theorem zku(f:Pz):(xP*f) 0=0:=by
 unfold xP;rw[Xh];rfl
theorem zjb(f:Pz)(k:Nat):(xP*f) (k+1)=f k:=by simp_all [sh,xP,Xh]
theorem adx(n:Nat)(f g:Pz):ip (n+1) (xP*f) g=ip n f (dvp g):=by
 unfold ip;rw[kh,zku,xaV,xaw,xcF];refine zY fun s hs=> ?_;rw[zjb,show n+1-(s+1)=n-s by lia];show((s+1:Nat):Int)*fac s*fac (n-s)*(f s*g (s+1))=fac s*fac (n-s)*(f s*(((s+1:Nat):Int)*g (s+1)));grind
def dy(n:Nat)(f:Pz):Pz:=pc (n:Int)*f-xP*dvp f
theorem H4(n:Nat)(f:Pz)(k:Nat):dy n f k=((n:Int)-k)*f k:=by
 unfold dy;rw[yE,zN]
 cases k with
 |zero=>rw[zku];grind
 |succ k=>
  rw[zjb];show(n:Int)*f (k+1)-((k+1:Nat):Int)*f (k+1)=_;grind
theorem ady(n:Nat)(f g:Pz)(hf:f (n+1)=0):ip (n+1) f g=ip n f (dy (n+1) g):=by
 unfold ip;show zW (n+1) _+fac (n+1)*fac (n+1-(n+1))*(f (n+1)*g (n+1))=_;rw[hf,xaV,xaw,xbD];refine zY fun s hs=> ?_;rw[H4,show n+1-s=(n-s)+1 by lia];show fac s*(((n-s+1:Nat):Int)*fac (n-s))*(f s*g s)=_;have e:((n-s+1:Nat):Int)=((n+1:Nat):Int)-s:=by lia
 rw[e];grind
theorem eul(n:Nat)(f:Pz):pc (n:Int)*f=xP*dvp f+dy n f:=by
 unfold dy;funext k;rw[zM,yE];lia
theorem zgE(n m:Nat)(f g:Pz):dy (n+m) (f*g)=dy n f*g+f*dy m g:=by
 have h1:pc ((n+m:Nat):Int)*(f*g)=pc (n:Int)*f*g+f*(pc (m:Int)*g):=by
  rw[zy f,zf];funext k;rw[zM,zN,zN,zN];grind
 have h2:xP*(dvp f*g+f*dvp g)=xP*dvp f*g+f*(xP*dvp g):=by rw[xC,zf,zy f]
 unfold dy;rw[WA,h1,h2,vi,vk];funext k;simp only[zM,yE];lia
theorem zaM(n:Nat)(f:Pz):dvp (dy (n+1) f)=dy n (dvp f):=funext fun k=>by
 rw[H4];show((k+1:Nat):Int)*dy (n+1) f (k+1)=((n:Int)-k)*(((k+1:Nat):Int)*f (k+1));rw[H4];have e:((n+1:Nat):Int)-((k+1:Nat):Int)=(n:Int)-k:=by lia
 rw[e,Int.mul_left_comm]
def Dg(n:Nat)(f:Pz):Prop:=∀k,n<k->f k=0
theorem Dg.dx{n:Nat}{f:Pz}(h:Dg (n+1) f):Dg n (dvp f):=fun k hk=>by
 show((k+1:Nat):Int)*f (k+1)=0;rw[h _ (by lia),xaw]
theorem Dg.dy{n:Nat}{f:Pz}(h:Dg (n+1) f):Dg n (dy (n+1) f):=fun k hk=>by
 rw[H4];by_cases e:k=n+1
 ·rw[e,xdc,xaV]
 ·rw[h k (by lia),xaw]
theorem Dg.mul{n m:Nat}{f g:Pz}(hf:Dg n f)(hg:Dg m g):Dg (n+m) (f*g):=fun k hk=>vL (n:=n+1) (m:=m+1) (fun j hj=>hf j<|by lia)<|fun j hj=>hg j<|by lia
theorem Dg.add{n:Nat}{f g:Pz}(hf:Dg n f)(hg:Dg n g):Dg n (f+g):=fun k hk=>by rw[zM,hf k hk,hg k hk];rfl
theorem Dg.num{f:Pz}(h:Dg 0 f):f=pc (f 0):=funext fun k=>by
 unfold pc;by_cases e:k=0
 ·rw[iq e,e]
 ·rw[ir e,h k<|by lia]
section
variable(a:Nat)(u:Pz)
theorem zgf{m b q0:Nat}{v p q:Pz}(hp:Dg (m+1) p)(hu:Dg a u)(e:b+q0=m+1+a):
 ((m+1:Nat):Int)*ip (m+1+a) (p*u) (v*q)=ip (m+a) (dvp p*u) (dvp v*q)+ip (m+a) (dy (m+1) p*u) (dy b v*q)+(ip (m+a) (dvp p*u) (v*dvp q)+ip (m+a) (dy (m+1) p*u) (v*dy q0 q)):=by
 rw[<-GF,<-zf,eul,ym,M1,zf,show m+1+a=m+a+1 by lia,adx,ady _ _ _ (hp.dy.mul hu _<|by lia),WA,oq,show m+a+1=b+q0 by lia,zgE,oq];lia
def Fk:Nat->Nat->Nat->Pz->Pz->Pz->Int
 |0,pb,_,v,p,q=>ip (pb+a) (p*u)<|v*q
 |k+1,pb,qa,v,p,q=>Fk k (pb-1) (qa-1) v (dvp p) (dvp q)+Fk k (pb-1) (qa-1) v (dy pb p) (dy qa q)
theorem DY(hu:Dg a u):∀(k:Nat) {m b q0:Nat}{v p q:Pz},k<=m->m<=q0->b+(q0+1)=m+1+a->Dg (m+1) p->
 ((m+1:Nat)-(k:Int))*Fk a u k (m+1) (q0+1) v p q=Fk a u k m (q0+1) (dvp v) (dvp p) q+Fk a u k m (q0+1) (dy b v) (dy (m+1) p) q+Fk a u (k+1) (m+1) (q0+1) v p q
 |0,m,b,q0,v,p,q,_,_,e,hp=>by
  have:=zgf a u (v:=v) (q:=q) hp hu e;show((m+1:Nat)-((0:Nat):Int))*ip (m+1+a) (p*u) (v*q)=ip (m+a) (dvp p*u) (dvp v*q)+ip (m+a) (dy (m+1) p*u) (dy b v*q)+(ip (m+a) (dvp p*u) (v*dvp q)+ip (m+a) (dy (m+1) p*u) (v*dy (q0+1) q));rw[<-this];congr 1
 |k+1,0,_,_,_,_,_,h,_,_,_=>by lia
 |k+1,m+1,b,0,_,_,_,_,h,_,_=>by lia
 |k+1,m+1,b,q0+1,v,p,q,h1,h2,e,hp=>by
  have i1:=DY hu k (m:=m) (b:=b) (q0:=q0) (v:=v) (p:=dvp p) (q:=dvp q) (by lia) (by lia) (by lia) hp.dx;have i2:=DY hu k (m:=m) (b:=b) (q0:=q0) (v:=v) (p:=dy (m+1+1) p) (q:=dy (q0+1+1) q) (by lia) (by lia) (by lia) hp.dy;rw[zaM]at i2;show((m+1+1:Nat)-((k+1:Nat):Int))*(Fk a u k (m+1) (q0+1) v (dvp p) (dvp q)+Fk a u k (m+1) (q0+1) v (dy (m+1+1) p) (dy (q0+1+1) q))=Fk a u k m (q0+1) (dvp v) (dvp<|dvp p) (dvp q)+Fk a u k m (q0+1) (dvp v) (dy (m+1)<|dvp p) (dy (q0+1+1) q)+(Fk a u k m (q0+1) (dy b v) (dvp<|dy (m+1+1) p) (dvp q)+Fk a u k m (q0+1) (dy b v) (dy (m+1)<|dy (m+1+1) p) (dy (q0+1+1) q))+(Fk a u (k+1) (m+1) (q0+1) v (dvp p) (dvp q)+Fk a u (k+1) (m+1) (q0+1) v (dy (m+1+1) p) (dy (q0+1+1) q));rw[zaM,show((m+1+1:Nat)-((k+1:Nat):Int))=((m+1:Nat)-(k:Int))by lia,xeY,i1,i2];lia
def pD:Nat->Nat->Pz->Pz->Pz
 |0,_,p,q=>p*q
 |k+1,qa,p,q=>pD k (qa-1) (dvp p) (dvp q)+pD k (qa-1) (dy (k+1) p) (dy qa q)
theorem zbL:∀(k:Nat) {qa:Nat}{v p q:Pz},Dg k p->Fk a u k k qa v p q=ip a u (v*pD k qa p q)
 |0,qa,v,p,q,h=>by
  show ip (0+a) (p*u) (v*q)=ip a u (v*(p*q));rw[h.num,xaN,GF,zy,gP]
 |k+1,qa,v,p,q,h=>by
  show Fk a u k k (qa-1) v (dvp p) (dvp q)+Fk a u k k (qa-1) v (dy (k+1) p) (dy qa q)=ip a u (v*(pD k (qa-1) (dvp p) (dvp q)+pD k (qa-1) (dy (k+1) p) (dy qa q)));rw[zbL k h.dx,zbL k h.dy,xC,oq]
end
theorem zbs:∀(k:Nat) {d:Nat}{p q:Pz},Dg k p->Dg (k+d) q->Dg d (pD k (k+d) p q)
 |0,d,p,q,hp,hq=>by
  have:=hp.mul hq;rw[xaN,xaN]at this;exact this
 |k+1,d,p,q,hp,hq=>by
  rw[show k+1+d=k+d+1 by lia]at hq⊢;show Dg d (pD k (k+d+1-1) (dvp p) (dvp q)+pD k (k+d+1-1) (dy (k+1) p) (dy (k+d+1) q));rw[xeu];exact(zbs k hp.dx hq.dx).add<|zbs k hp.dy hq.dy
theorem zaT:∀(k:Nat) {d:Nat}{p q g:Pz},Dg k p->Dg d g->fac k*ip (k+d) q (p*g)=ip d (pD k (k+d) p q) g
 |0,d,p,q,g,hp,hg=>by
  show 1*ip (0+d) q (p*g)=ip d (p*q) g;rw[hp.num,xce,xaN,gP,GF]
 |k+1,d,p,q,g,hp,hg=>by
  have i1:=zaT k (d:=d) (q:=dvp q) hp.dx hg;have i2:=zaT k (d:=d) (q:=dy (k+d+1) q) hp.dy hg;rw[show k+1+d=k+d+1 by lia];show((k+1:Nat):Int)*fac k*ip (k+d+1) q (p*g)=ip d (pD k (k+d+1-1) (dvp p) (dvp q)+pD k (k+d+1-1) (dy (k+1) p) (dy (k+d+1) q)) g;rw[xeu,M1,<-i1,<-i2,xbo _<|fac k,xbK,<-gP,<-zf,eul,ym,oq,zf,Wb _ q,adx,Wb _ q,ady _ _ _ (hp.dy.mul hg _<|by lia),xeY,Wb _<|dvp q,Wb _<|dy _ q]
theorem Hy{a:Nat}{u:Pz}(hu:Dg a u):∀(b:Nat) {v:Pz},Dg b v->b<=a->∀(j k:Nat),k+j=b->0<=Fk a u k b a v v u
 |b,v,hv,hb,0,k,h=>by
  obtain rfl:k=b:=by lia
  obtain⟨d,rfl⟩:∃d,a=k+d:=⟨a-k,by lia⟩;have h1:=zaT k (d:=d) (q:=u) (g:=pD k (k+d) v u) hv<|zbs k hv hu;rw[zbL _ _ k hv];have h2:=zfI d<|pD k (k+d) v u;rw[<-h1]at h2;exact Int.nonneg_of_mul_nonneg_right h2<|uC k
 |0,v,hv,hb,j+1,k,h=>by lia
 |b+1,v,hv,hb,j+1,k,h=>by
  obtain⟨a',rfl⟩:∃a',a=a'+1:=⟨a-1,by lia⟩;have h1:=DY (a'+1) u hu k (m:=b) (b:=b+1) (q0:=a') (v:=v) (p:=v) (q:=u) (by lia) (by lia) (by lia) hv;have h2:=Hy hu b hv.dx (by lia) j k (by lia);have h3:=Hy hu b hv.dy (by lia) j k (by lia);have h4:=Hy hu (b+1) hv hb j (k+1) (by lia);have h5:0<=((b+1:Nat)-(k:Int))*Fk (a'+1) u k (b+1) (a'+1) v v u:=by rw[h1];lia
  exact Int.nonneg_of_mul_nonneg_right h5<|by lia
theorem zjN{u:Pz}(h:Dg 0 u):dvp u=pc 0:=funext fun k=>by
 rw[zO];show((k+1:Nat):Int)*u (k+1)=0;rw[h _ (by lia),xaw]
theorem zkU{u:Pz}(h:Dg 0 u):dy 0 u=pc 0:=funext fun k=>by
 rw[zO,H4];by_cases e:k=0
 ·rw[e];exact xaV _
 ·rw[h k (by lia),xaw]
theorem zjG{a b:Nat}{u v:Pz}(hu:Dg a u)(hv:Dg (b+1) v):0<=ip (b+a) (dvp v*u) (v*dvp u)+ip (b+a) (dy (b+1) v*u) (v*dy a u):=by
 by_cases h:b+1<=a
 ·exact Hy hu (b+1) hv h b 1<|by lia
 ·cases a with
  |zero=>
   rw[zjN hu,zkU hu,zk v,gP,gP];lia
  |succ a=>
   have:=Hy hv (a+1) hu (by lia) a 1 (by lia);have this:0<=ip (a+(b+1)) (dvp u*v) (u*dvp v)+ip (a+(b+1)) (dy (a+1) u*v) (u*dy (b+1) v):=this;rw[Wb,Wb _<|dy (a+1) u*v,zk u,zk<|dvp u,zk u,zk<|dy (a+1) u,show a+(b+1)=b+(a+1)by lia]at this;exact this
theorem zi0{a:Nat}{u:Pz}(hu:Dg a u):∀(b:Nat) {v:Pz},Dg b v->fac b*(v b*v b)*ip a u u<=ip (b+a) (v*u) (v*u)
 |0,v,hv=>by
  rw[hv.num,GF,gP,xaN];show 1*(pc (v 0) 0*pc (v 0) 0)*ip a u u<=v 0*(v 0*ip a u u);have e:pc (v 0) 0=v 0:=rfl;rw[e,xce,xbK];exact xfr _
 |b+1,v,hv=>by
  have h1:=zgf a u (b:=b+1) (q0:=a) (v:=v) (q:=u) hv hu rfl;have h2:=zjG hu hv;have h3:=zfI (b+a)<|dy (b+1) v*u;have h4:=zi0 hu b hv.dx;have e:dvp v b=((b+1:Nat):Int)*v (b+1):=rfl;rw[e]at h4;have h5:((b+1:Nat):Int)*(fac (b+1)*(v (b+1)*v (b+1))*ip a u u)=fac b*(((b+1:Nat):Int)*v (b+1)*(((b+1:Nat):Int)*v (b+1)))*ip a u u:=by
   show((b+1:Nat):Int)*(((b+1:Nat):Int)*fac b*(v (b+1)*v (b+1))*ip a u u)=_;generalize((b+1:Nat):Int)=x;generalize v (b+1)=y;generalize ip a u u=z;grind
  refine Int.le_of_mul_le_mul_left (a:=((b+1:Nat):Int)) ?_ (by lia);rw[h5,h1];lia
theorem oy:∀(m n:Nat),fac (m+n)<=2^(m+n)*(fac m*fac n)
 |0,n=>by
  rw[xaN];show fac n<=2^n*(1*fac n);rw[xce];have:=xbz (show(1:Int)<=2^n from Int.pow_pos<|by decide)<|xdD<|uC n;lia
 |m+1,0=>by
  show fac (m+1)<=2^(m+1)*(fac (m+1)*1);rw[xcl];have:=xbz (show(1:Int)<=2^(m+1)from Int.pow_pos<|by decide)<|xdD<|uC<|m+1;lia
 |m+1,n+1=>by
  have i1:=xaW (oy m<|n+1) (show(0:Int)<=((m+1:Nat):Int)by lia);have i2:=xaW (oy (m+1) n) (show(0:Int)<=((n+1:Nat):Int)by lia);rw[show m+(n+1)=m+n+1 by lia]at i1;rw[show m+1+n=m+n+1 by lia]at i2;rw[show m+1+(n+1)=m+n+1+1 by lia];have e1:fac (m+n+1+1)=((m+1:Nat):Int)*fac (m+n+1)+((n+1:Nat):Int)*fac (m+n+1):=by
   show((m+n+1+1:Nat):Int)*fac (m+n+1)=_;rw[<-Int.add_mul];congr 1;lia
  have e2:(2:Int)^(m+n+1+1)*(fac (m+1)*fac (n+1))=((m+1:Nat):Int)*(2^(m+n+1)*(fac m*fac (n+1)))+((n+1:Nat):Int)*(2^(m+n+1)*(fac (m+1)*fac n)):=by
   rw[xbn];have f1:fac (m+1)=((m+1:Nat):Int)*fac m:=rfl;have f2:fac (n+1)=((n+1:Nat):Int)*fac n:=rfl;rw[f1,f2];generalize((m+1:Nat):Int)=x;generalize((n+1:Nat):Int)=y;generalize(2:Int)^(m+n+1)=z;grind
  rw[e1,e2];lia
theorem zaQ:∀(m n:Nat),fac m*fac n<=fac (m+n)
 |0,n=>by
  rw[xaN];show 1*fac n<=fac n;lia
 |m+1,n=>by
  rw[show m+1+n=m+n+1 by lia];show((m+1:Nat):Int)*fac m*fac n<=((m+n+1:Nat):Int)*fac (m+n);have h1:=zaQ m n;have h2:=xaW h1 (show(0:Int)<=((m+1:Nat):Int)by lia);have h3:=xbz (show((m+1:Nat):Int)<=((m+n+1:Nat):Int)by lia)<|xdD<|uC<|m+n;rw[xbK];lia
theorem B0{f g:Nat->Int}:∀{n},(∀k,k<n->f k<=g k)->zW n f<=zW n g
 |0,_=>xfr 0
 |n+1,h=>Int.add_le_add (B0 fun k hk=>h k<|by lia)<|h n<|by lia
theorem FR{f:Nat->Int}{j:Nat}:∀{n},(∀k,k<n->0<=f k)->j<n->f j<=zW n f
 |0,_,h=>absurd h<|xbl _
 |n+1,h,hj=>by
  have h1:=E5 fun k (hk:k<n)=>h k (by lia);have h2:=h n (by lia);show f j<=zW n f+f n;by_cases e:j=n
  ·subst e;lia
  ·have:=FR (fun k hk=>h k<|by lia) (show j<n by lia);lia
theorem mig{f u v:Pz}{a b:Nat}(hu:Tp u a)(hv:Tp v b)(e:f=u*v)(k:Nat):(v b*u k)*(v b*u k)<=4^(a+b)*gJ f (a+b+1):=by
 have hS:=b8 f<|a+b+1;by_cases hk:k<=a
 ·have h1:=zi0 (a:=a) (u:=u) hu.2 b (v:=v) hv.2;have h2:fac k*fac (a-k)*(u k*u k)<=ip a u u:=FR (f:=fun s=>fac s*fac (a-s)*(u s*u s)) (fun s _=>xcD (xcD (xdD<|uC _)<|xdD<|uC _)<|jy _) (by lia);have h3:ip (b+a) (v*u) (v*u)<=fac (b+a)*gJ f (a+b+1):=by
   rw[zk,<-e,xds b a];unfold ip gJ;rw[<-jZ];refine B0 fun s hs=>xbz ?_<|jy _;have:=zaQ s<|a+b-s;rwa[show s+(a+b-s)=a+b by lia]at this
  have h4:=oy b a;have h5:=oy k<|a-k;rw[show k+(a-k)=a by lia]at h5;have pb:=uC b;have pw:(0:Int)<2^(b+a):=Int.pow_pos (by decide);have hx:=Int.mul_pos (uC k)<|uC<|a-k;have ha:=jy<|v b;generalize fac k*fac (a-k)=X at*
  have g1:=xaW h2 (show 0<=fac b*(v b*v b)from xcD (xdD pb) ha);have g2:=xbz h4 hS;have g3:=xaW h5 (show 0<=2^(b+a)*fac b from xcD (xdD pw)<|xdD pb);have g4:=xbz g3 hS;have g5:fac b*X*((v b*u k)*(v b*u k))<=fac b*X*(2^(b+a)*2^a*gJ f (a+b+1)):=by
   have e1:fac b*X*((v b*u k)*(v b*u k))=fac b*(v b*v b)*(X*(u k*u k)):=by grind
   have e2:fac b*X*(2^(b+a)*2^a*gJ f (a+b+1))=2^(b+a)*fac b*(2^a*X)*gJ f (a+b+1):=by grind
   have e3:2^(b+a)*(fac b*fac a)*gJ f (a+b+1)=2^(b+a)*fac b*fac a*gJ f (a+b+1):=by grind
   rw[e1,e2];lia
  have g6:=Int.le_of_mul_le_mul_left g5<|Int.mul_pos pb hx;refine Int.le_trans g6<|xbz ?_ hS;have e4:(4:Int)^(a+b)=2^(b+a)*2^(a+b):=by rw[show(4:Int)=2*2 by decide,Int.mul_pow,xds b a]
  rw[e4];refine xaW ?_<|xdD pw;have:=xaz (n:=2) (by decide) (show a<=a+b by lia);have e5:∀n:Nat,((2^n:Nat):Int)=(2:Int)^n:=fun n=>by simp
  rw[<-e5,<-e5];lia
 ·rw[hu.2 k (by lia),xaw,xaw];exact xcD (xft<|by decide) hS
end
section
variable{fu m:Nat}{a:List Zr}{p g R q:Pz}
theorem Nq{f:Pz}{M:Int}(h:∀k,f k*f k<=M):∀n:Nat,gJ f n<=n*M
 |0=>by show(0:Int)<=((0:Nat):Int)*M;lia
 |n+1=>by
  show zW n (fun k=>f k*f k)+f n*f n<=_;have h1:zW n (fun k=>f k*f k)<=n*M:=Nq h n;have h2:=h n;have e:((n+1:Nat):Int)*M=n*M+M:=by grind
  lia
theorem Tq{x y:Nat}(h:x*x<y*y):x<y:=by
 refine xac fun hn=> ?_;have:=xbJ (show y<=x by lia) (show y<=x by lia);lia
theorem CZ{f u v:Pz}{n B:Nat}(hf:Tp f n)(fu:Fs u)(fv:Fs v)(e:f=u*v)(hn:n<=40)(hb:∀k,Bb B<|f k)(k:Nat):Bb (B+n+4) (u k):=by
 obtain⟨nu,nv⟩:=jo hf.nz e;obtain⟨a,ha⟩:=Tp.ex fu nu;obtain⟨b,hc⟩:=Tp.ex fv nv;have he:a+b=n:=by
  have:=ha.mul hc;rw[<-e]at this;exact this.uniq hf
 have h1:=mig ha hc e k;have h2:∀k,f k*f k<=(2^B:Int)*2^B:=fun k=>by
  have:=hb k;unfold Bb at this;have h3:(f k*f k)=(((f k).natAbs*(f k).natAbs:Nat):Int):=by
   rw[<-xch];have:=jy<|f k;lia
  rw[h3];have h4:=xbJ (xcS this)<|xcS this;have h5:((2:Int)^B*2^B)=((2^B*2^B:Nat):Int):=by simp
  lia
 have h3:=Nq h2<|a+b+1;have h6:(u k).natAbs<=(v b*u k).natAbs:=by
  rw[xch];exact xdm _ (by have:=hc.1;lia)
 refine xba h6<|Tq ?_;have h7:((v b*u k).natAbs*(v b*u k).natAbs:Nat)=(v b*u k*(v b*u k)).natAbs:=(xch _ _).symm;rw[h7];have h8:(v b*u k*(v b*u k)).natAbs<=4^(a+b)*((a+b+1)*(2^B*2^B)):=by
  have h9:(4:Int)^(a+b)*gJ f (a+b+1)<=4^(a+b)*(((a+b+1:Nat):Int)*(2^B*2^B)):=xaW (by lia) (xft<|by decide);have hg:(4:Int)^(a+b)*(((a+b+1:Nat):Int)*(2^B*2^B))=((4^(a+b)*((a+b+1)*(2^B*2^B)):Nat):Int):=by simp
  have:=jy<|v b*u k;lia
 refine xba h8 ?_;have e1:(2:Nat)^(B+n+4)*2^(B+n+4)=4^n*(256*(2^B*2^B)):=by
  rw[show(4:Nat)=2^2 by decide,<-xda,show(256:Nat)=2^8 by decide,<-xbY,<-xbY,<-xbY,<-xbY];congr 1;lia
 rw[e1];have hd:0<(2:Nat)^B*2^B:=Nat.mul_pos (xbj<|by decide) (xbj<|by decide);rw[he];exact Nat.mul_lt_mul_of_pos_left (xbX (by lia) hd)<|xbj<|by decide
theorem lj{K:Nat}(ha:xc K a)(hK:K+1<=100000)(hl:a.length<=1000)(hf:3000000<=fu):YQ fu a=some (vO (a.length-1)<|dvp<|cf a):=by
 unfold YQ;have hc:∀k:Nat,k<=1000->Bz 1 (k:Int):=fun k hk=>Bz.nat (by rw[Nat.pow_one];lia);rw[zd<|ot (g:=fun k=>if k<1000 then cf a k*(k:Int)else 0) (by lia) (by lia) fun j hj=> ?_]
 ·have he:min (a.length:Int) 1=((min a.length 1:Nat):Int):=by lia
  rw[yM,zj,he,yI,yL,zj];have hd:(zi a.length fun k=>if k<1000 then cf a k*(k:Int)else 0).drop (min a.length 1)=zi (a.length-1) (dvp<|cf a):=by
   refine IZ (by rw[xbN,yM,yM];lia) fun j hj=> ?_;rw[xbN,yM]at hj;rw[YK (by lia),H1,xet,<-H1,YK (by lia),show min a.length 1+j=j+1 by lia,zP];show yK (cf a (j+1)*((j+1:Nat):Int))=yK (((j+1:Nat):Int)*cf a (j+1));rw[xbo]
  rw[hd,zd<|zF (k:=K+1) (Qu fun j=> ?_) hK (by rw[yM];lia) hf,yM,r9];unfold dvp;by_cases hj:j+1<=1000
  ·rw[xbo];exact(ha.bz _).mul<|hc _ hj
  ·rw[ye (by lia),xaw];exact Bz.zero _
 ·unfold Xz;have hb:=ha.get j;rw[zd<|yb ⟨by lia,by lia⟩ hf,zd<|yf (KE.of hb<|by lia) ((hc j<|by lia).ok<|by decide) hf,zA,VG,zP]
def QJ:Nat->Nat
 |0=>1
 |1=>1
 |n+2=>2*QJ (n+1)+QJ n
theorem SY:∀n,QJ n<=QJ (n+1)
 |0=>xab _
 |n+1=>by show _<=2*QJ (n+1)+QJ n;lia
theorem VB{i:Nat}:∀d,QJ i<=QJ (i+d)
 |0=>xab _
 |d+1=>xan (VB d)<|SY _
theorem IJ(j:Nat):∀t,QJ j+(t+1+1)*QJ (j+1)<=QJ (j+1+(t+1))
 |0=>by show _<=2*QJ (j+1)+QJ j;lia
 |t+1=>by
  have ih:=IJ j t;have h1:QJ (j+1+(t+1+1))=2*QJ (j+1+(t+1))+QJ (j+1+t):=rfl;have e:(t+1+1+1)*QJ (j+1)=(t+1+1)*QJ (j+1)+QJ (j+1):=by rw[xaR _ 1,xcb]
  have h2:QJ (j+1)<=(t+1+1)*QJ (j+1):=xdm _ (by lia);lia
theorem FA{d:Pz}(fd:Fs d)(pd:Pm d):Zd d (cf<|vt a)↔Zd d (cf a):=by
 by_cases h:(yj a).length=0
 ·have h1:(cf a:Pz)=pc 0:=funext fun k=>by rw[jO h k,zO]
  have h2:(cf (vt a):Pz)=pc 0:=funext fun k=>by rw[Xr,jO h k,xfI,zO]
  rw[h1,h2]
 ·have hm:=Q9 a;constructor
  ·intro hz;rw[<-hm];exact hz.mul _<|Fs.pc _
  ·intro hz;rw[<-hm]at hz;exact Zd.pm fd pd (sY h) hz
theorem AN{C L:Nat}{b:List Zr}(ha:yj a=a)(hb:yj b=b)(hk:va a=1)(ho:b.length<a.length)(hL:a.length=L)(hD:L<=60)(hC:C*QJ (L-1)<=639000)(hp:C*QJ L<=2400000){ca cb:Nat}(hy:ca+1<=C)(hA:cb+1<=C)(bA:∀j,Bb ca<|cf a j)(bB:∀j,Bb cb<|cf b j)(hf:3000000<=fu):
 ∃g,JI fu a b=some g/\yj g=g/\Pm (cf g)/\Po (cf g)/\g.length<=L/\∀d,Fs d->Pm d->(Zd d (cf g)↔Zd d (cf a)/\Zd d (cf b)):=by
 have hB:C<=C*QJ (L-1):=xbU _<|xal (show 0<QJ 0 by decide) (by have h:=VB (i:=0)<|L-1;rwa[xaN]at h);have oA:xc 9985 a:=by rw[<-ha];exact xn fun j=>(bA j).bz<|by lia
 have oB:xc 9985 b:=by rw[<-hb];exact xn fun j=>(bB j).bz<|by lia
 have hl:vt a=a:=Jw (W4 a) ha fun k=>by rw[Xr,hk,Int.ediv_one]
 have hq:(yj a).length≠0:=by rw[ha];lia
 obtain⟨pa1,pa2⟩:=QV hq;rw[hl]at pa1 pa2
 obtain⟨x,hx,x1,x2,x3,x4,x5,x6⟩:=yA (f:=JB fu) (fun s:List Zr×List Zr=>yj s.1=s.1/\Pm (cf s.1)/\Po (cf s.1)/\yj s.2=s.2/\s.2.length<s.1.length/\s.1.length<=L/\(∃bx,bx+1<=C*QJ (L-s.1.length)/\∀i,Bb bx<|cf s.1 i)/\(∃b_,b_+1<=C*QJ (L-s.1.length+1)/\∀i,Bb b_<|cf s.2 i)/\(s.2.length≠0->Pm (cf s.2)/\Po (cf s.2))/\∀d,Fs d->Pm d->((Zd d (cf s.1)/\Zd d (cf s.2))↔(Zd d (cf a)/\Zd d (cf b)))) (fun s=>s.2.length)
  (fun x=>yj x=x/\Pm (cf x)/\Po (cf x)/\x.length<=L/\xc 37500 x/\∀d,Fs d->Pm d->(Zd d (cf x)↔(Zd d (cf a)/\Zd d (cf b)))) (by
  rintro⟨x,y⟩ R ⟨h1,h2,h3,h4,h5,h6,⟨bx,h7,h8⟩,⟨b_,h9,hd⟩,hm,he⟩ ih
  simp only at h1 h2 h3 h4 h5 h6 h7 h8 h9 hd hm he
  unfold JB
  simp only
  have hc:∀{i},i<=L->C*QJ i<=2400000:=fun{i} hi=>xan (xaD _ (by
   have:=VB (i:=i)<|L-i;rwa[show i+(L-i)=L by lia]at this)) hp
  by_cases hr:0<y.length
  ·obtain⟨t,ht⟩:∃t,x.length-y.length=t+1:=⟨x.length-y.length-1,by lia⟩
   have hg:bx+(x.length-y.length+1)*(b_+1)+1<=C*QJ (L-y.length+1):=by
    have hj:=IJ (L-x.length) t;rw[show L-x.length+1+(t+1)=L-y.length+1 by lia]at hj;have hs:=xaD C hj;rw[xbh,xeb]at hs;have hE:=xaD (t+1+1) h9;rw[ht];lia
   obtain⟨q,r,c,Q,e1,e2,e3,e4,e5,e6,e7⟩:=iW (fu:=fu) h1 h4 (by lia) hr (by lia) h8 hd (by have:=hc (i:=L-y.length+1) (by lia);lia) hf
   have oR:xc 9985 r:=by
    by_cases hu:r.length=0
    ·rw[xbF.1 hu];intro z hz;cases hz
    ·rw[<-e2];refine xn fun j=>(e7 j).bz ?_;have hj:C*QJ (L-y.length+1)<=C*QJ (L-1):=xaD _ (by
      have:=VB (i:=L-y.length+1)<|y.length-2;rwa[show L-y.length+1+(y.length-2)=L-1 by lia]at this)
     lia
   rw[zP,zd e1]
   simp only
   rw[zd<|vM oR (by decide) (by lia) hf]
   have hv:=Yp r
   rw[e2]at hv
   obtain⟨y1,y2⟩:=hm<|by lia
   have hF:=Q9 r
   refine ih _ ⟨h4,y1,y2,W4 r,by show(vt r).length<y.length;lia,by show y.length<=L;lia,⟨b_,?_,hd⟩,⟨_,hg,fun i=> ?_⟩,fun(hn:(vt r).length≠0)=>QV (by rw[e2];show r.length≠0;lia),fun d fd pd=> ?_⟩ (by show(vt r).length<y.length;lia)
   ·refine xan h9<|xaD _ ?_
    show QJ (L-x.length+1)<=QJ (L-y.length)
    have:=VB (i:=L-x.length+1)<|x.length-y.length-1
    rwa[show L-x.length+1+(x.length-y.length-1)=L-y.length by lia]at this
   ·show Bb _ (cf (vt r) i)
    rw[Xr]
    exact(e7 i).le<|xdq _ _
   ·rw[<-he d fd pd]
    show(Zd d (cf y)/\Zd d (cf<|vt r))↔(Zd d (cf x)/\Zd d (cf y))
    rw[FA fd pd]
    constructor
    ·rintro⟨z1,z2⟩
     refine⟨Zd.pm fd pd e4 ?_,z1⟩
     rw[e6]
     exact(z1.mul _ e5).add z2
    ·rintro⟨z1,z2⟩
     refine⟨z2,?_⟩
     have:(cf r:Pz)=pc c*cf x-Q*cf y:=funext fun k=>by
      have:=congrFun e6 k;rw[zM]at this;rw[yE];lia
     rw[this]
     exact(z1.mul _<|Fs.pc c).sub<|z2.mul _ e5
  ·rw[zC]
   refine⟨x,rfl,h1,h2,h3,h6,?_,fun d fd pd=> ?_⟩
   ·rw[<-h1]
    exact xn fun j=>(h8 j).bz (by have:=hc (i:=L-x.length) (by lia);lia)
   ·rw[<-he d fd pd]
    have:Zd d (cf y):=⟨pc 0,Fs.pc 0,funext fun k=>by rw[ye (by lia),yh,zO]⟩
    exact⟨fun h=>⟨h,this⟩,fun h=>h.1⟩) fu (a,vt b) ⟨ha,pa1,pa2,W4 b,by show(vt b).length<a.length;rw[Yp,hb];exact ho,by show a.length<=L;lia,⟨ca,by show ca+1<=C*QJ (L-a.length);rw[hL,xdb];show ca+1<=C*1;lia,bA⟩,⟨cb,by show cb+1<=C*QJ (L-a.length+1);rw[hL,xdb];show cb+1<=C*1;lia,fun i=>by
    show Bb cb (cf (vt b) i)
    rw[Xr]
    exact(bB i).le<|xdq _ _⟩,fun hn=>QV (by have:=Yp b;show(yj b).length≠0;rw[<-this];exact hn),fun d fd pd=>by
    show(Zd d (cf a)/\Zd d (cf<|vt b))↔_
    rw[FA fd pd]⟩ (by show(vt b).length<fu;rw[Yp,hb];lia)
 have b1:=(Bz.one' (k:=1)<|xab _);have bc:=(FZ oB);have hw:vO x.length (fun j=>cf x j*1)=x:=by rw[show(fun j=>cf x j*1)=cf x from funext fun j=>xcl _];exact x1
 refine⟨x,?_,x1,x2,x3,x4,x6⟩;unfold JI;rw[zd<|jq oA,zd<|jq oB,hk,zd<|bT (K:=9985) (yW _) (yW _) (xan b1.len<|by decide) bc.len (by decide) hf,zA,zA,show Int.natAbs 1=1 from rfl,Nat.gcd_one_left,show((1:Nat):Int)=1 from rfl,zd<|vM oA (by decide) (by lia) hf,zd<|vM oB (by decide) (by lia) hf,hl,zd hx,zd<|qI (l:=1) x5 ⟨yW _,b1.len⟩ (by decide) (by lia) hf,zA];show some (vO x.length fun j=>cf x j*1)=_;rw[hw]
theorem LH(q:Pz):∀n,dvp (pp q<|n+1)=pc ((n+1:Nat):Int)*(pp q n*dvp q)
 |0=>by
  show dvp (pc 1*q)=pc 1*(pc 1*dvp q);rw[zz,zz,zz]
 |n+1=>by
  show dvp (pp q (n+1)*q)=pc _*(pp q n*q*dvp q);rw[WA,LH q n,zf<|pc _,zf<|pp q n,zf<|pp q n,zk (dvp q) q];show _+pp q n*q*dvp q=_;rw[zf<|pp q n];funext k;rw[zM,zN,zN];grind
theorem zdF(hp:Tp p m)(fg:Fs g)(fR:Fs R)(e:p=R*g)(hg:Zd g (dvp p))(hq:Ir q)(h:Zd q p):Zd q R:=by
 refine xac fun ha=> ?_;obtain⟨n,_,hn⟩:=Mu.ex hq m hp;obtain⟨nR,ng⟩:=jo hp.nz e;obtain⟨d,hd⟩:=Tp.ex fg ng;obtain⟨i,_,hi⟩:=Mu.ex hq d hd;have h1:=(Mu.zero fR ha).mul hq hi;rw[<-e,xaN]at h1;obtain rfl:=h1.uniq hq hn;have hc:i≠0:=fun h0=>by
  subst h0;obtain⟨u,fu,e2,hu⟩:=hn;rw[show pp q 0=pc 1 from rfl,zU]at e2;rw[<-e2]at hu;exact hu h
 obtain⟨j,rfl⟩:∃j,i=j+1:=⟨i-1,by lia⟩;obtain⟨u,fu,e2,hu⟩:=hn;obtain⟨v,fv,e3,_⟩:=hi;have h2:Zd (pp q<|j+1) (dvp p):=Zd.trans ⟨v,fv,e3⟩ hg;rw[e2,WA]at h2;have h3:Zd (pp q<|j+1) (u*dvp (pp q<|j+1)):=by
  have:u*dvp (pp q<|j+1)=(dvp u*pp q (j+1)+u*dvp (pp q<|j+1))-dvp u*pp q (j+1):=funext fun k=>by simp only[zM,yE];lia
  rw[this];exact h2.sub ⟨dvp u,fu.dvp,rfl⟩
 rw[LH]at h3;obtain⟨w,fw,e4⟩:=h3;have h4:w*q=u*(pc ((j+1:Nat):Int)*dvp q):=by
  refine pX (fw.mul hq.fs) (fu.mul<|(Fs.pc _).mul hq.fs.dvp) (hq.fs.pp j) (hq.pm.pp j).nz ?_;have e5:w*pp q (j+1)=w*q*pp q j:=by
   show w*(pp q j*q)=_;rw[zf,zk (pp q j) q]
  rw[<-e5,<-e4,zf u,zf<|pc _,zk (dvp q)<|pp q j]
 rcases hq.prime fu ((Fs.pc _).mul hq.fs.dvp) ⟨w,fw,h4.symm⟩with h5|h5
 ·exact hu h5
 ·obtain⟨t,ht⟩:=Tp.ex hq.fs hq.pm.nz;have he:t≠0:=fun h0=>hq.dg<|(KF.tp ht).2 h0;obtain⟨w2,hb,hz⟩:=DF (n:=0) ht h5 fun k hk=>by
   rw[zN];show _*(((k+1:Nat):Int)*q (k+1))=0;rw[ht.2 _ (by lia),xaw,xaw]
  have h6:=congrFun hb<|t-1;rw[xq w2,yJ fun i _=>by rw[hz i (by lia),xaV],zN]at h6;have h7:((j+1:Nat):Int)*(((t-1+1:Nat):Int)*q (t-1+1))=0:=h6;rw[show t-1+1=t by lia]at h7;rcases xeF.1 h7 with h8|h8
  ·lia
  ·rcases xeF.1 h8 with h9|h9
   ·lia
   ·exact ht.1 h9
theorem zg5(hp:Tp p m)(fg:Fs g)(fR:Fs R)(e:p=R*g)(hg:∀d,Fs d->Pm d->Zd d p->Zd d (dvp p)->Zd d g)(hq:Ir q):¬Zd (q*q) R:=fun⟨z,fz,ez⟩=>by
 obtain⟨n,_,u,fu,e1,hu⟩:=Mu.ex hq m hp
 cases n with
 |zero=>
  refine hu ⟨z*q*g,(fz.mul hq.fs).mul fg,?_⟩;have e2:u=p:=by rw[e1];exact(zU u).symm
  rw[e2,e,ez];simp only[zk,zy]
 |succ k=>
  have fk:=hq.fs.pp k;have e3:pp q (k+1)=q*pp q k:=zk _ _;obtain⟨w,fw,ew⟩:=hg (pp q k) fk (hq.pm.pp k) ⟨u*q,fu.mul hq.fs,by rw[e1,e3,zf]⟩ (by
   rw[e1,WA,LH];refine Zd.add ⟨dvp u*q,fu.dvp.mul hq.fs,by rw[e3,zf]⟩ ⟨u*(pc ((k+1:Nat):Int)*dvp q),fu.mul<|(Fs.pc _).mul hq.fs.dvp,?_⟩;simp only[zk,zy])
  refine hu ⟨z*w,fz.mul fw,?_⟩;refine pX fu ((fz.mul fw).mul hq.fs) (hq.fs.pp<|k+1) (hq.pm.pp<|k+1).nz ?_;rw[<-e1,e,ez,ew,e3];simp only[zk,zy]
end
noncomputable def zdr(fu:Nat)(a:List Zr)(fs:List (List Int))(p:Int):Int:=
 if wK p=true then(if 65<(yj a).length then 6 else if wH fu (yj a) fs p=some true then 0 else 1)else 1
theorem TC{fu:Nat}{p k:Int}{a:List Zr}{fs:List (List Int)}{us:List (List Zr)}{e:Int}(ha:xc 250 a)(hg:a.length<=1000)(h1:1<=k)(h2:k<=1000)(hf:3000200<=fu)(h:qm fu a fs p k=some (us,e)):e=zdr fu a fs p:=by
 unfold qm at h;unfold zdr;rw[zd<|jJ<|by lia]at h;simp only at h;rw[zd (zF ha (by decide) (by lia)<|by lia),show vO a.length (cf a)=yj a from rfl]at h;by_cases hp:wK p=true
 ·have hb:gF p k=(yK<|p^k.toNat,0):=by
   unfold gF;rw[if_pos ⟨hp,h1,h2⟩]
  rw[hb]at h;rw[iq hp];simp only[if_true]at h;by_cases hc:65<(yj a).length
  ·rw[zP]at h;rw[iq hc];simp only[xay,xcx]at h;exact h.2.symm
  ·rw[zC]at h;rw[ir hc]
   cases hr:wH fu (yj a) fs p with
   |none=>rw[hr]at h;cases h
   |some b=>
    rw[hr]at h;change(if(!b)=true then _ else _)=_ at h
    cases b with
    |false=>
     rw[iq<|by decide]at h;rw[ir<|by simp];simp only[xay,xcx]at h;exact h.2.symm
    |true=>
     rw[ir<|by decide]at h;rw[iq rfl];split at h
     ·simp only[xay,xcx]at h;exact h.2.symm
     ·cases hd:yY fu (yj a) (yK<|p^k.toNat)with
      |none=>rw[hd]at h;cases h
      |some t=>
       rw[hd]at h;change bd (w8 fu t fs p k<|yK<|p^k.toNat) _=_ at h
       cases he:w8 fu t fs p k (yK<|p^k.toNat)with
       |none=>rw[he]at h;cases h
       |some t3=>
        rw[he]at h;change some (t3,(0:Int))=_ at h;simp only[xay,xcx]at h;exact h.2.symm
 ·have hb:gF p k=((false,[]),1):=by
   unfold gF;rw[ir<|fun h=>hp h.1]
  rw[hb]at h;rw[ir hp];simp only[Int.reduceEq,if_false,xay,xcx]at h;exact h.2.symm
section
variable{fu:Nat}{p:Int}{a:List Zr}
def zfX(p:Int)(n:Nat)(fs:List (List Int)):Prop:=(∀t,t<fs.length->(fs.getD t []).length<=n/\LA p (fs.getD t []))/\∀t j,t<fs.length->j<t->qW p (ci<|fs.getD t []) (ci<|fs.getD j [])
theorem Dk{i:Nat}{f:List Int}{fs:List (List Int)}(hp:wK p=true)(hc:Fp p f)(hd:f.length<=290)(hi:i<=fs.length)(hl:i<=1000000)(hF:∀j,j<i->Fp p (fs.getD j [])/\(fs.getD j []).length<=290)(hf:3000000<=fu):
 ∃r,zm (qN fu p f<|fs.take i) fu 0=some r/\((r=.inl ()/\∀j,j<i->qW p (ci f) (ci<|fs.getD j []))\/(r=.inr ()/\¬∀j,j<i->qW p (ci f) (ci<|fs.getD j []))):=by
 obtain⟨p1,p2⟩:=zu hp;have hk:(fs.take i).length=i:=by rw[xav];lia
 have ha:∀j,j<i->(fs.take i).getD j []=fs.getD j []:=fun j hj=>by rw[H1,xcp,iq hj,<-H1]
 refine yA (fun x:Int=>∃j:Nat,x=(j:Int)/\j<=i/\∀t,t<j->qW p (ci f) (ci<|fs.getD t [])) (fun x=>i-x.toNat) _ ?_ _ _ ⟨0,rfl,xah _,fun t h=>absurd h<|xbl _⟩ (by show i-0<fu;lia);rintro x L ⟨j,rfl,hj,he⟩ ih;unfold qN;by_cases h1:j<i
 ·obtain⟨k1,k2⟩:=hF j h1;obtain⟨d,s,t,hg,hR,e3⟩:=VA (fu:=fu) hp hc k1 hd k2 hf;have hb:=O3 p1 hR e3;rw[zP,yp,zj,ha j h1,zd hg];simp only;by_cases h2:d.length=1
  ·rw[zP,ze];refine ih _ ⟨j+1,rfl,by lia,fun t ht=> ?_⟩ (by lia);by_cases h3:t=j
   ·rw[h3];exact hb.1 h2
   ·exact he t<|by lia
  ·rw[zC];exact⟨_,rfl,.inr ⟨rfl,fun h=>h2<|hb.2<|h j h1⟩⟩
 ·rw[zC];exact⟨_,rfl,.inl ⟨rfl,fun t ht=>he t<|by lia⟩⟩
theorem Mz{fs:List (List Int)}(hp:wK p=true)(hd:a.length<=66)(h0:a.length≠0)(hl:(vZ p a).length=a.length)(g1:∀t,t<fs.length->(fs.getD t []).length<=a.length/\LA p (fs.getD t [])):
 (∀f∈fs,Fp p f)/\(∀f∈fs,f.length<=66)/\(vZ p a).drop (a.length-1)=[ci (vZ p a)<|a.length-1]/\Fp p [ci (vZ p a)<|a.length-1]:=by
 obtain⟨p1,p2⟩:=zu hp;have ha:∀{q:List Int->Prop},(∀t,t<fs.length->q (fs.getD t []))->∀f∈fs,q f:=fun{q} h f hf=>by
  obtain⟨j,hj,rfl⟩:=xdA.1 hf;have:=h j hj;rw[H1,xaa hj]at this;exact this
 have hz:=Wu (p:=p) (by lia) a;have hc:ci (vZ p a) (a.length-1)≠0:=by
  rcases hz.nl with h|h
  ·lia
  ·rw[hl]at h;exact h
 have he:=hz.nn<|a.length-1;have hb:=hz.lt<|a.length-1;refine⟨ha fun t ht=>(g1 t ht).2.fp (by lia),ha fun t ht=>by have:=(g1 t ht).1;lia,?_,Yt (by lia) hb⟩;rw[xcz (by lia),xcm<|by lia];unfold ci;rw[H1,xaa<|by lia];rfl
theorem cy{k:Nat}{fs:List (List Int)}(hp:wK p=true)(ha:xc k a)(hk:k<=40000)(hg:a.length<=66)(hf:3000000<=fu):
 ∃b,wH fu a fs p=some b/\(b=true↔Uk p a fs):=by
 obtain⟨p1,p2⟩:=zu hp;unfold wH;rw[zd<|ke ha hk (by lia) p2];simp only;by_cases h0:a.length=0
 ·rw[zP];exact⟨_,rfl,fun e=>absurd e (by decide),fun e=>absurd h0 e.a0⟩
 ·rw[zC];by_cases hl:(vZ p a).length=a.length
  ·rw[zP];by_cases ho:a.length<fs.length
   ·rw[zP];exact⟨_,rfl,fun e=>absurd e (by decide),fun e=>by have:=e.fl;lia⟩
   ·rw[zC]
    obtain⟨r,e1,e2⟩:=yA (f:=qL fu a fs p) (fun x:Int×List Int=>∃i:Nat,x=((i:Int),vZ p a)/\i<=fs.length/\(∀t,t<i->(fs.getD t []).length<=a.length/\LA p (fs.getD t []))/\∀t j,t<i->j<t->qW p (ci<|fs.getD t []) (ci<|fs.getD j [])) (fun x=>fs.length-x.1.toNat)
     (fun r=>(r=.inr ()/\¬zfX p a.length fs)\/(r=.inl (vZ p a)/\zfX p a.length fs)) (by
      rintro x L ⟨i,rfl,hi,g1,g2⟩ ih;unfold qL;simp only;by_cases h1:i<fs.length
      ·rw[zP,zd rfl];simp only[if_true];rw[zw h1,zj];by_cases h2:a.length<(fs.getD i []).length
       ·rw[zP];exact⟨_,rfl,.inl ⟨rfl,fun h=>by have:=(h.1 i h1).1;lia⟩⟩
       ·obtain⟨b,b1,b2⟩:=Qh (fu:=fu) (l:=fs.getD i []) (p:=p) (by lia) hf;rw[zC,zd b1]
        cases b with
        |false=>
         rw[iq<|by decide];exact⟨_,rfl,.inl ⟨rfl,fun h=>absurd (b2.2 (h.1 i h1).2)<|by decide⟩⟩
        |true=>
         have hb:=b2.1 rfl;rw[ir (by decide),yI,yL,zj];obtain⟨q,q1,q2⟩:=Dk (fu:=fu) (i:=i) (fs:=fs) hp (hb.fp<|by lia) (by lia) (by lia) (by lia) (fun j hj=>⟨(g1 j hj).2.fp (by lia),by have:=(g1 j hj).1;lia⟩) hf;rw[zd q1];rcases q2 with⟨rfl,q2⟩|⟨rfl,q2⟩
         ·simp only;rw[ze];refine ih _ ⟨i+1,rfl,by lia,fun t ht=> ?_,fun t j ht hj=> ?_⟩ (by show fs.length-((i:Int)+1).toNat<fs.length-(i:Int).toNat;lia)
          ·by_cases h4:t=i
           ·rw[h4];exact⟨by lia,hb⟩
           ·exact g1 t<|by lia
          ·by_cases h4:t=i
           ·rw[h4]at hj⊢;exact q2 j hj
           ·exact g2 t j (by lia) hj
         ·exact⟨_,rfl,.inl ⟨rfl,fun h=>q2 fun j hj=>h.2 i j h1 hj⟩⟩
      ·rw[zC,zd rfl];simp only[xak,if_false];exact⟨_,rfl,.inr ⟨rfl,fun t ht=>g1 t (by lia),fun t j ht hj=>g2 t j (by lia) hj⟩⟩) fu (0,vZ p a) ⟨0,rfl,xah _,fun t h=>absurd h (xbl _),fun t j h=>absurd h (xbl _)⟩ (by show fs.length-0<fu;lia)
    rw[zd e1];rcases e2 with⟨rfl,e2⟩|⟨rfl,g1,g2⟩
    ·exact⟨_,rfl,fun e=>absurd e (by decide),fun e=>absurd ⟨e.pl,e.cp⟩ e2⟩
    ·simp only;obtain⟨hm,hd,hc,he⟩:=Mz hp hg h0 hl g1;have hq:fs.length*66<=66*66:=xat _ (by lia);have hb:=UM (p:=p) hd;have hz:=Wu (p:=p) (by lia) a;have hn:=qy p (X4 p fs) [ci (vZ p a)<|a.length-1];simp only[xaq,xbR]at hn;rw[zd (qC hp hm hd (by lia)<|by decide),hl,show(a.length:Int)-1=((a.length-1:Nat):Int)by lia,ze,yI,yL,zj,hc,zd<|kn hp (K6 (by lia) fs) he (by lia)<|by simp];simp only;rw[zd<|VR hp (v7 (by lia) _ _) hz (by lia) (by lia) hf];exact⟨_,rfl,fun e=>⟨h0,hl,by lia,g1,g2,of_decide_eq_true e⟩,fun e=>decide_eq_true e.pr⟩
  ·rw[zC];exact⟨_,rfl,fun e=>absurd e (by decide),fun e=>absurd e.al hl⟩
end
section
variable{a R:List Zr}{fu K:Nat}{q p:Int}{ds:List Int}
theorem oo(h:dp a=0):1<=(yj a).length/\(yj a).length<=65:=by grind [dp]
theorem Pq:wK 2=true:=OM ⟨by decide,by decide,fun d h1 h2=>by
 have:=xbJ h1 h1;have h4:(2:Int).toNat=2:=rfl;lia⟩
theorem SG(hc:yj a=a)(hp:Pm (cf a))(hs:Po (cf a)):va a=1:=by
 obtain⟨n,hn,hb⟩:=hs.tp;have ha:(yj a).length≠0:=fun e=>hn.1<|jO e n;have h1:=(km ha).uniq hn;have a2:Yc (cf a) a.length=1:=hp _<|dF fun k hk=>ye hk;have a3:va a=if cf (yj a) ((yj a).length-1)<0 then-((Yc (cf a) (yj a).length:Nat):Int)else((Yc (cf a) (yj a).length:Nat):Int):=rfl;rw[uU,h1,zC,hc,a2]at a3;exact a3
theorem Po.left{u v:Pz}(fu:Fs u)(h:Po (u*v))(hv:Po v):Po u:=by
 obtain⟨m,hm,hp⟩:=h.tp;obtain⟨b,hb,hq⟩:=hv.tp;obtain⟨nu,_⟩:=jo hm.nz rfl;obtain⟨a,ha⟩:=Tp.ex fu nu;obtain rfl:=(ha.mul hb).uniq hm;rw[Vw ha.2 hb.2]at hp;exact⟨a,Int.pos_of_mul_pos_left hp hq,ha.2⟩
structure Rad(a R:List Zr):Prop where
 can:yj R=R
 pm:Pm (cf R)
 ps:Po (cf R)
 dv:∃g:Pz,Fs g/\cf (vt a)=cf R*g
 al:∀q,Ir q->Zd q (cf a)->Zd q (cf R)
 ln:R.length<=(yj a).length
 sf:∀q,Ir q->¬Zd (q*q) (cf R)
theorem de(ha:xc K a)(hK:K<=40000)(hl:a.length<=1000000)(h0:dp a≠0)(hf:3000000<=fu):wI fu a=some ([],dp a):=by grind [wI,zd,XH]
theorem dN{B:Nat}(ha:xc K a)(hK:K<=100)(hl:a.length<=40)(h0:dp a=0)(bA:∀j,Bb B<|cf a j)(hB:B<=6000)(hC:(B+7)*QJ ((yj a).length-1)<=639000)(hi:(B+7)*QJ ((yj a).length)<=2400000)(hf:3000000<=fu):
 ∃R,wI fu a=some (R,0)/\Rad a R/\∀j,Bb (B+(yj a).length+4) (cf R j):=by
 have hu:=oo h0;have hv:=WC a;obtain⟨p,hp⟩:∃p,p=vt a:=⟨_,rfl⟩;have hb:yj p=p:=by rw[hp];exact W4 a
 have hg:p.length=(yj a).length:=by rw[hp];exact Yp a
 obtain⟨p1,p2⟩:=QV (a:=a) (by lia);rw[<-hp]at p1 p2;have hm:(yj p).length≠0:=by rw[hb];lia
 have tp:=km hm;rw[hb]at tp;have bP:∀j,Bb B (cf p j):=fun j=>by
  rw[hp,Xr];exact(bA j).le<|xdq _ _
 have oP:xc 94 p:=by rw[<-hb];exact xn fun j=>(bP j).bz<|by lia
 have hn:=SG hb p1 p2;obtain⟨d,hd⟩:∃d,d=vO (p.length-1) (dvp<|cf p):=⟨_,rfl⟩;have hc:(cf d:Pz)=dvp (cf p):=funext fun k=>by
  rw[hd];exact jD (fun k hk=>by unfold dvp;rw[ye (by lia),xaw]) k
 have ho:yj d=d:=by rw[hd];exact(YV _ _).symm
 have hr:d.length<p.length:=by
  have:=qe (dvp<|cf p)<|p.length-1;rw[hd,xM];lia
 have bD:∀j,Bb (B+6) (cf d j):=fun j=>by
  rw[hc];show Bb _ (((j+1:Nat):Int)*cf p (j+1));by_cases hj:j+1<64
  ·rw[xbo];exact(bP _).mul (show((j+1:Nat):Int).natAbs<2^6 by rw[xbe];exact hj)
  ·rw[ye (by lia),xaw];exact Bb.zero _
 obtain⟨g,g1,g2,g3,g4,g5,g6⟩:=AN (fu:=fu) (C:=B+7) (L:=p.length) hb ho hn hr rfl (by lia) (by rw[hg];exact hC) (by rw[hg];exact hi) (ca:=B) (cb:=B+6) (by lia) (by lia) bP bD hf;obtain⟨z1,z2⟩:=(g6 _ (Fs.cf g) g3).1<|Zd.refl _;have hs:(yj g).length≠0:=fun e=>by
  obtain⟨j,hj⟩:=g3.nz;exact hj<|jO e j
 obtain⟨w,fw,hw⟩:=z1;have bG:∀j,Bb (B+(yj a).length+4) (cf g j):=fun j=>(CZ tp (Fs.cf g) fw (by rw[hw,zk]) (by lia) bP j).mono (by lia);have oG:xc 97 g:=by rw[<-g2];exact xn fun j=>(bG j).bz<|by lia
 obtain⟨R,e,r1,r2,r3⟩:=VE (fu:=fu) oP oG (by have:=xat (97+1) (show p.length+1<=41 by lia);lia) (by lia) (by lia) hs hf;have he:e=0:=r2.2 ⟨w,fw,hw⟩;subst he;obtain⟨r4,r5,r6⟩:=r3 rfl;have ht:Pm (cf R):=(r4▸p1:Pm (cf R*cf g:Pz)).left;refine⟨R,?_,⟨r5,ht,Po.left (Fs.cf R) (r4▸p2:Po (cf R*cf g:Pz)) g4,⟨cf g,Fs.cf g,by rw[<-hp];exact r4⟩,fun q hq hz=> ?_,by lia,fun q hq=>zg5 tp (Fs.cf g) (Fs.cf R) r4 (fun d fd pd y1 y2=>(g6 d fd pd).2 ⟨y1,by rw[hc];exact y2⟩) hq⟩,fun j=>(CZ tp (Fs.cf R) (Fs.cf g) r4 (by lia) bP j).mono<|by lia⟩
 ·unfold wI;rw[zd<|XH ha (by lia) (by lia) hf,iq h0,zd<|vM ha (by lia) (by lia) hf,<-hp,zd<|lj oP (by decide) (by lia) hf,<-hd,zd g1];unfold iA;rw[zd (v:=R)<|by rw[zd r1]]
 ·refine zdF tp (Fs.cf g) (Fs.cf R) r4 (by rw[<-hc];exact z2) hq ?_;rw[hp];exact(FA hq.fs hq.pm).2 hz
theorem Nr:wK 65521=true:=OM ⟨by decide,by decide,fun d h1 h2=>by
 have h3:d<256:=by
  refine xac fun hn=> ?_;have:=xbJ (show 256<=d by lia) (show 256<=d by lia);have h4:(65521:Int).toNat=65521:=rfl;lia
 have key:∀d:Nat,d<256->2<=d->(65521:Nat)%d≠0:=by decide+kernel
 exact key d h3 h1⟩
theorem iC(h:65521<=q):xT fu q=some (0,5):=by
 unfold xT;rw[iq h]
theorem Ki(h1:1<=q)(h:q<65521)(hf:3000000<=fu):∃r,xT fu q=some (r,0)/\wK r=true/\q<r/\∀s,q<s->s<r->wK s=false:=by
 unfold xT;obtain⟨r,hr,r1,r2,r3⟩:=yA (f:=Vn fu) (fun i:Int=>q<i/\i<=65521/\∀s,q<s->s<i->wK s=false) (fun i=>(65521-i).toNat) (fun r=>wK r=true/\q<r/\∀s,q<s->s<r->wK s=false) (by
  rintro i L ⟨i1,i2,i3⟩ ih;unfold Vn;rw[zd<|YO<|by lia]
  cases hp:wK i with
  |true=>rw[ir<|by decide];exact⟨_,rfl,hp,i1,i3⟩
  |false=>
   have ha:i≠65521:=fun e=>by rw[e,Nr]at hp;cases hp
   rw[iq (by decide),ze];refine ih _ ⟨by lia,by lia,fun s h1 h2=> ?_⟩ (by lia);by_cases e:s=i
   ·rw[e];exact hp
   ·exact i3 s h1<|by lia) fu (q+1) ⟨by lia,by lia,fun s h1 h2=>by lia⟩ (by lia)
 rw[zC,zj,show max q 1=q by lia,ze,zd hr];exact⟨r,rfl,r1,r2,r3⟩
def ui(R:List Zr)(p:Int):Prop:=wK p=true/\cf R (R.length-1)%p≠0/\qW p (cf R) (dvp<|cf R)
theorem CC{x:Int}{f g:Pz}(h:Cg p g (pc x*f))(hc:qW p g (dvp g)):qW p f (dvp f):=by
 have h1:Cg p (dvp g) (pc x*dvp f):=(SX h).trans (Cg.of (by
  rw[WA,zie];funext k;rw[zM,yh,zO,xcF]))
 obtain⟨s,t,fs,ft,e⟩:=hc.congr h h1;refine⟨s*pc x,t*pc x,fs.mul<|Fs.pc x,ft.mul<|Fs.pc x,?_⟩;rw[zf,zf];exact e
theorem gh(hp:0<p:=by lia)(hR:0<R.length:=by lia):(vZ p R).length=R.length↔cf R (R.length-1)%p≠0:=by
 have hn:=(Wu hp R).nl;constructor
 ·intro h;rcases hn with h1|h1
  ·lia
  ·rw[h,Qg]at h1;exact h1
 ·intro h;have:=zep p R;by_cases e:(vZ p R).length=R.length
  ·exact e
  ·exfalso;rw[<-Qg,zV<|by lia]at h;exact h rfl
theorem zfW(hp:wK p=true)(hR:0<R.length)(hl:R.length<=65)(hz:(vZ p R).length=R.length)(hf:3000000<=fu:=by lia):
 ∃m b,zac p (vZ p R) m/\wz p m/\Zi fu (vZ p R) p=some (b,0)/\(b=true↔qW p (ci m) (dvp<|ci m))/\jz fu (vZ p R) p=if b=true then some (m,0)else some ([],1):=by
 obtain⟨p1,p2⟩:=zu hp;have hF:=Wu (p:=p) (by lia) R;obtain⟨m,b,h1,h2,h3,h4,h5⟩:=lD (fu:=fu) hp hF (by lia) (by lia) hf;refine⟨m,b,h1,h2,?_,h4,h5⟩;have hb:=h1.ln;obtain⟨x,x0,x1,hx,e1⟩:=Yz (fu:=fu) hp hF (by lia) (by lia) hf;obtain⟨b',c1,c2,c3⟩:=fI (fu:=fu) hp h2 (by lia) hf;have hM:=IW p1 hF (by lia) hx;have ha:y6 p (vZ p R) [x]=m:=by
  obtain⟨_,y,_,hy⟩:=hM.cg;obtain⟨u,_,hu,_⟩:=h1.cg;have hc:Cg p (ci m) (pc (u*y)*ci (y6 p (vZ p R) [x])):=by
   rw[<-qQ,zf];exact hu.trans<|Cg.rfl.mul hy
  have t1:=hc<|m.length-1;have t2:=hM.top;have t3:=hM.ln;rw[h2.top,zN,show m.length-1=(y6 p (vZ p R) [x]).length-1 by lia,t2,xcl]at t1;refine(h2.fm.ext hM.fm<|hc.trans ?_).symm;refine(Cg.mul (f':=pc 1) (fun k=> ?_) Cg.rfl).trans<|Cg.of<|zz _;unfold pc;split
  ·exact t1.symm
  ·rfl
 rw[ha]at e1;rw[<-h3];unfold Zi Wz;rw[zd e1,zd c1]
theorem Gp{m:List Int}(h:zac p (vZ p R) m):qW p (ci m) (dvp<|ci m)↔qW p (cf R) (dvp<|cf R):=by
 obtain⟨x,y,hx,hy⟩:=h.cg;exact⟨fun hc=>CC (hx.trans<|Cg.rfl.mul<|aN p R) hc,fun hc=>CC ((aN p R).symm.trans hy) hc⟩
theorem nP(hR:yj R=R)(ho:xc K R)(hK:K<=300)(h0:dp R=0)(hf:3000000<=fu):∃b,Wi fu R p=some (b,0)/\(b=true↔ui R p):=by
 have ha:=oo h0;rw[hR]at ha;unfold Wi;obtain⟨y,y1,_⟩:=Kc (fu:=fu) ho hK (by lia) hf;rw[zd y1,h0];simp only[if_true];rw[zd<|YO<|by lia]
 cases hp:wK p with
 |false=>
  rw[iq<|by decide];exact⟨_,rfl,fun e=>absurd e (by decide),fun e=>by rw[e.1]at hp;cases hp⟩
 |true=>
  obtain⟨p1,p2⟩:=zu hp;rw[ir (by decide),zd<|ke ho (by lia) (by lia) p2];simp only;rw[zd<|zF ho (by lia) (by lia) hf,show vO R.length (cf R)=R from hR];by_cases hz:(vZ p R).length=R.length
  ·obtain⟨m,b,h1,h2,h3,h4,_⟩:=zfW (fu:=fu) hp (by lia) (by lia) hz;rw[zP,zd h3];refine⟨b,rfl,?_⟩;rw[h4,Gp h1];exact⟨fun hc=>⟨hp,(gh).1 hz,hc⟩,fun hc=>hc.2.2⟩
  ·rw[zC];exact⟨_,rfl,fun e=>absurd e (by decide),fun e=>absurd ((gh).2 e.2.1) hz⟩
structure TN(R:List Zr)(p:Int)(l:List (List Int)):Prop where
 el:∀g∈l,Wa p g/\LA p g/\g.length<=66
 pw:l.Pairwise fun a b=>qW p (ci a)<|ci b
 cg:Cg p (cf R) (pc (cf R<|R.length-1)*prZ (l.map ci))
 ln:l.length<=R.length-1
theorem Ig{p:Int}:∀{l:List (List Int)},(∀g∈l,wz p g/\1<g.length)->∃d,Mn (prZ<|l.map ci) d/\l.length<=d
 |[],_=>⟨0,⟨rfl,fun k hk=>by show pc 1 k=0;unfold pc;rw[zC]⟩,xab _⟩
 |g::l,h=>by
  obtain⟨h1,h2⟩:=h g<|FS;obtain⟨d,hd,hl⟩:=Ig fun x hx=>h x<|UV _ hx;exact⟨_,zgn h1.mn hd,by rw[xaq];lia⟩
theorem Sw(hg:ui R p)(hR:1<R.length)(hl:R.length<=13)(hd:Rl ds)(hm:ds.length<=1000)(hf:3000001<=fu):∃l,Zw fu (vZ p R) p ds=some (l,0)/\TN R p l:=by
 obtain⟨hp,ht,hc⟩:=hg;obtain⟨p1,p2⟩:=zu hp;obtain⟨P,rfl⟩:=xaA (show 0<=p by lia);have hz:=(gh (p:=(P:Int))).2 ht;obtain⟨m,b,h1,h2,h3,h4,h5⟩:=zfW (fu:=fu) hp (by lia) (by lia) hz;have he:=(Gp h1).2 hc;rw[iq<|h4.2 he]at h5;obtain⟨l,us,e1,hS,hP,hI⟩:=nK (fu:=fu) (b:=b) hp (Wu (by lia) R) (by lia) (by lia) hd hm hf h1 h2 h5 he;have hr:=h1.ln;have hi:∀g∈l,g.length<=66:=fun g hg=>by
  obtain⟨q,fq,hq⟩:=hP.dv hg;have:=aB p1 h2 (hP.mn g hg).1 fq hq;lia
 refine⟨l,e1,fun g hg=>⟨hI g hg,⟨fun j _=>⟨(hP.mn g hg).1.fm.nn j,(hP.mn g hg).1.fm.lt j⟩,(hP.mn g hg).2,(hP.mn g hg).1.top⟩,hi g hg⟩,?_,?_,?_⟩
 ·refine xdl.2 fun{a b} hs=> ?_;have ha:a∈l:=hs.subset (by simp);have hb:b∈l:=hs.subset (by simp);refine(hI a ha).cop hp (hI b hb) (by have:=hi a ha;lia) (by have:=hi b hb;lia) fun hn=> ?_;subst hn;have:=fQ (p:=(P:Int)) (hs.map ci) JU;refine qW.sq p1 (hI a ha) he<|Di.cg ?_ hP.pr.symm;refine Di.trans ⟨pc 1,Fs.pc 1,Cg.of ?_⟩ this;show ci a*(ci a*pc 1)=_;rw[zU,zz]
 ·obtain⟨x,y,hx,hy⟩:=h1.cg;have hj:=(aN (P:Int) R).symm.trans hy;have t:=hj<|R.length-1;rw[zN,show R.length-1=m.length-1 by lia,h2.top,xcl,show m.length-1=R.length-1 by lia]at t;refine hj.trans<|Cg.mul (fun k=> ?_) hP.pr;unfold pc;split
  ·exact t.symm
  ·rfl
 ·obtain⟨d,hd,hu⟩:=Ig hP.mn;have ho:=h2.mn;have hk:(1:Int)%(P:Int)=1:=xaC (by decide) (by lia);have t1:=hP.pr d;rw[hd.1,hk]at t1;by_cases hv:d<=m.length-1
  ·lia
  ·rw[ho.2 d (by lia),xag]at t1;cases t1
theorem mz(hR:yj R=R)(ho:xc K R)(hK:K<=300)(h0:dp R=0)(hm:1<R.length)(hl:R.length<=13)(hd:Rl ds)(hp:ds.length<=1000)(hf:3000001<=fu):
 ∃p l,Wm fu R ds=some (p,l)/\((p=0/\∀q,¬ui R q)\/(ui R p/\TN R p l)):=by
 have hi:∀{q r:Int},(∀s,s<=q->¬ui R s)->(∀s,q<s->s<r->wK s=false)->∀s,s<r->¬ui R s:=fun{q r} h1 h2 s hs hg=>by
  by_cases h:s<=q
  ·exact h1 s h hg
  ·have:=h2 s (by lia) hs;rw[hg.1]at this;cases this
 have hj:∀{q:Int},65521<=q->(∀s,s<=q->¬ui R s)->∀s,¬ui R s:=fun{q} hq h s hg=>by
  have:=(zu hg.1).2;exact h s (by lia) hg
 obtain⟨s,hs,p,l,rfl,hQ⟩:=yA (f:=Vp fu R ds) (fun s:Int×Int×List (List Int)×Int×Int=>(s.2.2.2.2=0->wK s.2.2.2.1=true)/\0<=s.2.1/\((s.1=0/\s.2.1=0/\(s.2.2.2.2=0->∀q,q<s.2.2.2.1->¬ui R q)/\(s.2.2.2.2≠0->∀q,¬ui R q))\/(ui R s.1/\TN R s.1 s.2.2.1))) (fun s=>if s.2.2.2.2=0 then(65522-s.2.2.2.1).toNat else 0)
  (fun r=>∃p l,r=(p,l)/\((p=0/\∀q,¬ui R q)\/(ui R p/\TN R p l))) (by
  rintro⟨b,n,out,q,e⟩ L ⟨i1,i2,i3⟩ ih
  simp only at i1 i2 i3 ih
  unfold Vp
  simp only
  by_cases he:e=0
  ·have hq:=i1 he
   obtain⟨q1,q2⟩:=zu hq
   rw[iq he]
   by_cases hn:n<5
   ·obtain⟨c,c1,c2⟩:=nP (fu:=fu) (p:=q) hR ho hK h0<|by lia
    rw[iq hn,zd c1]
    have hc:∃r e',xT fu q=some (r,e')/\(e'=0->wK r=true/\q<r/\∀s,q<s->s<r->wK s=false)/\(e'≠0->65521<=q):=by
     by_cases h:65521<=q
     ·exact⟨0,5,iC h,fun h=>absurd h (by decide),fun _=>h⟩
     ·obtain⟨r,h1,h2⟩:=Ki (fu:=fu) (q:=q) (by lia) (by lia) (by lia);exact⟨r,0,h1,fun _=>h2,fun h=>absurd rfl h⟩
    obtain⟨r,e',n1,n2,n3⟩:=hc
    have ha:(if e'=0 then(65522-r).toNat else 0)<(if e=0 then(65522-q).toNat else 0):=by
     rw[iq he];split
     ·have:=n2 (by assumption);lia
     ·lia
    cases c with
    |false=>
     have hr:¬ui R q:=fun hg=>by have:=c2.2 hg;cases this
     rw[iq (by decide),zd n1]
     refine ih _ ⟨fun h=>(n2 h).1,i2,?_⟩ ha
     rcases i3 with⟨j1,j2,j3,j4⟩|j
     ·have hk:∀s,s<=q->¬ui R s:=fun s hs hg=>by
       by_cases h:s=q
       ·rw[h]at hg;exact hr hg
       ·exact j3 he s (by lia) hg
      exact .inl ⟨j1,j2,fun h=>hi hk (n2 h).2.2,fun h=>hj (n3 h) hk⟩
     ·exact .inr j
    |true=>
     have hg:=c2.1 rfl
     obtain⟨t,t1,t2⟩:=Sw (fu:=fu) hg hm hl hd hp hf
     rw[ir (by decide),ze,zd<|ke ho (by lia) (by lia) q2]
     simp only
     rw[zd t1]
     simp only
     by_cases hb:b=0
     ·rw[iq hb,zd n1]
      exact ih _ ⟨fun h=>(n2 h).1,by show 0<=n+1;lia,.inr ⟨hg,t2⟩⟩ ha
     ·have j:ui R b/\TN R b out:=by
       rcases i3 with⟨j1,_⟩|j
       ·exact absurd j1 hb
       ·exact j
      rw[ir hb]
      split
      ·rw[zd n1]
       exact ih _ ⟨fun h=>(n2 h).1,by show 0<=n+1;lia,.inr ⟨hg,t2⟩⟩ ha
      ·rw[zd n1]
       exact ih _ ⟨fun h=>(n2 h).1,by show 0<=n+1;lia,.inr j⟩ ha
   ·rw[ir hn]
    refine⟨_,rfl,b,out,rfl,?_⟩
    rcases i3 with⟨j1,j2,_⟩|j
    ·lia
    ·exact .inr j
  ·rw[ir he]
   refine⟨_,rfl,b,out,rfl,?_⟩
   rcases i3 with⟨j1,j2,j3,j4⟩|j
   ·exact .inl ⟨j1,j4 he⟩
   ·exact .inr j) fu (0,0,[],2,0) ⟨fun _=>Pq,xfr 0,.inl ⟨rfl,rfl,fun _ q hq hg=>by have:=(zu hg.1).1;simp only at hq;lia,fun h=>absurd rfl h⟩⟩ (by
   show(if(0:Int)=0 then((65522:Int)-2).toNat else 0)<fu
   rw[iq rfl]
   lia)
 refine⟨p,l,?_,hQ⟩;unfold Wm;obtain⟨r,r1,r2,r3,r4⟩:=Ki (fu:=fu) (q:=1) (by decide) (by decide) (by lia);have:r=2:=by
  by_cases h:r=2
  ·exact h
  ·have h5:=(zu r2).1;have:=r4 2 (by decide) (by lia);rw[Pq]at this;cases this
 subst this;rw[zd r1];simp only;rw[zd hs]
end
section
variable{fu K Y:Nat}{a b R:List Zr}
theorem PS(f g:Nat->Int):∀n,m8 f g n= -1\/m8 f g n=0\/m8 f g n=1
 |0=> .inr (.inl rfl)
 |n+1=>by
  unfold m8;split
  ·exact PS f g n
  ·split
   ·exact .inl rfl
   ·exact .inr (.inr rfl)
theorem rF(a b:List Zr):vI a b= -1\/vI a b=0\/vI a b=1:=by grind [vI,PS]
theorem my(ha:xc K a)(hb:xc K b)(ca:yj a=a)(cb:yj b=b)(hK:K<=40000)(hd:a.length<=1000)(hg:b.length<=1000)(hf:3000000<=fu):kL fu a b=some (decide<|vI a b<0):=by
 unfold kL;rw[zd<|zF ha (by lia) (by lia) hf,zd<|zF hb (by lia) (by lia) hf,show vO a.length (cf a)=a from ca,show vO b.length (cf b)=b from cb];have hc:vI a b=if a.length=b.length then m8 (cf a) (cf b) a.length else if a.length<b.length then-1 else 1:=rfl;by_cases hl:a.length=b.length
 ·rw[iq hl]at hc;rw[zP,ze,zd (v:=if vI a b=0 then Sum.inl ()else Sum.inr (decide<|vI a b<0))]
  ·rcases rF a b with h|h|h<;>rw[h]<;>rfl
  ·rw[hc];refine zB (fun s:Int=>∃n:Nat,s=(n:Int)-1/\n<=a.length/\m8 (cf a) (cf b) n=m8 (cf a) (cf b) a.length) (fun s=>(s+1).toNat) _ ?_ _ _ ⟨a.length,rfl,xab _,rfl⟩ (by show((a.length:Int)-1+1).toNat<fu;lia);rintro s L ⟨n,rfl,hn,he⟩ ih;unfold UO
   cases n with
   |zero=>
    rw[zC,<-he];rfl
   |succ n=>
    have oa:=ha.get n;have ob:=hb.get n;rw[show((n+1:Nat):Int)-1=(n:Int)by lia,zP,yp,zj,yp,zj,zd<|uo (KE.of oa<|by lia) (KE.of ob<|by lia) hf,VG,VG];rw[show m8 (cf a) (cf b) (n+1)=if cf a n=cf b n then m8 (cf a) (cf b) n else if cf a n<cf b n then-1 else 1 from rfl]at he;by_cases e:cf a n=cf b n
    ·rw[iq e]at he;rw[iq<|wO.2 e,ze];exact ih _ ⟨n,rfl,by lia,he⟩<|by lia
    ·rw[ir e]at he;rw[ir fun h=>e<|wO.1 h];unfold qX;by_cases e2:cf a n<cf b n
     ·rw[iq e2]at he⊢;rw[<-he,iq<|by decide];rfl
     ·rw[ir e2]at he⊢;rw[iq (show cf b n<cf a n by lia),<-he,ir<|by decide];rfl
 ·rw[ir hl]at hc;rw[zC,hc];by_cases h2:a.length<b.length
  ·rw[iq h2,zP];rfl
  ·rw[ir h2,zC];rfl
theorem eN(ha:xc K a)(hb:xc K b)(ca:yj a=a)(cb:yj b=b)(hK:K<=40000)(hc:a.length<=1000)(hd:b.length<=1000)(hf:3000000<=fu):qS fu a b=some (vI a b):=by grind [qS,zd,my,qM,rF]
theorem zdM:Od3 vI Gd:=⟨fun x y z _ _ _ h1 h2 h3=>by
 have h4:=pE (a:=x) (b:=y) (c:=z) (by have:=qM x y;lia) (by have:=qM y z;lia);have:=qM x z;lia,fun x y _ _ h1 h2=>by
 have:=qM x y;lia⟩
def BdY(R:List Zr)(Y:Nat):Prop:=∃r:Nat,Y=(r+1)*2^(R.length-1)/\(r:Int)*r<gJ (cf R) R.length/\gJ (cf R) R.length<=((r:Int)+1)*(r+1)
theorem zdc(hR:yj R=R)(ho:xc K R)(hK:K<=300)(h0:dp R=0)(hf:3000000<=fu):∃Y,wB fu R=some (yK (Y:Nat),0)/\BdY R Y:=by
 have ha:=oo h0;have hb:=Zy (show R=vO R.length (cf R)from hR.symm) (by rw[hR]at ha;lia);obtain⟨y,h1,h2⟩:=Kc (fu:=fu) ho hK (by rw[hR]at ha;lia) hf;obtain⟨r,rfl,h3,h4⟩:=h2 h0;rw[hR]at h1 h3 h4 ha;have hc:=C0 (f:=cf R) (n:=R.length) ⟨R.length-1,by lia,hb⟩;refine⟨_,by rw[h1,h0],r,rfl,?_,?_⟩
 ·have e:((r*r:Nat):Int)=(r:Int)*r:=by simp
  lia
 ·have e:(((r+1)*(r+1):Nat):Int)=((r:Int)+1)*(r+1):=by simp
  lia
theorem zh2{x y:Nat}(h:x*x<=y*y):x<=y:=by
 refine xac fun hn=> ?_;have:=xdJ (show y<x by lia) (show y<x by lia);lia
theorem zjP{M:Int}(hR:0<R.length)(ht:Tp (cf R) (R.length-1))(hp:0<cf R (R.length-1))(hY:BdY R Y)(hM:2*((Y:Int)*cf R (R.length-1))<M):Bdz M (cf R):=fun u v b fu hv e j=>by
 obtain⟨r,rfl,_,hr⟩:=hY;obtain⟨nu,_⟩:=jo ht.nz e;obtain⟨a,ha⟩:=Tp.ex fu nu;have hb:a+b=R.length-1:=by
  have:=ha.mul hv;rw[<-e]at this;exact this.uniq ht
 have key:(v b*u j).natAbs<=(r+1)*2^(R.length-1):=by
  refine zh2 ?_;have h7:((v b*u j).natAbs*(v b*u j).natAbs:Nat)=(v b*u j*(v b*u j)).natAbs:=(xch _ _).symm;have e2:(((r+1)*2^(R.length-1)*((r+1)*2^(R.length-1)):Nat):Int)=4^(R.length-1)*(((r:Int)+1)*(r+1)):=by
   have:(4:Int)^(R.length-1)=2^(R.length-1)*2^(R.length-1):=by rw[show(4:Int)=2*2 by decide,Int.mul_pow]
   rw[this];simp only[xfc,Int.natCast_pow,xdX];grind
  have h0:=jy<|v b*u j;have h8:v b*u j*(v b*u j)<=4^(R.length-1)*(((r:Int)+1)*(r+1)):=by
   have h9:=mig ha hv e j;rw[hb,show R.length-1+1=R.length by lia]at h9;exact Int.le_trans h9<|xaW hr<|xft<|by decide
  lia
 have h5:(((r+1)*2^(R.length-1):Nat):Int)*1<=(((r+1)*2^(R.length-1):Nat):Int)*cf R (R.length-1):=xaW (by lia) (by lia);lia
theorem zaO(hR:yj R=R)(ho:xc K R)(hK:K<=300)(hl:0<R.length)(hb:R.length<=65)(hY:wB fu R=some (yK (Y:Nat),0))(ha:Bz 1000 (Y:Int))(hf:3000000<=fu):WM fu R=some (decide<|1000<bl (2*((Y:Int)*cf R (R.length-1))).natAbs):=by
 have b2:Bz 1 2:=by unfold Bz;decide
 have ob:=ho.get<|R.length-1;have bt:=ho.bz<|R.length-1;have bm:=ha.mul bt;have bmm:=b2.mul bm;unfold WM;rw[zd hY];simp only;rw[zd<|yb (by decide) hf,show(R.length:Int)-1=((R.length-1:Nat):Int)by lia,ze,yp,zj,zd<|yf (ha.ok<|by decide) (KE.of ob<|by lia) hf,zA,VG,zd<|yf (b2.ok<|by decide) (bm.ok<|by lia) hf,zA,zA,zd<|YZ (yW _) (by have:=bmm.len;lia) (by have:=bmm.len;lia),show nv (yK<|2*((Y:Int)*cf R (R.length-1))).2=(2*((Y:Int)*cf R (R.length-1))).natAbs from ya _];by_cases h:1000<bl (2*((Y:Int)*cf R (R.length-1))).natAbs
 ·rw[zP,decide_eq_true h]
 ·rw[zC,decide_eq_false h]
theorem zej{n k:Nat}(h:bl n<=k):n<2^k:=by grind [sP,xal,xaz]
theorem RF{p:Int}(hp:wK p=true)(hR:yj R=R)(ho:xc K R)(hK:K<=300)(hl:0<R.length)(he:R.length<=65)(hY:wB fu R=some (yK (Y:Nat),0))(hb:Bz 1000 (Y:Int))(hg:bl (2*((Y:Int)*cf R (R.length-1))).natAbs<=1000)(hf:3000000<=fu):
 ∃k:Nat,YH fu R p=some (k:Int)/\1<=k/\k<=1000/\2*((Y:Int)*cf R (R.length-1))<p^k:=by
 obtain⟨p1,p2⟩:=zu hp;obtain⟨E,hE⟩:∃E,E=1000:=⟨_,rfl⟩;have hg:=zej (k:=E) (by rw[hE];exact hg);have b2:Bz 1 2:=by unfold Bz;decide
 have ob:=ho.get<|R.length-1;have bt:=ho.bz<|R.length-1;have bm:=hb.mul bt;have bmm:=b2.mul bm;have bp:Bz 1 p:=by unfold Bz;rw[Nat.pow_one];lia
 obtain⟨T,hT⟩:∃T,T=2*((Y:Int)*cf R (R.length-1)):=⟨_,rfl⟩;have hd:∀k:Nat,((2^k:Nat):Int)<=p^k:=fun k=>by
  obtain⟨P,rfl⟩:=xaA (show 0<=p by lia);have:=Nat.pow_le_pow_left (show 2<=P by lia) k;have e:((P^k:Nat):Int)=(P:Int)^k:=by simp
  rw[<-e];lia
 obtain⟨r,hr,k,rfl,k1,k2,k3⟩:=yA (f:=XC fu p<|yK T) (fun s:Int×Zr=>∃k:Nat,s=((k:Int),yK<|p^k)/\1<=k/\k<=1000) (fun s=>1000-s.1.toNat) (fun r=>∃k:Nat,r=(k:Int)/\1<=k/\k<=1000/\T<p^k) (by
  rintro s L ⟨k,rfl,k1,k2⟩ ih;unfold XC;simp only;have ha:=lJ hp k2;rw[zd<|uo (ha.ok<|by decide) ((hT▸bmm).ok<|by lia) hf (by have:=ha.len;lia) (by have:=(hT▸bmm:Bz _ T).len;lia),zA,zA];by_cases h:T<p^k
  ·have hc:qX (p^k) T=1:=by unfold qX;rw[zC,iq h]
   rw[hc,ir<|by decide];exact⟨_,rfl,k,rfl,k1,k2,h⟩
  ·have hk:k<1000:=by
    refine xac fun hn=> ?_;obtain rfl:k=E:=by lia
    have:=hd k;rw[<-hT]at hg;lia
   have hc:qX (p^k) T<=0:=by
    unfold qX;split
    ·decide
    ·first|decide|(rw[ir h];decide)
   rw[iq hc,zd<|yb ⟨by lia,by lia⟩ hf,zd<|yf (ha.ok<|by decide) (bp.ok<|by decide) hf,zA,zA,ze,<-xbn];exact ih _ ⟨k+1,rfl,by lia,by lia⟩ (by show 1000-((k:Int)+1).toNat<1000-(k:Int).toNat;lia)) fu (1,yK p) ⟨1,by rw[xbn,xbs,xce];rfl,by lia,by lia⟩ (by show 1000-(1:Int).toNat<fu;lia)
 refine⟨k,?_,k1,k2,by rw[<-hT];exact k3⟩;unfold YH;rw[zd hY];simp only;rw[zd<|yb (by decide) hf,show(R.length:Int)-1=((R.length-1:Nat):Int)by lia,ze,yp,zj,zd<|yf (hb.ok<|by decide) (KE.of ob<|by lia) hf,zA,VG,zd<|yf (b2.ok<|by decide) (bm.ok<|by lia) hf,zA,zA,<-hT,zd<|yb ⟨by lia,by lia⟩ hf,zd hr]
end
section
variable{R a:List Zr}{fu K B:Nat}{ds:List Int}
theorem GP{R:List Zr->List Int->Prop}:∀{us:List (List Zr)}{fs:List (List Int)},sx R us fs->∃xs:List Lx,us=xs.map (·.1)/\fs=xs.map (·.2)/\∀x∈xs,R x.1 x.2
 |[],[],_=>⟨[],rfl,rfl,fun _ h=>absurd h IR⟩
 |u::us,f::fs,h=>by
  obtain⟨xs,e1,e2,h3⟩:=GP h.2;refine⟨(u,f)::xs,by rw[e1];rfl,by rw[e2];rfl,fun x hx=> ?_⟩;rcases xad.1 hx with rfl|hx
  ·exact h.1
  ·exact h3 x hx
def Oh(R:List Zr):Prop:=∃Y,BdY R Y/\1000<bl (2*((Y:Int)*cf R (R.length-1))).natAbs
theorem BdY.uniq{Y Z:Nat}(h:BdY R Y)(g:BdY R Z):Y=Z:=by
 obtain⟨r,rfl,h1,h2⟩:=h;obtain⟨s,rfl,g1,g2⟩:=g;have key:∀{r s:Nat}{S:Int},(r:Int)*r<S->S<=((s:Int)+1)*(s+1)->¬s<r:=fun{r s S} h1 h2 ha=>by
  have:((s:Int)+1)*(s+1)<=(r:Int)*r:=Int.mul_le_mul (by lia) (by lia) (by lia) (by lia);lia
 have:=key h1 g2;have:=key g1 h2;obtain rfl:r=s:=by lia
 rfl
theorem nk(hR:yj R=R)(pm:Pm (cf R))(ps:Po (cf R))(ho:xc K R)(hK:K<=200)(hl:R.length<=11)(hd:Rl ds)(hV:ds.length<=1000)(hf:3000300<=fu):
 ∃l b,WI fu R ds=some (l,b)/\(b=true↔R.length<2\/(¬Oh R/\∃p,ui R p))/\(b=true->(∀g∈l,Gd g)/\cf R=prZ (l.map fun g=>(cf g:Pz))/\l.Pairwise (fun a b=>vI a b<0)/\l.length<=12):=by
 have hJ:(yj R).length≠0:=fun e=>by
  obtain⟨j,hj⟩:=pm.nz;exact hj<|jO e j
 have tR:=km hJ;rw[hR]at hJ tR;have hB:0<cf R (R.length-1):=by
  obtain⟨m,m1,m2⟩:=ps.tp;rw[<-m1.uniq tR];exact m2
 unfold WI;by_cases h2:R.length<2
 ·rw[zP];refine⟨[],true,rfl,⟨fun _=> .inl h2,fun _=>rfl⟩,fun _=>⟨fun g hg=>absurd hg IR,?_,List.Pairwise.nil,xah _⟩⟩;obtain⟨d,hd⟩:=((KF.tp tR).2<|by lia).ex;have h3:cf R (R.length-1)=d:=by rw[hd,show R.length-1=0 by lia];exact iq rfl
  rw[hd]at pm;rcases sM pm with e|e
  ·rw[hd,e];rfl
  ·lia
 ·have h0:dp R=0:=by unfold dp;rw[hR,zC,zC]
  obtain⟨Y,hY,hA⟩:=zdc (fu:=fu) hR ho (by lia) h0 (by lia);have hM:Bz 1000 (Y:Int):=by
   obtain⟨r,rfl,h3,h4⟩:=hA;have h5:=zcy (K:=K) (f:=cf R) ho.bz R.length (by lia);have h6:Bz 401 (r:Int):=by
    refine Bz.nat ?_;refine xba (show r<=r*r from Nat.le_mul_self r) ?_;have h7:((r*r:Nat):Int)=(r:Int)*r:=by simp
    have h8:=h5.mono (show K+K+1<=401 by lia);unfold Bz at h8;lia
   have h9:Bz 402 (((r+1:Nat):Int)):=(h6.add<|Bz.one' (k:=401)<|by decide).le (by lia);have hW:Bz 1 (((2^(R.length-1):Nat):Int)):=Bz.nat (by
    rw[Nat.pow_one];exact xba (xaz (by decide) (show R.length-1<=10 by lia))<|by decide)
   have:=(h9.mul hW).mono (show 402+1<=1000 by decide);rwa[<-xfc]at this
  have hN:Oh R↔1000<bl (2*((Y:Int)*cf R (R.length-1))).natAbs:=⟨fun⟨Z,z1,z2⟩=>by rw[hA.uniq z1];exact z2,fun h=>⟨Y,hA,h⟩⟩;rw[zC,zd<|zaO hR ho (by lia) (by lia) (by lia) hY hM<|by lia];by_cases hg:1000<bl (2*((Y:Int)*cf R (R.length-1))).natAbs
  ·rw[decide_eq_true hg,iq rfl];refine⟨[],false,rfl,⟨fun h=>absurd h (by decide),fun h=> ?_⟩,fun h=>absurd h<|by decide⟩;rcases h with h|h
   ·exact absurd h h2
   ·exact absurd (hN.2 hg) h.1
  ·rw[decide_eq_false hg,ir<|by decide];obtain⟨p,l,e1,hQ⟩:=mz (fu:=fu) hR ho (by lia) h0 (by lia) (by lia) hd hV (by lia);rw[zd e1];simp only;rcases hQ with⟨hX,hZ⟩|⟨hE,hu⟩
   ·rw[iq hX];refine⟨[],false,rfl,⟨fun h=>absurd h (by decide),fun h=> ?_⟩,fun h=>absurd h<|by decide⟩;rcases h with h|⟨_,q,hq⟩
    ·exact absurd h h2
    ·exact absurd hq<|hZ q
   ·obtain⟨hp,ht,hc⟩:=hE;obtain⟨p1,p2⟩:=zu hp;obtain⟨k,e2,k1,k2,k3⟩:=RF (fu:=fu) hp hR ho (by lia) (by lia) (by lia) hY hM (xbw hg) (by lia);have hO:gF p (k:Int)=(yK<|p^k,0):=by
     unfold gF;rw[if_pos ⟨hp,by lia,by lia⟩,xaE]
    have h1:=hu.ln;rw[zC,zd e2,zd (jJ<|by lia),hO];simp only;have h':Y2 fu R l p=some ([],R,l):=by
     unfold Y2;rw[zd (v:=(R,l))];obtain⟨n,hn⟩:∃n,fu=n+1:=⟨fu-1,by lia⟩;have:zm (XE fu p) (n+1) (R,l)=some (R,l):=by
      rw[jd];unfold XE;simp only;rw[zC]
     rw[<-hn]at this;exact this
    rw[zd h'];simp only;have hz:=(gh (p:=p)).2 ht;have hP:Uk p (yj R) l:=by
     rw[hR];refine⟨by lia,hz,by lia,fun i hi=> ?_,fun i j hi hj=> ?_,?_⟩
     ·have hm:=Ca (l:=l) hi;refine⟨?_,(hu.el _ hm).2.1⟩;obtain⟨q,fq,hq⟩:Di p (ci<|l.getD i []) (cf R):=Di.cg ((J0 JU<|xbL hm).mul _<|Fs.pc _) hu.cg.symm;have hT:=(hu.el _ hm).1.mn;obtain⟨x,hx,hcx⟩:=ey hp ht 1|>fun⟨x,hx⟩=>(⟨x,hx,rfl⟩:∃x,p^1∣x*cf R (R.length-1)-1/\True=True);by_cases hlt:(l.getD i []).length<=R.length
      ·exact hlt
      ·exfalso;have h3:=hT.mn.zero p1 fq fun k hk=>by rw[<-hq k,tR.2 k (by have:=hT.ln;lia),xag]
       have h4:=(hq.trans<|h3.mul_zero_r _)<|R.length-1;rw[zO,xag]at h4;exact ht h4
     ·have h3:=xcW.1 hu.pw j i (by lia) hi hj;rw[H1,H1,xaa hi,xaa (show j<l.length by lia)];exact h3.symm
     ·refine(v7 (p:=p) (by lia) _ _).ext (Wu (by lia) R) ((kV p _ _).trans<|(Cg.mul (fT p l) Cg.rfl).trans<|Cg.trans ?_ (aN p R).symm);rw[qi,zk];refine Cg.trans (Cg.mul (fun j=> ?_) Cg.rfl) hu.cg.symm;rw[Qg];unfold pc;split
      ·exact xaF _ _
      ·rfl
    obtain⟨us,e,e3,e4,e5⟩:=gW (fu:=fu) (p:=p) (k:=(k:Int)) (a:=R) (fs:=l) (ho.mono<|by lia) (by lia) (by lia);have he:e=0:=by
     refine xac fun hF=> ?_;have hr:=cy (fu:=fu) (fs:=l) hp (ho.mono (by lia:K<=250)) (by decide) (by lia:R.length<=66) (by lia);obtain⟨bb,b1,b2⟩:=hr;rw[b2.2<|by rw[hR]at hP;exact hP]at b1;have:=TC (ho.mono (by lia:K<=250)) (by lia) (by lia) (by lia) (by lia) e3;unfold zdr at this;rw[iq hp,hR,zC,iq b1]at this;exact hF this
    obtain⟨hG,_⟩:=e4 he;rw[xaE]at hG;have hup:=hG.up;obtain⟨xs,rfl,rfl,hx⟩:=GP hup;have hF:xs.map (·.2)≠[]:=fun e=>by
     have h3:=hu.cg<|R.length-1;rw[e,show prZ ([].map ci)=pc 1 from rfl,zU]at h3;have h4:pc (cf R<|R.length-1) (R.length-1)=0:=zC;rw[h4,xag]at h3;exact ht h3
    have hU:=hG.cg hF;rw[hR,xcT]at hU;rw[xaP]at h1;have hC:Ch p k (cf R) R xs [] 1:=by
     have hL:Lc p k (cf R) (R.length-1) xs:=⟨hp,k1,fun x hH=>⟨hx x hH,(hu.el _<|xbL hH).1,(hu.el _<|xbL hH).2.2⟩,(xed (R:=fun a b=>qW p (ci a)<|ci b) (f:=fun x:Lx=>x.2)).1 hu.pw,tR,by lia,hB,ht,pm,hU⟩;exact⟨hL,k2,hR,ho.mono (by lia),hl,zjP (by lia) tR hB hA k3,Ls.one hL,by rw[xbR];lia,(zz _).symm,fun g hg=>absurd hg IR⟩
    obtain⟨out,o1,o2,o3,o4⟩:=HL (fu:=fu) hC (by lia);rw[zP,zd e3];simp only;rw[zd o1,wE (by simp only[xbR];lia),zj,xbA];obtain⟨r,s1,s2,s3⟩:=DT (fu:=fu) (cmp:=fun zx0 zx1=>qS fu zx0 zx1) (c:=vI) (S:=Gd) (fun x y hx hy=>eN hx.ok hy.ok hx.can hy.can (by decide) (by have:=hx.ln;lia) (by have:=hy.ln;lia)<|by lia) (t:=out) o3 (by lia) (by lia);have hI:cf R=prZ (r.map fun g=>(cf g:Pz)):=by rw[o4];exact Gu<|s2.symm.map _
    have hw:∀g∈r,Gd g:=fun g hg=>o3 g<|s2.mem_iff.1 hg;rw[zd s1];refine⟨r,true,rfl,⟨fun _=> .inr ⟨fun h=>hg<|hN.1 h,p,hp,ht,hc⟩,fun _=>rfl⟩,fun _=>⟨hw,hI,?_,by rw[s2.length_eq];lia⟩⟩;refine(xdl.2 fun{a b} hs=> ?_);have h3:¬vI b a<0:=(xdl.1<|s3 zdM) hs;have ha:a∈r:=hs.subset (by simp);have hb:b∈r:=hs.subset (by simp);have h4:=qM a b;by_cases h5:vI a b=0
    ·exfalso;have hab:=lN (hw a ha).can (hw b hb).can h5;subst hab;obtain⟨m,w,hS,hm⟩:=hC.lc.sf;have hD:=fQ (p:=p) (hs.map fun g=>(cf g:Pz)) fun f hf=>by
      obtain⟨g,_,rfl⟩:=xap.1 hf;exact Fs.cf g
     rw[<-hI]at hD;have hsq:Di p ((cf a:Pz)*cf a) (ci m):=by
      refine Di.trans ⟨pc 1,Fs.pc 1,Cg.of ?_⟩<|hD.trans ⟨pc w,Fs.pc w,hm⟩;show(cf a:Pz)*(cf a*pc 1)=_;rw[zU,zz]
     have hga:=hw a ha;have hda:Zd (cf a) (cf R):=by
      rw[hI];obtain⟨A,B,e6⟩:=xdP ha;rw[e6,xbg,xbZ,wk];refine Zd.mul _ (Fs.prZ fun f hf=> ?_)<|Zd.left<|Fs.prZ fun f hf=> ?_
      ·obtain⟨g,_,rfl⟩:=xap.1 hf;exact Fs.cf g
      ·obtain⟨g,_,rfl⟩:=xap.1 hf;exact Fs.cf g
     obtain⟨v,fv,hv⟩:=hda;have h6:=hC.ls (cf a) v (Fs.cf a) fv (by rw[hv,zk]) hga.ir.dg;obtain⟨x,hxo⟩:∃x,x∈own p (cf a) xs:=by
      cases ho2:own p (cf a) xs with
      |nil=>rw[ho2]at h6;exact absurd h6<|by decide
      |cons x t=>exact⟨x,FS⟩
     obtain⟨h7,h8⟩:=J5.1 hxo;exact hS.apart (Fs.cf a) (Fs.cf a) hsq (xbL h7) h8 h8
    ·lia
theorem mW{q:List Zr}{m:Nat}(ha:xc K a)(hK:K<=50)(ta:Tp (cf a) m)(hm:m<=11)(hc:a.length<=40)(bA:∀j,Bb B<|cf a j)(hB:B<=3000)(hq:Gd q)(bQ:xc 50 q)(hf:3000000<=fu):
 ∃n:Nat,ZN fu a q=some (n:Int)/\n<=11/\Mu (cf q) (cf a) n:=by
 have hb:(yj q).length≠0:=fun e=>by
  obtain⟨j,hj⟩:=hq.ir.pm.nz;exact hj<|jO e j
 have tq:=km hb;rw[hq.can]at tq;have hg:=hq.ln;have hl:1<=q.length-1:=by refine xac fun h=>hq.ir.dg<|(KF.tp tq).2<|by lia
 have fp:=fun n=>hq.ir.fs.pp n;have one:∀(t:List Zr) (n:Nat),xc 60 t->t.length<=40->cf a=(cf t:Pz)*pp (cf q) n->∃q' e,wJ fu t q=some (q',e)/\(e=0->xc 60 q'/\q'.length<=40/\cf a=(cf q':Pz)*pp (cf q) (n+1))/\(e≠0->Mu (cf q) (cf a) n):=fun t n o1 l1 e1=>by
  obtain⟨q',e,d1,d2,d3⟩:=VE (fu:=fu) o1 bQ (by have:=xat (50+1) (show t.length+1<=41 by lia);lia) (by lia) (by lia) hb hf;refine⟨q',e,d1,fun he=> ?_,fun he=>⟨cf t,Fs.cf t,e1,fun hz=>he<|d2.2 hz⟩⟩;obtain⟨f1,f2,f3⟩:=d3 he;have e2:cf a=(cf q':Pz)*pp (cf q) (n+1):=by
   rw[e1,f1,zf];show _=_*(pp (cf q) n*cf q);rw[zk<|pp (cf q) n]
  refine⟨?_,by lia,e2⟩;rw[<-f2];exact xn fun j=>(CZ ta (Fs.cf q') (fp _) e2 (by lia) bA j).bz<|by lia
 obtain⟨q1,x1,c1,c2,c3⟩:=one a 0 (ha.mono<|by lia) hc (zU _).symm;have deg:∀{t:List Zr}{n:Nat},cf a=(cf t:Pz)*pp (cf q) n->n<=m:=fun{t n} e=>by
  obtain⟨nt,np⟩:=jo ta.nz e;obtain⟨i,hi⟩:=Tp.ex (Fs.cf t) nt;have hd:∀n,Tp (pp (cf q) n) (n*(q.length-1)):=fun n=>by
   induction n with
   |zero=>rw[xcs];exact⟨show pc 1 0≠0 by decide,fun k hk=>by show pc 1 k=0;unfold pc;rw[zC]⟩
   |succ n ih=>rw[xaR,xcb];exact ih.mul tq
  have h1:=hi.mul<|hd n;rw[<-e]at h1;have h2:=h1.uniq ta;have h3:=xbU n (show 0<q.length-1 by lia);lia
 obtain⟨s,hs,n,rfl,n1,n2⟩:=yA (f:=Vq fu q) (fun s:Int×List Zr×Int=>∃n:Nat,s.1=(n:Int)/\(s.2.2=0->xc 60 s.2.1/\s.2.1.length<=40/\cf a=(cf s.2.1:Pz)*pp (cf q) (n+1))/\(s.2.2≠0->n<=11/\Mu (cf q) (cf a) n)) (fun s=>if s.2.2=0 then 20-s.1.toNat else 0) (fun r=>∃n:Nat,r=(n:Int)/\n<=11/\Mu (cf q) (cf a) n) (by
  rintro⟨i,t,e⟩ L ⟨n,hn,h1,h2⟩ ih;simp only at hn h1 h2 ih;subst hn;unfold Vq;simp only;by_cases he:e=0
  ·obtain⟨o1,l1,e1⟩:=h1 he;have ho:=deg e1;obtain⟨q',e',d1,d2,d3⟩:=one t (n+1) o1 l1 e1;rw[iq he,ze,zd d1];refine ih _ ⟨n+1,by show(n:Int)+1=((n+1:Nat):Int);lia,d2,fun h=>⟨by lia,d3 h⟩⟩ ?_;rw[iq he];split
   ·show 20-((n:Int)+1).toNat<20-(n:Int).toNat;lia
   ·show 0<20-(n:Int).toNat;lia
  ·rw[ir he];exact⟨_,rfl,n,rfl,h2 he⟩) fu (0,q1,x1) ⟨0,rfl,c2,fun h=>⟨by lia,c3 h⟩⟩ (by
  show(if x1=0 then 20-(0:Int).toNat else 0)<fu;split<;>lia)
 refine⟨n,?_,n1,n2⟩;unfold ZN;rw[zd c1];simp only;rw[zd hs]
def AR(R:List Zr):Prop:=R.length<2\/(¬Oh R/\∃p,ui R p)
theorem zcM(h:Rad a R):Zd (cf R) (cf a):=by
 obtain⟨g,fg,e⟩:=h.dv;rw[<-Q9 a,e];exact(Zd.left fg).mul _<|Fs.pc _
theorem cQ(ha:xc K a)(hK:K<=40000)(hl:a.length<=1000000)(h0:dp a≠0)(hf:3000000<=fu):yg fu a ds=some ((false,[]),[],dp a):=by grind [yg,zd,de]
theorem dM(ha:xc K a)(hK:K<=50)(hl:a.length<=40)(h0:dp a=0)(ht:(yj a).length<=11)(bA:∀j,Bb B<|cf a j)(hB:B<=3000)(hC:(B+7)*QJ ((yj a).length-1)<=639000)(hk:(B+7)*QJ ((yj a).length)<=2400000)(hd:Rl ds)(ho:ds.length<=1000)(hf:3000300<=fu):
 ∃R,wI fu a=some (R,0)/\Rad a R/\(∀j,Bb (B+(yj a).length+4)<|cf R j)/\
  ((AR R/\∃l,yg fu a ds=some (yK<|va a,l,0)/\FL (cf a) l/\l.length<=12/\∀x∈l,Gd x.1/\x.2<=11)\/
   (¬AR R/\yg fu a ds=some ((false,[]),[],6))):=by
 have hr:=oo h0;have ta:=km (a:=a) (by lia);obtain⟨R,r1,r2,r3⟩:=dN (fu:=fu) ha (by lia) hl h0 bA (by lia) hC hk (by lia);have oR:xc 50 R:=by rw[<-r2.can];exact xn fun j=>(r3 j).bz<|by lia
 obtain⟨l,b,s1,s2,s3⟩:=nk (fu:=fu) r2.can r2.pm r2.ps oR (by decide) (by have:=r2.ln;lia) hd ho hf;refine⟨R,r1,r2,r3,?_⟩
 cases b with
 |false=>
  refine .inr ⟨fun h=>(by have:=s2.2 h;cases this),?_⟩;unfold yg;rw[zd r1];simp only[if_true];rw[zd s1];rfl
 |true=>
  obtain⟨g1,g2,g3,g4⟩:=s3 rfl;refine .inl ⟨s2.1 rfl,?_⟩;have he:∀q∈l,Zd (cf q) (cf a):=fun q hq=>by
   refine Zd.trans ?_<|zcM r2;rw[g2];obtain⟨A,D,e6⟩:=xdP hq;rw[e6,xbg,xbZ,wk];refine Zd.mul _ (Fs.prZ fun f hf=> ?_)<|Zd.left<|Fs.prZ fun f hf=> ?_
   ·obtain⟨g,_,rfl⟩:=xap.1 hf;exact Fs.cf g
   ·obtain⟨g,_,rfl⟩:=xap.1 hf;exact Fs.cf g
  have hj:∀q∈l,∃n:Nat,ZN fu a q=some (n:Int)/\n<=11/\Mu (cf q) (cf a) n:=fun q hq=>by
   have hG:=g1 q hq;refine mW ha hK ta (by lia) hl bA hB hG ?_ (by lia);obtain⟨u,fu',e⟩:=he q hq;rw[<-hG.can];exact xn fun j=>(CZ ta (Fs.cf q) fu' (by rw[e,zk]) (by lia) bA j).bz<|by lia
  obtain⟨s,hs,out,rfl,o1,o2⟩:=yA (f:=YB fu a l) (fun s:List (List Zr×Int)×Int×Zr×List (List Zr)=>∃(i:Nat) (out:List (List Zr×Int)),s=(out,(i:Int),(false,[]),l)/\i<=l.length/\out.map (·.1)=l.take i/\∀x∈out,∃n:Nat,x.2=(n:Int)/\n<=11/\Mu (cf x.1) (cf a) n) (fun s=>l.length-s.2.1.toNat)
   (fun r=>∃out:List (List Zr×Int),r=(out,(false,[]))/\out.map (·.1)=l/\∀x∈out,∃n:Nat,x.2=(n:Int)/\n<=11/\Mu (cf x.1) (cf a) n) (by
   rintro s L ⟨i,out,rfl,hi,h1,h2⟩ ih
   unfold YB
   simp only
   by_cases hb:i<l.length
   ·have hm:l.getD i []∈l:=by
     rw[H1,xaa hb];exact xbk hb
    obtain⟨n,n1,n2,n3⟩:=hj _ hm
    have hv:out.length=i:=by
     have:=congrArg xaI h1;rw[xaP,xav]at this;lia
    rw[zP,zd rfl]
    simp only[if_true]
    rw[zw hb,zj,zd n1,wE (by simp only[xaq,xbR];lia),zj,ze]
    refine ih _ ⟨i+1,_,rfl,by lia,?_,fun x hx=> ?_⟩ (by show l.length-((i:Int)+1).toNat<l.length-(i:Int).toNat;lia)
    ·rw[xbg,h1,xeI,xaa hb,H1,xaa hb]
     rfl
    ·rcases Nm.1 hx with hx|hx
     ·exact h2 x hx
     ·obtain rfl:=xai.1 hx
      exact⟨n,rfl,n2,n3⟩
   ·rw[zC,zd rfl]
    simp only[xak,if_false]
    obtain rfl:i=l.length:=by lia
    rw[xcy]at h1
    exact⟨_,rfl,out,rfl,h1,h2⟩) fu ([],0,(false,[]),l) ⟨0,[],rfl,xah _,by rw[List.take_zero];rfl,fun x hx=>absurd hx IR⟩ (by show l.length-(0:Int).toNat<fu;lia)
  have hc:∀x∈out,x.1∈l:=fun x hx=>by rw[<-o1];exact xbL hx
  refine⟨out,?_,⟨fun x hx=> ?_,fun q hq pq hz=> ?_,?_⟩,?_,fun x hx=>⟨g1 _<|hc x hx,?_⟩⟩
  ·unfold yg;rw[zd r1];simp only[if_true];rw[zd s1];simp only;rw[ir (by decide),zd hs];simp only;rw[zd<|jq ha]
  ·have hG:=g1 _<|hc x hx;obtain⟨n,n1,n2,n3⟩:=o2 x hx;refine⟨hG.can,hG.ir,hG.ps,?_,by rw[n1,xaE];exact n3⟩;by_cases hn:n=0
   ·exfalso;subst hn;obtain⟨u,fu',e,hu⟩:=n3;rw[show pp (cf x.1) 0=pc 1 from rfl,zU]at e;rw[<-e]at hu;exact hu<|he _<|hc x hx
   ·lia
  ·have h1:=r2.al q hq hz;rw[g2]at h1;obtain⟨f,hp,h2⟩:=hq.prz (fun f hf=>by obtain⟨g,_,rfl⟩:=xap.1 hf;exact Fs.cf g) h1;obtain⟨g,hg,rfl⟩:=xap.1 hp;have e:=hq.eq (g1 g hg).ir pq (g1 g hg).ps h2;rw[<-o1]at hg;obtain⟨x,hx,rfl⟩:=xap.1 hg;exact⟨x,hx,e.symm⟩
  ·have:=g3;rw[<-o1]at this;exact xed.1 this
  ·have:=congrArg xaI o1;rw[xaP]at this;lia
  ·obtain⟨n,n1,n2,n3⟩:=o2 x hx;lia
end
theorem ui.dv{R q:List Zr}{p:Int}(h:ui R p)(hR:yj R=R)(hq:yj q=q)(hz:Zd (cf q) (cf R)):ui q p:=by
 obtain⟨hp,ht,hc⟩:=h;obtain⟨w,fw,e⟩:=hz;have ha:R.length≠0:=fun h0=>ht (by rw[ye (by lia),xag]);have tR:=km (a:=R) (by rw[hR];exact ha);rw[hR]at tR;obtain⟨nw,nq⟩:=jo tR.nz e;have hd:q.length≠0:=fun h0=>by
  obtain⟨j,hj⟩:=nq;exact hj<|ye<|by lia
 have tq:=km (a:=q) (by rw[hq];exact hd);rw[hq]at tq;obtain⟨b,hb⟩:=Tp.ex fw nw;have he:b+(q.length-1)=R.length-1:=by
  have:=hb.mul tq;rw[<-e]at this;exact this.uniq tR
 refine⟨hp,fun h0=>ht ?_,?_⟩
 ·rw[<-he,e,Vw hb.2 tq.2,xbr,h0,xaw,xag]
 ·obtain⟨s,t,fs,ft,h1⟩:=hc;refine⟨s*w+t*dvp w,t*w,(fs.mul fw).add<|ft.mul fw.dvp,ft.mul fw,Cg.trans (Cg.of ?_) h1⟩;rw[e,WA,xC,ym,zf,zf,zf];funext k;simp only[zM];lia
theorem zbw{R:List Zr}{b:Nat}(hl:R.length<=11)(hb:b<=400)(bR:∀j,Bb b<|cf R j):¬Oh R:=fun⟨Y,⟨r,hY,h1,_⟩,h3⟩=>by
 obtain⟨E,hE⟩:∃E,E=1000:=⟨_,rfl⟩;have h4:∀k,cf R k*cf R k<=(2^b:Int)*2^b:=fun k=>by
  have:=bR k;unfold Bb at this;have h3:(cf R k*cf R k)=(((cf R k).natAbs*(cf R k).natAbs:Nat):Int):=by
   rw[<-xch];have:=jy<|cf R k;lia
  rw[h3];have h4:=xbJ (xcS this)<|xcS this;have h5:((2:Int)^b*2^b)=((2^b*2^b:Nat):Int):=by simp
  lia
 have h5:=Nq h4 R.length;have h6:r<4*2^b:=by
  refine Tq ?_;have e1:((r*r:Nat):Int)=(r:Int)*r:=by simp
  have e2:((2:Int)^b*2^b)=((2^b*2^b:Nat):Int):=by simp
  have e3:4*2^b*(4*2^b)=16*(2^b*2^b):=by grind
  rw[e3];rw[e2]at h5;generalize 2^b*2^b=Q at*
  have h7:(R.length:Int)*(Q:Int)<=11*(Q:Int):=xbz (by lia) (by lia);lia
 have h7:(2*((Y:Int)*cf R (R.length-1))).natAbs<2^E:=by
  rw[xch,xch,xbe,hY];have t:=bR<|R.length-1;unfold Bb at t;have h8:(r+1)*2^(R.length-1)<=4*2^b*2^10:=xbJ (by lia) (xaz (by decide)<|by lia);have h9:=xbJ h8<|xcS t;have ha:=xaD 2 h9;refine xba ha ?_;have e:2*(4*2^b*2^10*2^b)=2^(b+b+13):=by
   rw[xbY,xbY,show(2:Nat)^13=2*4*2^10 by decide];generalize(2:Nat)^b=Q;generalize(2:Nat)^10=T;grind
  rw[e];exact xeN (by decide)<|by lia
 have:=VT h7;lia
theorem NX:Rl []:=fun k=>by
 rw[zV<|xah k];exact⟨by lia,by lia⟩
section
variable{q f:Pz}{m:Nat}{l:List (List Zr×Int)}
theorem Mu.deg{n:Nat}(hq:Ir q)(hf:Tp f m)(h:Mu q f n):n<=m:=by
 obtain⟨u,fu,e,_⟩:=h;obtain⟨a,ha⟩:=Tp.ex fu (jo hf.nz e).1;obtain⟨b,hb⟩:=Tp.ex hq.fs hq.pm.nz;have hc:1<=b:=xac fun h0=>hq.dg ((KF.tp hb).2<|by lia);have hd:∀n,Tp (pp q n) (n*b):=fun n=>by
  induction n with
  |zero=>rw[xcs];exact⟨show pc 1 0≠0 by decide,fun k hk=>by show pc 1 k=0;unfold pc;rw[zC]⟩
  |succ n ih=>rw[xaR,xcb];exact ih.mul hb
 have h1:=ha.mul<|hd n;rw[<-e]at h1;have h2:=h1.uniq hf;have h3:=xbU n hc;lia
theorem Mu.scale{c:Int}{n:Nat}(hq:Ir q)(hc:c≠0)(h:Mu q f n):Mu q (pc c*f) n:=by
 obtain⟨u,fu,e,hu⟩:=h;exact⟨pc c*u,(Fs.pc c).mul fu,by rw[e,zf],fun hz=>hu<|Zd.pm hq.fs hq.pm hc hz⟩
theorem FL.scale{f:Pz}{l:List (List Zr×Int)}{c:Int}(hc:c≠0)(h:FL f l):FL (pc c*f) l:=
 ⟨fun x hx=>by
  obtain⟨h1,h2,h3,h4,h5⟩:=h.el x hx;exact⟨h1,h2,h3,h4,h5.scale h2 hc⟩,fun q hq pq hz=>h.al q hq pq<|Zd.pm hq.fs hq.pm hc hz,h.so⟩
def JH(q:List Zr)(n:Int):List (List Zr×Int)->List (List Zr×Int)
 |[]=>[(q,n)]
 |x::l=>if vI x.1 q<0 then x::JH q n l else if x.1=q then(x.1,x.2+n)::l else(q,n)::x::l
theorem eR{q:List Zr}{n:Int}:∀{l:List (List Zr×Int)}{y},y∈JH q n l->y∈l\/y.1=q
 |[],y,h=> .inr<|by rw[xai.1 h]
 |x::l,y,h=>by
  unfold JH at h;split at h
  ·rcases xad.1 h with rfl|h
   ·exact .inl<|FS
   ·rcases eR h with h|h
    ·exact .inl<|UV _ h
    ·exact .inr h
  ·split at h
   ·rename_i _ e;rcases xad.1 h with rfl|h
    ·exact .inr e
    ·exact .inl<|UV _ h
   ·rcases xad.1 h with rfl|h
    ·exact .inr rfl
    ·exact .inl h
theorem Cq{q:List Zr}{n:Int}:∀{l:List (List Zr×Int)}{x},x∈l->x.1≠q->x∈JH q n l
 |y::l,x,h,ha=>by
  unfold JH;split
  ·rcases xad.1 h with rfl|h
   ·exact FS
   ·exact UV _<|Cq h ha
  ·split
   ·rename_i _ e;rcases xad.1 h with rfl|h
    ·exact absurd e ha
    ·exact UV _ h
   ·exact UV _ h
theorem ra{q:List Zr}{n:Int}:∀{l:List (List Zr×Int)},(JH q n l).length<=l.length+1
 |[]=>xab _
 |x::l=>by
  unfold JH;split
  ·exact Nat.succ_le_succ ra
  ·split
   ·exact xcd _
   ·exact xab _
theorem zfG{q z:List Zr}{n:Int}(h:∀x∈l,vI z x.1<0)(hq:vI z q<0):∀x∈JH q n l,vI z x.1<0:=fun x hx=>by
 rcases eR hx with h1|h1
 ·exact h x h1
 ·rw[h1];exact hq
theorem PZ{q:List Zr}{n:Int}(cq:yj q=q):∀{l:List (List Zr×Int)},(∀x∈l,yj x.1=x.1)->l.Pairwise (fun x y=>vI x.1 y.1<0)->(JH q n l).Pairwise fun x y=>vI x.1 y.1<0
 |[],_,_=>List.pairwise_singleton _ _
 |x::l,hc,h=>by
  rw[xbT]at h;unfold JH;split
  ·rename_i ha;exact xbT.2 ⟨zfG h.1 ha,PZ cq (fun y hy=>hc y<|UV _ hy) h.2⟩
  ·split
   ·exact xbT.2 h
   ·rename_i h1 h2;have h3:vI q x.1<0:=by
     have h4:=qM x.1 q;have h5:vI x.1 q≠0:=fun e=>h2<|lN (hc x<|FS) cq e;lia
    refine xbT.2 ⟨fun y hy=> ?_,xbT.2 h⟩;show vI q y.1<0;rcases xad.1 hy with rfl|hy
    ·exact h3
    ·have h4:=h.1 y hy;have h5:vI q y.1<=0:=pE (b:=x.1) (by lia) (by lia);have h6:vI q y.1≠0:=fun e=>by
      have h7:=lN cq (hc y<|UV _ hy) e;rw[<-h7]at h4;have:=qM x.1 q;lia
     lia
theorem N3{q:List Zr}{n:Int}(cq:yj q=q):∀{l:List (List Zr×Int)},(∀x∈l,yj x.1=x.1)->l.Pairwise (fun x y=>vI x.1 y.1<0)->∀y∈JH q n l,y.1=q->(∃x∈l,x.1=q/\y.2=x.2+n)\/(y.2=n/\∀x∈l,x.1≠q)
 |[],_,_,y,hy,_=>by
  obtain rfl:=xai.1 hy;exact .inr ⟨rfl,fun x hx=>absurd hx IR⟩
 |x::l,hc,h,y,hy,e=>by
  have h0:=h;rw[xbT]at h;have self0:vI q q=0:=by have:=qM q q;lia
  unfold JH at hy;split at hy
  ·rename_i hd;have ha:x.1≠q:=fun e=>by rw[e]at hd;lia
   rcases xad.1 hy with rfl|hy
   ·exact absurd e ha
   ·rcases N3 cq (fun y hy=>hc y<|UV _ hy) h.2 y hy e with⟨z,hz,h1,h2⟩|⟨h1,h2⟩
    ·exact .inl ⟨z,UV _ hz,h1,h2⟩
    ·refine .inr ⟨h1,fun z hz=> ?_⟩;rcases xad.1 hz with rfl|hz
     ·exact ha
     ·exact h2 z hz
  ·split at hy
   ·rename_i _ e2;rcases xad.1 hy with rfl|hy
    ·exact .inl ⟨x,FS,e2,rfl⟩
    ·exfalso;have:=h.1 y hy;rw[e,e2]at this;lia
   ·rename_i h1 h2;have hb:∀z∈x::l,z.1≠q:=fun z hz e3=>by
     rcases xad.1 hz with rfl|hz
     ·exact h2 e3
     ·have:=h.1 z hz;rw[e3]at this;exact h1 this
    rcases xad.1 hy with rfl|hy
    ·exact .inr ⟨rfl,hb⟩
    ·exact absurd e<|hb y hy
theorem rm{q:List Zr}{n:Int}:∀{l:List (List Zr×Int)},∃y∈JH q n l,y.1=q
 |[]=>⟨_,FS,rfl⟩
 |x::l=>by
  unfold JH;split
  ·obtain⟨y,hy,e⟩:=rm (q:=q) (n:=n) (l:=l);exact⟨y,UV _ hy,e⟩
  ·split
   ·rename_i _ e;exact⟨_,FS,e⟩
   ·exact⟨_,FS,rfl⟩
theorem FL.put{q:List Zr}{n:Nat}(h:FL f l)(ff:Fs f)(cq:yj q=q)(hq:Ir (cf q))(pq:Po (cf q))(hn:1<=n):FL (f*pp (cf q) n) (JH q (n:Int) l):=by
 have hc:=fun x hx=>(h.el x hx).1;refine⟨fun y hy=> ?_,fun r hr pr hz=> ?_,PZ cq hc h.so⟩
 ·by_cases e:y.1=q
  ·rw[e];rcases N3 cq hc h.so y hy e with⟨x,hx,h1,h2⟩|⟨h1,h2⟩
   ·obtain⟨_,_,_,g4,g5⟩:=h.el x hx;rw[h1]at g5;have:=g5.mul hq<|Mu.self hq n;refine⟨cq,hq,pq,by lia,?_⟩;rw[h2,show(x.2+(n:Int)).toNat=x.2.toNat+n by lia];exact this
   ·have h3:¬Zd (cf q) f:=fun hz=>by
     obtain⟨x,hx,e2⟩:=h.al _ hq pq hz;exact h2 x hx<|Jw (hc x hx) cq fun k=>congrFun e2 k
    have:=(Mu.zero ff h3).mul hq<|Mu.self hq n;refine⟨cq,hq,pq,by lia,?_⟩;rw[h1,xaE];rw[xaN]at this;exact this
  ·rcases eR hy with h1|h1
   ·obtain⟨g1,g2,g3,g4,g5⟩:=h.el y h1;refine⟨g1,g2,g3,g4,?_⟩;have h2:¬Zd (cf y.1) (pp (cf q) n):=fun hz=>e<|Jw g1 cq fun k=>congrFun (g2.eq hq g3 pq<|g2.pp hq.fs n hz) k;exact g5.mul g2<|Mu.zero (hq.fs.pp n) h2
   ·exact absurd h1 e
 ·rcases hr.prime ff (hq.fs.pp n) hz with h1|h1
  ·obtain⟨x,hx,e⟩:=h.al r hr pr h1;by_cases e2:x.1=q
   ·obtain⟨y,hy,e3⟩:=rm (q:=q) (n:=(n:Int)) (l:=l);exact⟨y,hy,by rw[e3,<-e2];exact e⟩
   ·exact⟨x,Cq hx e2,e⟩
  ·have e:=hr.eq hq pr pq<|hr.pp hq.fs n h1;obtain⟨y,hy,e3⟩:=rm (q:=q) (n:=(n:Int)) (l:=l);exact⟨y,hy,by rw[e3];exact e.symm⟩
def Q8(l:List (List Zr×Int)):Pz:=prM<|l.map fun x=>((cf x.1:Pz),x.2.toNat)
theorem FL.prod(h:FL f l)(ff:Fs f)(nf:Nz f):∃c,c≠0/\f=pc c*Q8 l:=by
 refine zdD ff nf ?_ (fun x hx=> ?_) fun q hq pq hz=> ?_
 ·refine xed.2<|h.so.imp_of_mem fun{x y} hx hy h1 e=> ?_;have:=Jw (h.el x hx).1 (h.el y hy).1 fun k=>congrFun e k;rw[this]at h1;have:=qM y.1 y.1;lia
 ·obtain⟨y,hy,rfl⟩:=xap.1 hx;obtain⟨_,g2,g3,_,g5⟩:=h.el y hy;exact⟨g2,g3,g5⟩
 ·obtain⟨y,hy,e⟩:=h.al q hq pq hz;exact⟨_,xbL hy,e⟩
theorem Oq:∀{l:List (List Zr×Int)},(∀x∈l,Ir (cf x.1)/\1<=x.2)->∃d,Tp (Q8 l) d/\l.length<=d
 |[],_=>⟨0,⟨show pc 1 0≠0 by decide,fun k hk=>by show pc 1 k=0;unfold pc;rw[zC]⟩,xab _⟩
 |x::l,h=>by
  obtain⟨h1,h2⟩:=h x<|FS;obtain⟨d,hd,hl⟩:=Oq fun y hy=>h y<|UV _ hy;obtain⟨b,hb⟩:=Tp.ex h1.fs h1.pm.nz;have ha:1<=b:=xac fun h0=>h1.dg ((KF.tp hb).2<|by lia);have hc:∀n,Tp (pp (cf x.1:Pz) n) (n*b):=fun n=>by
   induction n with
   |zero=>rw[xcs];exact⟨show pc 1 0≠0 by decide,fun k hk=>by show pc 1 k=0;unfold pc;rw[zC]⟩
   |succ n ih=>rw[xaR,xcb];exact ih.mul hb
  refine⟨_,(hc x.2.toNat).mul hd,?_⟩;have h3:=xbU x.2.toNat ha;rw[xaq];lia
theorem FL.len(h:FL f l)(hf:Tp f m):l.length<=m:=by
 obtain⟨c,hc,e⟩:=h.prod hf.fs hf.nz;obtain⟨d,hd,hl⟩:=Oq fun x hx=>⟨(h.el x hx).2.1,(h.el x hx).2.2.2.1⟩;have h1:Tp (pc c*Q8 l) d:=⟨by rw[zN];exact xdF hc hd.1,fun k hk=>by rw[zN,hd.2 k hk,xaw]⟩;rw[<-e]at h1;rw[h1.uniq hf]at hl;exact hl
end
section
variable{fu:Nat}{a q:List Zr}{l:List (List Zr×Int)}
theorem Q2{c k:Nat}(hc:c<=1000)(hf:3000000<=fu:=by lia):ve fu (c:Int) (k:Int) a=some (decide<|UQ c k a):=by
 unfold ve;by_cases h0:c<a.length
 ·rw[zP,decide_eq_false fun e=>by have:=e.1;lia]
 ·rw[zC,zd (v:=if∀z∈a,z.2.length<=k then .inl ()else .inr ())]
  ·by_cases h:∀z∈a,z.2.length<=k
   ·rw[iq h,decide_eq_true (show UQ c k a from⟨by lia,h⟩)]
   ·rw[ir h,decide_eq_false fun e:UQ c k a=>h e.2]
  ·refine zB (fun s:Int=>∃j:Nat,s=(j:Int)/\j<=a.length/\∀t,t<j->(a.getD t (false,[])).2.length<=k) (fun s=>a.length-s.toNat) _ ?_ _ _ ⟨0,rfl,xah _,fun t h=>absurd h<|xbl _⟩ (by show a.length-0<fu;lia);rintro s L ⟨j,rfl,hj,he⟩ ih;unfold Kq;by_cases h1:j<a.length
   ·rw[zP,zw h1,zj];by_cases h2:k<(a.getD j (false,[])).2.length
    ·rw[zP,ir (fun e=>by have:=e _<|Rr h1;lia)]
    ·rw[zC,ze];refine ih _ ⟨j+1,rfl,by lia,fun t h=> ?_⟩ (by lia);by_cases h3:t=j
     ·rw[h3];lia
     ·exact he t<|by lia
   ·rw[zC,iq<|zaR fun t h=>he t<|by lia]
theorem nL{K:Nat}{b:List Zr}(ha:xc K a)(hb:xc K b)(ca:yj a=a)(cb:yj b=b)(hK:K<=40000)(hd:a.length<=1000)(hg:b.length<=1000)(hf:3000000<=fu):W0 fu a b=some (decide<|vI a b<0):=by
 unfold W0;rw[zd<|Kg ha (by lia) (by lia) hf,zd<|Kg hb (by lia) (by lia) hf,show vO a.length (cf a)=a from ca,show vO b.length (cf b)=b from cb];have hc:vI a b=if a.length=b.length then m8 (cf a) (cf b) a.length else if a.length<b.length then-1 else 1:=rfl;by_cases hl:a.length=b.length
 ·rw[iq hl]at hc;rw[zP,ze,zd (v:=if vI a b=0 then Sum.inl ()else Sum.inr (decide<|vI a b<0))]
  ·rcases rF a b with h|h|h<;>rw[h]<;>rfl
  ·rw[hc];refine zB (fun s:Int=>∃n:Nat,s=(n:Int)-1/\n<=a.length/\m8 (cf a) (cf b) n=m8 (cf a) (cf b) a.length) (fun s=>(s+1).toNat) _ ?_ _ _ ⟨a.length,rfl,xab _,rfl⟩ (by show((a.length:Int)-1+1).toNat<fu;lia);rintro s L ⟨n,rfl,hn,he⟩ ih;unfold UZ
   cases n with
   |zero=>
    rw[zC,<-he];rfl
   |succ n=>
    have oa:=ha.get n;have ob:=hb.get n;rw[show((n+1:Nat):Int)-1=(n:Int)by lia,zP,yp,zj,yp,zj,zd (rK (KE.of oa<|by lia) (KE.of ob<|by lia) hf (by lia)<|by lia),VG,VG];rw[show m8 (cf a) (cf b) (n+1)=if cf a n=cf b n then m8 (cf a) (cf b) n else if cf a n<cf b n then-1 else 1 from rfl]at he;by_cases e:cf a n=cf b n
    ·rw[iq e]at he;rw[iq<|wO.2 e,ze];exact ih _ ⟨n,rfl,by lia,he⟩<|by lia
    ·rw[ir e]at he;rw[ir fun h=>e<|wO.1 h];unfold qX;by_cases e2:cf a n<cf b n
     ·rw[iq e2]at he⊢;rw[<-he,iq<|by decide];rfl
     ·rw[ir e2]at he⊢;rw[iq (show cf b n<cf a n by lia),<-he,ir<|by decide];rfl
 ·rw[ir hl]at hc;rw[zC,hc];by_cases h2:a.length<b.length
  ·rw[iq h2,zP];rfl
  ·rw[ir h2,zC];rfl
theorem Jj{i:Nat}(h:i<l.length):l.getD i ([],0)∈l:=by grind [xaa,xbk]
def Gl(l:List (List Zr×Int)):Prop:=l.length<=1000/\∀x∈l,Gd x.1
theorem p8{m:List (List Zr×Int)}(hl:Gl l)(h:l=m)(hf:3000000<=fu):ZP fu l m=some true:=by
 subst h;unfold ZP;have h1:=hl.1;rw[iq rfl,zd (v:=.inl ())];refine zB (fun s:Int=>∃j:Nat,s=(j:Int)/\j<=l.length) (fun s=>l.length-s.toNat) _ ?_ _ _ ⟨0,rfl,xah _⟩ (by show l.length-0<fu;lia);rintro s L ⟨j,rfl,hj⟩ ih;unfold Ui;by_cases h2:j<l.length
 ·have hg:=hl.2 _<|Jj h2;have ha:=hg.ln;rw[zP,zw h2,zj,zw h2,zj,iq rfl,zw h2,zj,zw h2,zj,zd<|Kk hg.ok (by decide) (by lia) hf,decide_eq_true rfl,ir (by decide),ze];exact ih _ ⟨j+1,rfl,by lia⟩<|by lia
 ·rw[zC]
def WJ(q:List Zr):List (List Zr×Int)->Nat
 |[]=>0
 |x::l=>if vI x.1 q<0 then WJ q l+1 else 0
theorem Pk(q:List Zr):∀l,WJ q l<=l.length
 |[]=>xab _
 |x::l=>by
  unfold WJ;split
  ·exact Nat.succ_le_succ<|Pk q l
  ·exact xah _
theorem P8{q:List Zr}:∀{l:List (List Zr×Int)}{j:Nat},j<WJ q l->vI (l.getD j ([],0)).1 q<0
 |[],j,h=>absurd h<|xbl _
 |x::l,j,h=>by
  unfold WJ at h;split at h
  ·rename_i h1
   cases j with
   |zero=>exact h1
   |succ j=>exact P8 (l:=l)<|by lia
  ·exact absurd h<|xbl _
theorem N7{q:List Zr}:∀{l:List (List Zr×Int)},WJ q l<l.length->¬vI (l.getD (WJ q l) ([],0)).1 q<0
 |[],h=>absurd h<|xbl _
 |x::l,h=>by
  unfold WJ at h⊢;split at h
  ·rename_i h1;rw[iq h1];exact N7 (l:=l)<|by simpa using h
  ·rename_i h1;rw[ir h1];exact h1
theorem P3(q:List Zr)(n:Int):∀l:List (List Zr×Int),JH q n l=if WJ q l<l.length/\(l.getD (WJ q l) ([],0)).1=q then l.set (WJ q l) ((l.getD (WJ q l) ([],0)).1,(l.getD (WJ q l) ([],0)).2+n)else l.take (WJ q l)++[(q,n)]++l.drop (WJ q l)
 |[]=>by rw[ir fun h=>absurd h.1<|xbl _];rfl
 |x::l=>by
  have ih:=P3 q n l;unfold JH WJ;by_cases h:vI x.1 q<0
  ·rw[iq h,iq h,ih];by_cases h2:WJ q l<l.length/\(l.getD (WJ q l) ([],0)).1=q
   ·rw[iq h2,if_pos ⟨Nat.succ_lt_succ h2.1,h2.2⟩];rfl
   ·rw[ir h2,ir fun h3=>h2 ⟨Nat.lt_of_succ_lt_succ h3.1,h3.2⟩];rfl
  ·rw[ir h,ir h];by_cases h2:x.1=q
   ·rw[iq h2,if_pos ⟨Nat.succ_pos _,h2⟩];rfl
   ·rw[ir h2,ir fun h3=>h2 h3.2];rfl
theorem tQ{n:Int}(hl:Gl l)(hq:Gd q)(hn:∀x∈l,VH<|x.2+n)(hf:3000000<=fu):Qn fu l q n=some (JH q n l):=by
 have h1:=hl.1;have hb:=Pk q l;have hd:=hq.ln;have ha:zm (Qx fu l q) fu (0:Int)=some ((WJ q l:Nat):Int):=by
  refine zB (fun s:Int=>∃j:Nat,s=(j:Int)/\j<=WJ q l) (fun s=>l.length-s.toNat) _ ?_ _ _ ⟨0,rfl,xah _⟩ (by show l.length-0<fu;lia);rintro s L ⟨j,rfl,hj⟩ ih;unfold Qx;by_cases h2:j<l.length
  ·have hg:=hl.2 _<|Jj h2;have hc:=hg.ln;rw[zP,zw h2,zj,zd<|nL hg.ok hq.ok hg.can hq.can (by decide) (by lia) (by lia) hf];by_cases h3:j<WJ q l
   ·rw[decide_eq_true<|P8 h3,iq rfl,ze];exact ih _ ⟨j+1,rfl,by lia⟩<|by lia
   ·obtain rfl:j=WJ q l:=by lia
    rw[decide_eq_false<|N7 h2,ir<|by decide]
  ·rw[zC];obtain rfl:j=WJ q l:=by lia
   rfl
 have he:=P3 q n l;obtain⟨k,hk⟩:∃k,k=WJ q l:=⟨_,rfl⟩;rw[<-hk]at ha he hb;unfold Qn;rw[zd ha,zd (v:=decide<|k<l.length/\(l.getD k ([],0)).1=q)]
 ·by_cases h2:k<l.length/\(l.getD k ([],0)).1=q
  ·rw[iq h2]at he;have hm:=hn _<|Jj h2.1;rw[decide_eq_true h2,iq rfl,xbA,wE (by rw[xbR];lia),zj,zw h2.1,zj,tz hm,zw h2.1,zj,he]
  ·rw[ir h2]at he;rw[decide_eq_false h2,ir (by decide),yI,wE hb,zj,xbA,wE (by rw[xbR,xav];lia),zj,wE (by rw[xav,xeG];lia),zj,yI,wE hb,zj,wE (by rw[xax,xav,xeG,xbN];lia),zj,he]
 ·by_cases h2:k<l.length
  ·have hg:=hl.2 _<|Jj h2;have hc:=hg.ln;rw[zP,zw h2,zj,zd<|Kk hg.ok (by decide) (by lia) hf];by_cases h3:(l.getD k ([],0)).1=q
   ·rw[decide_eq_true h3,decide_eq_true (show k<l.length/\(l.getD k ([],0)).1=q from⟨h2,h3⟩)]
   ·rw[decide_eq_false h3,decide_eq_false fun h=>h3 h.2]
  ·rw[zC,decide_eq_false fun h=>h2 h.1]
theorem Gl.put{n:Int}(hl:Gl l)(h9:l.length<=999)(hq:Gd q):Gl (JH q n l):=
 ⟨xan ra (by lia),fun x hx=>by
  rcases eR hx with h|h
  ·exact hl.2 x h
  ·rw[h];exact hq⟩
end
section
variable{B i:Nat}{a R:List Zr}{l:List (List Zr×Int)}
theorem zgQ{fu m:Nat}{ds:List Int}(ha:xc m a)(hm:m<=50)(hl:a.length<=40)(hn:(yj a).length<=11)(bA:∀j,Bb B<|cf a j)(hB:B<=180)(hd:Rl ds)(hb:ds.length<=1000)(hf:3000300<=fu):
 (dp a≠0/\yg fu a ds=some ((false,[]),[],dp a))\/
 (dp a=0/\∃R,wI fu a=some (R,0)/\Rad a R/\(∀j,Bb (B+(yj a).length+4)<|cf R j)/\
  ((AR R/\∃l,yg fu a ds=some (yK<|va a,l,0)/\FL (cf a) l/\l.length<=12/\∀x∈l,Gd x.1/\x.2<=11)\/
   (¬AR R/\yg fu a ds=some ((false,[]),[],6)))):=by
 by_cases h0:dp a=0
 ·refine .inr ⟨h0,?_⟩;have p1:=VB (i:=(yj a).length-1)<|10-((yj a).length-1);have p2:=VB (i:=(yj a).length)<|11-(yj a).length;rw[show(yj a).length-1+(10-((yj a).length-1))=10 by lia]at p1;rw[show(yj a).length+(11-(yj a).length)=11 by lia]at p2;have q1:QJ 10=3363:=by decide
  have q2:QJ 11=8119:=by decide
  have r1:=xbJ (show B+7<=187 by lia) (show QJ ((yj a).length-1)<=3363 by lia);have r2:=xbJ (show B+7<=187 by lia) (show QJ ((yj a).length)<=8119 by lia);exact dM ha hm hl h0 hn bA (by lia) (by lia) (by lia) hd hb hf
 ·exact .inl ⟨h0,cQ ha (by lia) (by lia) h0<|by lia⟩
theorem zbN:∀(n:Nat) {R S:Pz}{m:Nat},m<=n->Tp R m->Pm R->Fs S->(∀q,Ir q->¬Zd (q*q) R)->(∀q,Ir q->Zd q R->Zd q S)->Zd R S
 |n,R,S,m,hb,hR,pR,fS,sf,h=>by
  by_cases hm:m=0
  ·obtain⟨c,rfl⟩:=((KF.tp hR).2 hm).ex;refine⟨pc c*S,(Fs.pc c).mul fS,?_⟩;have hc:c*c=1:=by rcases sM pR with e|e<;>rw[e]<;>rfl
   rw[zk,<-zf,qQ,hc,zz]
  ·cases n with
   |zero=>lia
   |succ n=>
    obtain⟨q,q1,q2,w,fw,e⟩:=Ir.ex m (xab m) hR pR (by lia);obtain⟨nw,nq⟩:=jo hR.nz e;obtain⟨i,hi⟩:=Tp.ex fw nw;obtain⟨j,hj⟩:=Tp.ex q1.fs nq;have hd:i+j=m:=by
     have:=hi.mul hj;rw[<-e]at this;exact this.uniq hR
    have he:j≠0:=fun h0=>q1.dg<|(KF.tp hj).2 h0;have pw:Pm w:=(show Pm (w*q)by rw[<-e];exact pR).left;have ha:¬Zd q w:=fun⟨x,fx,ex⟩=>sf q q1 ⟨x,fx,by rw[e,ex,zf]⟩;obtain⟨s,fs,es⟩:=zbN n (by lia) hi pw fS (fun r hr hz=>sf r hr<|by rw[e,zk w q];exact hz.mul _ q1.fs) fun r hr hz=>h r hr (by rw[e,zk w q];exact hz.mul _ q1.fs);have h2:=h q q1 ⟨w,fw,e⟩;rw[es]at h2;rcases q1.prime fs fw h2 with h3|h3
    ·obtain⟨t,ft,et⟩:=h3;exact⟨t,ft,by rw[es,et,e,zf,zk q w]⟩
    ·exact absurd h3 ha
theorem Rad.tp(h:Rad a R):Tp (cf R) (R.length-1)/\R.length≠0:=by
 have h0:(yj R).length≠0:=fun e=>by
  obtain⟨j,hj⟩:=h.pm.nz;exact hj<|jO e j
 have:=km h0;rw[h.can]at this h0;exact⟨this,h0⟩
theorem AR.rad{b S:List Zr}(hR:Rad a R)(hS:Rad b S)(h:∀q,Ir q->Zd q (cf a)->Zd q (cf b))(hF:AR S)(hl:R.length<=11)(hB:B<=400)(bR:∀j,Bb B<|cf R j):AR R:=by
 obtain⟨tR,lR⟩:=hR.tp;obtain⟨tS,lS⟩:=hS.tp;have hz:Zd (cf R) (cf S):=zbN _ (xab _) tR hR.pm (Fs.cf S) hR.sf fun q hq hz=>hS.al q hq<|h q hq<|hz.trans<|zcM hR;rcases hF with h1|⟨_,p,hp⟩
 ·left;obtain⟨w,fw,e⟩:=hz;obtain⟨nw,nR⟩:=jo tS.nz e;obtain⟨i,hi⟩:=Tp.ex fw nw;have h2:=hi.mul tR;rw[<-e]at h2;have:=h2.uniq tS;lia
 ·exact .inr ⟨zbw hl hB bR,p,hp.dv hS.can hR.can hz⟩
theorem tT(l m:List (List Zr×Int)):Q8 (l++m)=Q8 l*Q8 m:=by
 induction l with
 |nil=>exact(zz _).symm
 |cons x l ih=>
  show pp (cf x.1) x.2.toNat*Q8 (l++m)=pp (cf x.1) x.2.toNat*Q8 l*Q8 m;rw[ih,zf]
theorem M0:Fs (Q8 l):=o9 fun x hx=>by
 obtain⟨y,_,rfl⟩:=xap.1 hx;exact Fs.cf _
theorem Nx(h:i<l.length):l.take (i+1)=l.take i++[l.getD i ([],0)]:=by grind [xeI,xaa]
theorem SS(h:i<l.length):Q8 (l.take<|i+1)=Q8 (l.take i)*pp (cf (l.getD i ([],0)).1) (l.getD i ([],0)).2.toNat:=by
 rw[Nx h,tT];show _*(pp _ _*pc 1)=_;rw[zU]
theorem zeL(l:List (List Zr×Int))(i:Nat):Q8 l=Q8 (l.take i)*Q8 (l.drop i):=by
 rw[<-tT,xbH]
end
section
set_option maxRecDepth 100000
theorem Gj:YY 4000000=some true:=by decide+kernel
end
theorem zd4{b c:Nat}{f:Nat->Int}(h:∀k,Bb b<|f k){n:Nat}(hn:n<=2^c):Bb (b+c) (zW n f):=by
 have key:∀n,(zW n f).natAbs+n<=n*2^b:=fun n=>by
  induction n with
  |zero=>show(0:Int).natAbs+0<=0*2^b;lia
  |succ n ih=>
   have h1:(f n).natAbs<2^b:=h n;have h2:(zW n f+f n).natAbs<=(zW n f).natAbs+(f n).natAbs:=Int.natAbs_add_le _ _;show(zW n f+f n).natAbs+(n+1)<=(n+1)*2^b;rw[xaR,xcb];lia
 have h1:=key n;have h2:=xat (2^b) hn;have h3:(2:Nat)^(b+c)=2^c*2^b:=by rw[xds,xbY]
 have h4:0<(2:Nat)^(b+c):=xbj (by decide);unfold Bb;by_cases ha:n=0
 ·subst ha;exact h4
 ·lia
theorem DH{fu B m:Nat}{a:List Zr}{ds:List Int}(ha:xc m a)(hm:m<=50)(hl:a.length<=40)(hn:(yj a).length<=11)(bA:∀j,Bb B<|cf a j)(hB:B<=180)(hd:Rl ds)(hb:ds.length<=1000)(hf:3000300<=fu):
 ∃c l e,yg fu a ds=some (c,l,e)/\(e=0->c=yK (va a)/\FL (cf a) l/\l.length<=12/\∀x∈l,Gd x.1/\x.2<=11)/\(e≠0->dp a=0->e=6)/\(dp a≠0->e≠0)/\
  (dp a=0->∃R,Rad a R/\(∀j,Bb (B+(yj a).length+4)<|cf R j)/\(e=0↔AR R)):=by
 rcases zgQ ha hm hl hn bA hB hd hb hf with⟨h0,e1⟩|⟨h0,R,r1,r2,r3,⟨hF,l,e1,f1,l1,d1⟩|⟨hF,e1⟩⟩
 ·exact⟨_,_,_,e1,fun h=>absurd h h0,fun _ h=>absurd h h0,fun _=>h0,fun h=>absurd h h0⟩
 ·exact⟨_,_,_,e1,fun _=>⟨rfl,f1,l1,d1⟩,fun h=>absurd rfl h,fun h=>absurd h0 h,fun _=>⟨R,r2,r3,⟨fun _=>hF,fun _=>rfl⟩⟩⟩
 ·exact⟨_,_,_,e1,fun h=>absurd h (by decide),fun _ _=>rfl,fun h=>absurd h0 h,fun _=>⟨R,r2,r3,⟨fun h=>absurd h (by decide),fun h=>absurd h hF⟩⟩⟩
theorem Nf{a:List Zr}(hl:(yj a).length<=65):dp a=0↔Nz (cf a):=by
 unfold dp;by_cases h:(yj a).length=0
 ·rw[iq h];exact⟨fun e=>absurd e (by decide),fun⟨k,hk⟩=>absurd (jO h k) hk⟩
 ·rw[ir h,zC];exact⟨fun _=>⟨_,(km h).1⟩,fun _=>rfl⟩
theorem Nz.both{u v:Pz}(h:Nz (u*v)):Nz u/\Nz v:=jo h rfl
theorem RB{fu:Nat}{a b:List Zr}{l k:List (List Zr×Int)}{n m:Nat}(ta:Tp (cf a) n)(hn:n<=5)(tb:Tp (cf b) m)(hm:m<=5)(hl:FL (cf a) l)(hk:FL (cf b) k)(gl:∀x∈l,Gd x.1)(gk:∀x∈k,Gd x.1)(hf:3000000<=fu):
 ∃all,zm (jl fu k) fu (l,0)=some (.inl all)/\FL ((cf a:Pz)*cf b) all/\Gl all:=by
 have ll:=hl.len ta;have lk:=hk.len tb;obtain⟨c,hc,he⟩:=hk.prod tb.fs tb.nz;have tab:=ta.mul tb
 obtain⟨r,hr,all,rfl,h1,h2⟩:=yA (f:=jl fu k) (fun s:List (List Zr×Int)×Int=>∃(i:Nat) (all:List (List Zr×Int)),s=(all,(i:Int))/\i<=k.length/\FL ((cf a:Pz)*Q8 (k.take i)) all/\Gl all/\all.length<=l.length+i) (fun s=>k.length-s.2.toNat)
  (fun r=>∃all,r=.inl all/\FL ((cf a:Pz)*Q8 k) all/\Gl all) (by
  rintro s L ⟨i,all,rfl,hi,h1,h2,h3⟩ ih
  unfold jl
  simp only
  by_cases ha:i<k.length
  ·have hg:=Jj ha
   obtain⟨g1,g2,g3,g4,g5⟩:=hk.el _ hg
   have hG:=gk _ hg
   have hN:=g5.deg g2 tb
   obtain⟨N,hb⟩:∃N:Nat,(k.getD i ([],0)).2=(N:Int):=⟨(k.getD i ([],0)).2.toNat,by lia⟩
   obtain⟨q,ho⟩:∃q,q=(k.getD i ([],0)).1:=⟨_,rfl⟩
   rw[hb,xaE]at hN
   rw[<-ho]at g1 g2 g3 hG
   have hj:(cf a:Pz)*cf b=(cf a*Q8 (k.take i))*(pc c*Q8 (k.drop i)):=by
    rw[he,zeL k i];simp only[zk,zy]
   obtain⟨nx,ny⟩:=jo tab.nz hj
   obtain⟨d,hd⟩:=Tp.ex (ta.fs.mul M0) nx
   obtain⟨d',hq⟩:=Tp.ex ((Fs.pc c).mul M0) ny
   have hp:=hd.mul hq
   rw[<-hj]at hp
   have hp:=hp.uniq tab
   have hR:∀x∈all,VH (x.2+(N:Int)):=fun x hx=>by
    obtain⟨_,u2,_,u4,u5⟩:=h1.el x hx;have:=u5.deg u2 hd;exact⟨by lia,by lia⟩
   rw[zP,zw ha,zj,hb,zC,zw ha,zj,hb,zC,zC,zw ha,zj,<-ho,zw ha,zj,hb,zd<|tQ h2 hG hR hf,ze]
   refine ih _ ⟨i+1,_,rfl,by lia,?_,h2.put (by lia) hG,xan ra<|by lia⟩ (by show k.length-((i:Int)+1).toNat<k.length-(i:Int).toNat;lia)
   have:=h1.put (q:=q) (n:=N) (ta.fs.mul M0) g1 g2 g3<|by lia
   rw[SS ha,<-ho,hb,xaE,<-zf]
   exact this
  ·rw[zC]
   obtain rfl:i=k.length:=by lia
   rw[xcy]at h1
   exact⟨_,rfl,all,rfl,h1,h2⟩) fu (l,0) ⟨0,l,rfl,xah _,by rw[List.take_zero];show FL ((cf a:Pz)*pc 1) l;rw[zU];exact hl,⟨by lia,gl⟩,xab _⟩ (by show k.length-(0:Int).toNat<fu;lia)
 refine⟨all,hr,?_,h2⟩;have e:(cf a:Pz)*cf b=pc c*(cf a*Q8 k):=by rw[he,zy]
 rw[e];exact h1.scale hc
theorem Rs(a b:List Zr)(ha:(Ty.l (.p .b (.l .u))).ok a)(hb:(Ty.l (.p .b (.l .u))).ok b):kZ 4000000 a b=some true:=by
 obtain⟨fu,hl⟩:∃fu,fu=4000000:=⟨_,rfl⟩;have he:=Gj;rw[<-hl]at he⊢;have hf:3000300<=fu:=by lia
 unfold kZ;have hm:ve fu 6 1 a=some (decide<|UQ 6 1 a):=Q2 (c:=6) (k:=1) (by decide);have hg:ve fu 6 1 b=some (decide<|UQ 6 1 b):=Q2 (c:=6) (k:=1) (by decide);rw[zd he,zd hm];by_cases hs:UQ 6 1 a
 ·rw[decide_eq_true hs,ir (by decide),zd hg];by_cases ht:UQ 6 1 b
  ·rw[decide_eq_true ht,ir<|by decide];have pa:=Om ha hs.2;have pb:=Om hb ht.2;have la:=hs.1;have lb:=ht.1;have na:=WC a;have nb:=WC b;have bA:∀j,Bb 64 (cf a j):=fun j=>(pa.bz j).bb;have bB:∀j,Bb 64 (cf b j):=fun j=>(pb.bz j).bb;obtain⟨p,hp⟩:∃p,p=yT a b:=⟨_,rfl⟩;have pp_:xc 8 p:=by rw[hp];exact(ZE pa pb).mono<|by lia
   have hc:(cf p:Pz)=(cf a:Pz)*cf b:=by rw[hp];exact qG a b
   have hd:yj p=p:=by rw[hp];exact(YV _ _).symm
   have hi:∀k,11<=k->cf p k=0:=fun k hk=>by
    rw[hc];exact vL (n:=6) (m:=6) (fun j hj=>ye<|by lia)<|fun j hj=>ye<|by lia
   have ho:p.length<=11:=rA (show p=vO p.length (cf p)from hd.symm) hi;have bP:∀j,Bb 132 (cf p j):=fun j=>by
    by_cases hj:j<11
    ·rw[hc,xq];exact zd4 (b:=128) (c:=4) (fun k=>(bA k).mul<|bB _) (by have:(2:Nat)^4=16:=rfl;lia)
    ·rw[hi j<|by lia];exact Bb.zero _
   obtain⟨c1,l1,e1,s1,f1,w1,v1,r1⟩:=DH (ds:=[]) pa (by decide) (by lia) (by lia) bA (by decide) NX (xah _) hf;obtain⟨c2,l2,e2,s2,f2,w2,v2,r2⟩:=DH (ds:=[]) pb (by decide) (by lia) (by lia) bB (by decide) NX (xah _) hf;obtain⟨c3,l3,e3,s3,f3,w3,v3,r3⟩:=DH (ds:=[]) pp_ (by decide) (by lia) (by rw[hd];exact ho) bP (by decide) NX (xah _) hf;have za:=Nf (a:=a) (by lia);have zb:=Nf (a:=b) (by lia);have zp:=Nf (a:=p) (by rw[hd];lia);have both:e3=0->e1=0/\e2=0:=fun h3=>by
    have h0:dp p=0:=xac fun hn=>v3 hn h3;have hz:=zp.1 h0;rw[hc]at hz;obtain⟨n1,n2⟩:=hz.both;obtain⟨R,R1,R2,R3⟩:=r3 h0;obtain⟨A,A1,A2,A3⟩:=r1<|za.2 n1;obtain⟨B,B1,B2,B3⟩:=r2<|zb.2 n2;have hF:=R3.1 h3;refine⟨A3.2<|AR.rad A1 R1 (fun q hq hz=> ?_) hF (by have:=A1.ln;lia) (by lia) A2,B3.2<|AR.rad B1 R1 (fun q hq hz=> ?_) hF (by have:=B1.ln;lia) (by lia) B2⟩
    ·rw[hc,zk];exact hz.mul _<|Fs.cf b
    ·rw[hc];exact hz.mul _<|Fs.cf a
   rw[zd s1];simp only;rw[zd s2];simp only;rw[zd<|xh pa pb,<-hp,zd s3];simp only;by_cases h1:e1=0
   ·rw[iq h1];by_cases h2:e2=0
    ·rw[iq h2];have n1:=za.1<|xac fun hn=>v1 hn h1;have n2:=zb.1<|xac fun hn=>v2 hn h2;have ta:=km (a:=a) fun e=>by
      obtain⟨j,hj⟩:=n1;exact hj<|jO e j
     have tb:=km (a:=b) fun e=>by
      obtain⟨j,hj⟩:=n2;exact hj<|jO e j
     by_cases h3:e3=0
     ·rw[iq h3];obtain⟨_,f1,_,d1⟩:=f1 h1;obtain⟨_,f2,_,d2⟩:=f2 h2;obtain⟨_,f3,g3,d3⟩:=f3 h3;obtain⟨all,q1,q2,q3⟩:=RB (fu:=fu) ta (by lia) tb (by lia) f1 f2 (fun x hx=>(d1 x hx).1) (fun x hx=>(d2 x hx).1) (by lia);rw[zd q1];simp only;rw[<-hc]at q2;rw[iq trivial,zd<|p8 ⟨by lia,fun x hx=>(d3 x hx).1⟩ (f3.uniq q2)<|by lia]
     ·rw[ir h3,iq trivial];have h0:dp p=0:=zp.2 (by rw[hc];exact Nz.mul (Fs.cf a) (Fs.cf b) n1 n2);rw[w3 h3 h0,iq rfl]
    ·rw[ir h2,iq trivial,ir fun h3=>h2 (both h3).2]
   ·rw[ir h1,iq trivial,ir fun h3=>h1 (both h3).1]
  ·rw[decide_eq_false ht,iq<|by decide]
 ·rw[decide_eq_false hs,iq<|by decide]
section
namespace zfacBoth
open Go.ChangeShapes Go.WideShapes Go.ChangeAt Go.RowKit
theorem own:ownKnob Tryz.prog.godebug=none:=by kernel_rfl
theorem atW:Va Tryz.prog .u 54:=id (by kernel_rfl:Tryz.prog.underlying 54=some (.int .u64))
theorem atB:Va Tryz.prog .b 4:=id (by kernel_rfl:Tryz.prog.underlying 4=some .bool)
theorem atL:Va Tryz.prog (.l .u) 28:=Va.sl (E:=54) (by kernel_rfl) (by kernel_rfl) (by decide) atW
theorem atZ:Va Tryz.prog (.p .b (.l .u)) 30:=Va.st (A:=4) (B:=28) (by kernel_rfl) (by kernel_rfl) (by kernel_rfl) (by kernel_rfl) atB atL
theorem atP:Va Tryz.prog (.l (.p .b (.l .u))) 22:=Va.sl (E:=30) (by kernel_rfl) (by kernel_rfl) (by decide) atZ
def sgO(M:UI [.d (.l (.p .b (.l .u))),.d (.l (.p .b (.l .u)))]->Option Bool):VF:=⟨5,[.d (.l (.p .b (.l .u))),.d (.l (.p .b (.l .u)))],[.d .b],M,0⟩
set_option maxRecDepth 100000 in
theorem lifted{M:UI [.d (.l (.p .b (.l .u))),.d (.l (.p .b (.l .u)))]->Option Bool}(hs:y9 Tryz.prog (sgO M))(hz:∀x,Tv [.d (.l (.p .b (.l .u))),.d (.l (.p .b (.l .u)))] x->M x=some true)(os:Os)(started:os.Started)(H:Type)(enc:TypeId×Value->H):
 ReturnsInHanded {} Tryz.checked os 5 .any (Rows.zfacBothSpec.pre6 enc Tryz.prog Tryz.f5 Rows.zfacBothRow.domain false) (Rows.zfacBothSpec.post enc Tryz.prog Tryz.f5 false true false false):=by
 refine returnsInHanded_of_change (C:=Tryz.checked) own started (by kernel_rfl) Tryz.func5
  (ChangeSpec.witness6 (enc:=enc) (C:=Tryz.checked) false ⟨#[],#[.slice none 0 0,.slice none 0 0],[]⟩ 8 (by kernel_rfl) (by kernel_rfl) (by kernel_rfl)<|by kernel_rfl) ?_
 intro W base args ds gs before ha hW hf _;have hb:∀(j:Nat) t v,Tryz.f5.params[j]? =some t->args[j]? =some v->xee Tryz.prog W .any base t v:=ha;have hc:=hW;obtain⟨p,q,hd,hV,_,_,_⟩:=hW;have hA:xeH enc Tryz.prog W 0 (fun _=>true) true Tryz.f5.params.toList args.toList ds p:=hd;rw[Tryz.params5]at hA;obtain⟨v0,vs0,d0,ds0,p0,q0,he,rfl,_,_,r0⟩:=trodAll_cons hA;obtain⟨v1,vs1,d1,ds1,p1,q1,_,rfl,_,_,r1⟩:=trodAll_cons r0;obtain⟨_,rfl,_⟩:=trodAll_nil r1;obtain⟨rfl,_⟩:=trodVars_none hV
 exact zff (sg:=sgO M) hc rfl hb (by kernel_rfl) (by rw[Tryz.params5];decide+kernel) (by rw[Tryz.params5];exact⟨atP,atP,trivial⟩) rfl hs
  (fun x hx=>hz x hx) (B:=4) (by kernel_rfl) Tryz.underlying4 rfl
set_option maxRecDepth 100000 in
theorem fnm:Tryz.pinned.checked.prog.funcNamed Rows.zfacBothRow.func=some 5:=by kernel_rfl
set_option maxRecDepth 100000 in
set_option maxHeartbeats 4000000 in
theorem jf:joinedFacts Tryz.pinned.checked.prog 5 Tryz.f5 Rows.zfacBothSpec Rows.zfacBothRow=true:=by
 unfold joinedFacts;simp only[xam];repeat' apply xfx
 all_goals (as_aux_lemma=>kernel_rfl)
theorem over:Rows.zfacBothRow.holds Tryz.pinned (OpenSpec.ofChange Rows.zfacBothSpec):=
 OpenClaim.holds_of_wide 5 Tryz.f5 rfl rfl rfl rfl rfl rfl rfl ⟨rfl,rfl,rfl,rfl,rfl⟩ rfl rfl rfl rfl rfl fnm Tryz.func5 jf
  (of_decide_eq_true<|by kernel_rfl) (by unfold Func.isWrapper;first|(rw[iq<|by decide+kernel];kernel_rfl)|(rw[ir<|by decide+kernel];exact⟨rfl,rfl⟩))
  (fun os started H enc _=>lifted (M:=fun x=>kZ 4000000 x.1 x.2.1) (lF 4000000) (fun x hx=>Rs x.1 x.2.1 hx.1 hx.2.1) os started H enc)
theorem proved:Rows.ZfacBothSaid:=
 over
end zfacBoth
end
end Go.Proofs.YtmggkmchbdanfaaGreat
