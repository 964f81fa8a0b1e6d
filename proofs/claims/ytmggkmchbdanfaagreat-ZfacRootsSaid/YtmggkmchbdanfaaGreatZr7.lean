/- A product of x less numbers, each as often as it stands, has just these as factors: for every input. No condition. -/
import Derived.Test.YtmggkmchbdanfaaGreatZr6
set_option linter.unusedVariables false
set_option linter.unusedSimpArgs false
namespace Go.Proofs.YtmggkmchbdanfaaGreat
open And renaming intro->xfz
open Bool renaming and_eq_true->xao,false_eq_true->xak
open Classical renaming byContradiction->xae
open DataW renaming TrodAll->xeH
open Int renaming add_comm->xfa,add_zero->xbD,dvd_mul_left->xcQ,dvd_mul_right->xco,dvd_neg->xfQ,dvd_of_emod_eq_zero->xaJ,dvd_refl->xdP,dvd_trans->xbG,emod_emod->xaF,emod_emod_of_dvd->xcF,emod_eq_emod_iff_emod_sub_eq_zero->xaE,emod_eq_of_lt->xaC,emod_eq_zero_of_dvd->xaB,eq_ofNat_of_zero_le->xaA,le_of_lt->xdF,le_refl->xeY,mul_add->xeX,mul_assoc->xbK,mul_comm->xbm,mul_dvd_mul->xfP,mul_emod->xbr,mul_eq_zero->xeF,mul_le_mul_of_nonneg_left->xaW,mul_le_mul_of_nonneg_right->xbz,mul_ne_zero->xdw,mul_nonneg->xcB,mul_one->xck,mul_zero->xau,natAbs_dvd_natAbs->xcq,natAbs_ediv_le_natAbs->xdr,natAbs_mul->xcg,natAbs_natCast->xbe,natCast_add->xdZ,natCast_dvd_natCast->xdC,natCast_mul->xfd,one_mul->xca,pow_nonneg->xfv,pow_succ->xbl,pow_zero->xbs,sub_self->xdb,sub_zero->xcE,toNat_natCast->xaK,zero_add->xcD,zero_ediv->xfJ,zero_emod->xag,zero_mul->xaS
open List renaming append_nil->xbR,append_of_mem->xdQ,drop_eq_getElem_cons->xcx,drop_eq_nil_of_le->xcl,ext_getElem->xeR,filter_cons->xdk,filter_cons_of_neg->xfj,filter_cons_of_pos->xfi,getD_eq_getElem?_getD->H1,getElem?_append_left->xbq,getElem?_append_right->xcn,getElem?_drop->xet,getElem?_eq_getElem->xaa,getElem?_map->xaT,getElem?_replicate->xfe,getElem?_take->xcp,getElem_map->xfF,getElem_mem->xbn,length->xaI,length_append->xax,length_cons->xaq,length_drop->xbO,length_eq_zero_iff->xbF,length_filter_le->xfD,length_map->xaP,length_nil->xbS,length_range->xcA,length_replicate->xaZ,length_set->xcK,length_singleton->xeG,length_take->xav,map_append->xbg,map_congr_left->xci,map_cons->xbX,map_map->xcT,mem_append->Nm,mem_cons->xac,mem_cons_of_mem->UV,mem_cons_self->FS,mem_iff_getElem->xdW,mem_map->xal,mem_map_of_mem->xbL,mem_of_mem_drop->xeL,mem_or_eq_of_mem_set->xeN,mem_range->xbf,mem_singleton->xai,nil_append->xbA,not_mem_nil->IR,pairwise_append->xdj,pairwise_cons->xbJ,pairwise_iff_forall_sublist->xdl,pairwise_iff_getElem->xcW,pairwise_map->xdq,range->xbc,range_succ->xdu,replicate->xaf,take_add_one->xfs,take_length->xcP
open List.Pairwise renaming nil->xfn
open Nat renaming add_comm->xdD,add_mul->xaV,add_sub_cancel->xeu,add_zero->xbT,le_mul_of_pos_left->xdm,le_mul_of_pos_right->xcb,le_of_lt->xcS,le_of_not_lt->xbw,le_refl->xab,le_succ->xcd,le_trans->xam,lt_of_le_of_lt->xba,lt_of_lt_of_le->xan,mul_add->xbh,mul_le_mul->xbH,mul_le_mul_left->xaD,mul_le_mul_right->xaw,mul_left_comm->xed,mul_lt_mul''->xdK,mul_lt_mul_of_pos_right->xbW,mul_one->xcG,mul_zero->xcN,not_lt_zero->xbp,one_mul->xcm,pow_add->xbZ,pow_le_pow_right->xay,pow_lt_pow_right->xeM,pow_mul->xdf,pow_pos->xbk,pow_succ->xbb,strongRecOn->xds,sub_self->xda,zero_add->xaN,zero_le->xah,zero_mul->xcv
open Option.some renaming injEq->xaz
open Prod renaming ext->xeS
open Prod.mk renaming injEq->xcH
open Value renaming okWide->xef
section
variable{f q:Pz}{m:Nat}{l:List (List Zr×Int)}{a b:List Zr}
theorem Pm.one:Pm (pc 1):=fun d hd=>by
 have:=hd 0;unfold pc at this;rw[iq rfl]at this;exact Nat.dvd_one.1<|xdC.1 this
theorem Pm.pp{q:Pz}(h:Pm q):∀n,Pm (pp q n)
 |0=>Pm.one
 |n+1=>(Pm.pp h n).mul h
theorem Po.mul{g:Pz}(hf:Po f)(hg:Po g):Po (f*g):=by
 obtain⟨n,h1,h2⟩:=hf;obtain⟨m,h3,h4⟩:=hg;exact⟨n+m,by rw[VA h2 h4];exact Int.mul_pos h1 h3,fun k hk=>vL (n:=n+1) (m:=m+1) (fun j hj=>h2 j<|by lia)<|fun j hj=>h4 j<|by lia⟩
theorem Po.one:Po (pc 1):=⟨0,by decide,fun k hk=>by unfold pc;rw[zy]⟩
theorem Po.pp{q:Pz}(h:Po q):∀n,Po (pp q n)
 |0=>Po.one
 |n+1=>(Po.pp h n).mul h
theorem Ir.one(h:Ir q):¬Zd q (pc 1):=fun⟨w,fw,e⟩=>by
 obtain⟨a,ha⟩:=Tp.ex h.fs h.pm.nz;have hw:Nz w:=xae fun hn=>by
  have:=congrFun e 0;rw[xt,yG fun k _=>by rw[Nz.not hn k,xaS]]at this;exact absurd this<|by decide
 obtain⟨b,hb⟩:=Tp.ex fw hw;have h1:=hb.mul ha;rw[<-e]at h1;have h2:=h1.uniq (m:=0) ⟨by decide,fun k hk=>by unfold pc;rw[zy]⟩;exact h.dg<|(Kz.tp ha).2<|by lia
def Mu(q f:Pz)(n:Nat):Prop:=∃u,Fs u/\f=u*pp q n/\¬Zd q u
theorem Mu.ex{q:Pz}(hq:Ir q)(m:Nat):∀{f:Pz},Tp f m->∃n,n<=m/\Mu q f n:=by
 induction m using xds with
 |ind m ih=>
  intro f hf;by_cases hd:Zd q f
  ·obtain⟨u,fu,e⟩:=hd;have hu:Nz u:=xae fun hn=>by
    refine hf.1 ?_;rw[e,xt,yG fun k _=>by rw[Nz.not hn k,xaS]]
   obtain⟨a,ha⟩:=Tp.ex fu hu;obtain⟨b,hb⟩:=Tp.ex hq.fs hq.pm.nz;have h1:=ha.mul hb;rw[<-e]at h1;have h1:=h1.uniq hf;have hc:b≠0:=fun h=>hq.dg<|(Kz.tp hb).2 h;obtain⟨n,hn,v,fv,e2,hv⟩:=ih a (by lia) ha;refine⟨n+1,by lia,v,fv,?_,hv⟩;show f=v*(pp q n*q);rw[e,e2,zd]
  ·exact⟨0,xah m,f,hf.fs,(zO f).symm,hd⟩
theorem Mu.mul{q f g:Pz}{n m:Nat}(hq:Ir q)(hf:Mu q f n)(hg:Mu q g m):Mu q (f*g) (n+m):=by
 obtain⟨u,fu,rfl,hu⟩:=hf;obtain⟨v,fv,rfl,hv⟩:=hg;refine⟨u*v,fu.mul fv,?_,fun h=> ?_⟩
 ·rw[tC,zd,zd,zz<|pp q n]
 ·rcases hq.prime fu fv h with h|h
  ·exact hu h
  ·exact hv h
theorem Mu.lt{n:Nat}(hq:Ir q)(h:Mu q f n)(g:Mu q f m):¬n<m:=fun ha=>by
 obtain⟨u,fu,e1,hu⟩:=h;obtain⟨v,fv,e2,hv⟩:=g;obtain⟨d,rfl⟩:∃d,m=d+1+n:=⟨m-1-n,by lia⟩;have fp:=hq.fs.pp (n:=n);refine hu ⟨v*pp q d,fv.mul<|hq.fs.pp d,?_⟩;refine rn fu ((fv.mul<|hq.fs.pp d).mul hq.fs) (hq.fs.pp n) (hq.pm.pp n).nz ?_;rw[<-e1,e2,tC,zd<|v*pp q d,zd v];show v*(pp q d*q*pp q n)=_;rw[zd<|pp q d]
theorem Mu.uniq{n:Nat}(hq:Ir q)(h:Mu q f n)(g:Mu q f m):n=m:=by
 have:=h.lt hq g;have:=g.lt hq h;lia
theorem Mu.zero(ff:Fs f)(h:¬Zd q f):Mu q f 0:=⟨f,ff,(zO f).symm,h⟩
theorem Mu.dvd{n:Nat}(hq:Fs q)(h:Mu q f n)(hn:1<=n):Zd q f:=by
 obtain⟨u,fu,rfl,_⟩:=h;obtain⟨k,rfl⟩:∃k,n=k+1:=⟨n-1,by lia⟩;exact⟨u*pp q k,fu.mul<|hq.pp k,by rw[zd];rfl⟩
theorem Mu.self(hq:Ir q)(n:Nat):Mu q (pp q n) n:=⟨pc 1,Fs.pc 1,(zt _).symm,hq.one⟩
theorem Ir.pp{q r:Pz}(hq:Ir q)(hr:Fs r):∀n,Zd q (pp r n)->Zd q r
 |0,h=>absurd h hq.one
 |n+1,h=>by
  rcases hq.prime (hr.pp n) hr h with h|h
  ·exact Ir.pp hq hr n h
  ·exact h
theorem Ir.prz{q:Pz}(hq:Ir q):∀{l:List Pz},(∀r∈l,Fs r)->Zd q (prZ l)->∃r,r∈l/\Zd q r
 |[],_,h=>absurd h hq.one
 |r::l,hl,h=>by
  rcases hq.prime (hl r<|FS) (Fs.prZ fun x hx=>hl x<|UV _ hx) h with h|h
  ·exact⟨r,FS,h⟩
  ·obtain⟨x,hx,h⟩:=Ir.prz hq (fun x hx=>hl x<|UV _ hx) h;exact⟨x,UV _ hx,h⟩
def prM:List (Pz×Nat)->Pz
 |[]=>pc 1
 |x::r=>pp x.1 x.2*prM r
theorem CM:∀{l:List (Pz×Nat)},(∀x∈l,Fs x.1)->Fs (prM l)
 |[],_=>Fs.pc 1
 |x::r,h=>((h x<|FS).pp _).mul<|CM fun y hy=>h y<|UV _ hy
theorem Tl{q:Pz}(hq:Ir q)(pq:Po q):∀{l:List (Pz×Nat)},(∀x∈l,Ir x.1/\Po x.1/\q≠x.1)->¬Zd q (prM l)
 |[],_,h=>hq.one h
 |x::r,hl,h=>by
  obtain⟨h1,h2,h3⟩:=hl x<|FS;have hr:=fun y hy=>hl y<|UV _ hy;rcases hq.prime (h1.fs.pp _) (CM fun y hy=>(hr y hy).1.fs) h with h|h
  ·exact h3<|hq.eq h1 pq h2<|hq.pp h1.fs _ h
  ·exact Tl hq pq hr h
theorem mus{f:Pz}(ff:Fs f)(nf:Nz f):∀{l:List (Pz×Nat)},l.Pairwise (fun x y=>x.1≠y.1)->(∀x∈l,Ir x.1/\Po x.1/\Mu x.1 f x.2)->∃u,Fs u/\f=u*prM l/\∀x∈l,¬Zd x.1 u
 |[],_,_=>⟨f,ff,(zO f).symm,fun _ h=>absurd h IR⟩
 |x::r,hp,h=>by
  obtain⟨h1,h2,h3⟩:=h x<|FS;rw[xbJ]at hp;have hr:=fun y hy=>h y<|UV _ hy;obtain⟨u,fu,e,hu⟩:=mus ff nf hp.2 hr;have nu:Nz u:=xae fun hn=>by
   obtain⟨k,hk⟩:=nf;rw[e,xt,yG fun k _=>by rw[Nz.not hn k,xaS]]at hk;exact hk rfl
  obtain⟨m,hm⟩:=Tp.ex fu nu;obtain⟨n,_,hn⟩:=Mu.ex h1 m hm;have h4:=Mu.zero (CM fun y hy=>(hr y hy).1.fs)<|Tl h1 h2 fun y hy=>⟨(hr y hy).1,(hr y hy).2.1,hp.1 y hy⟩;have h5:=hn.mul h1 h4;rw[<-e]at h5;obtain rfl:n=x.2:=(h5.uniq h1 h3);obtain⟨w,fw,e2,hw⟩:=hn;refine⟨w,fw,?_,fun y hy=> ?_⟩
  ·show f=w*(pp x.1 x.2*prM r);rw[<-zd,<-e2,e]
  ·rcases xac.1 hy with rfl|hy
   ·exact hw
   ·exact fun hz=>hu y hy<|by rw[e2,zj];exact hz.mul _<|h1.fs.pp _
theorem zcb:∀{l:List (Pz×Nat)},(∀x∈l,Pm x.1)->Pm (prM l)
 |[],_=>Pm.one
 |x::r,h=>((h x<|FS).pp _).mul<|zcb fun y hy=>h y<|UV _ hy
theorem zbu:∀{l:List (Pz×Nat)},(∀x∈l,Po x.1)->Po (prM l)
 |[],_=>Po.one
 |x::r,h=>((h x<|FS).pp _).mul<|zbu fun y hy=>h y<|UV _ hy
theorem zeY(ff:Fs f)(nf:Nz f){l:List (Pz×Nat)}(hp:l.Pairwise fun x y=>x.1≠y.1)(h:∀x∈l,Ir x.1/\Po x.1/\Mu x.1 f x.2)(ha:∀q,Ir q->Po q->Zd q f->∃x∈l,x.1=q):∃c,c≠0/\f=pc c*prM l:=by
 obtain⟨u,fu,e,hu⟩:=mus ff nf hp h;have nu:Nz u:=xae fun hn=>by
  obtain⟨k,hk⟩:=nf;rw[e,xt,yG fun k _=>by rw[Nz.not hn k,xaS]]at hk;exact hk rfl
 obtain⟨c,g,hc,fg,hg,rfl⟩:=Pm.ex fu nu;obtain⟨m,hm⟩:=Tp.ex fg hg.nz;by_cases h1:1<=m
 ·obtain⟨q,q1,q2,q3⟩:=Ir.ex m (xab m) hm hg h1;have q4:Zd q (pc (c:Int)*g):=q3.mul _<|Fs.pc _;obtain⟨x,hx,rfl⟩:=ha q q1 q2 (by rw[e,zj];exact q4.mul _<|CM fun y hy=>(h y hy).1.fs);exact absurd q4<|hu x hx
 ·obtain⟨d,rfl⟩:=((Kz.tp hm).2<|by lia).ex;refine⟨c*d,xdw (by lia) ?_,by rw[e,qZ]⟩;rintro rfl;have:=tD hg;lia
def nQ(f g:Nat->Int):Nat->Int
 |0=>0
 |n+1=>if f n=g n then nQ f g n else if f n<g n then-1 else 1
theorem H8(f g:Nat->Int):∀n,nQ g f n= -nQ f g n
 |0=>rfl
 |n+1=>by
  unfold nQ;by_cases h:f n=g n
  ·rw[iq h,iq h.symm];exact H8 f g n
  ·rw[ir h,ir<|fun e=>h e.symm];by_cases h2:f n<g n
   ·rw[iq h2,zy];rfl
   ·rw[ir h2,zN]
theorem HZ(f g:Nat->Int):∀n,nQ f g n=0->∀k,k<n->f k=g k
 |0,_,k,h=>absurd h<|xbp _
 |n+1,h,k,hk=>by
  unfold nQ at h;by_cases h1:f n=g n
  ·rw[iq h1]at h;by_cases e:k=n
   ·rw[e,h1]
   ·exact HZ f g n h k<|by lia
  ·rw[ir h1]at h;split at h<;>exact absurd h<|by decide
theorem Be(f g h:Nat->Int):∀n,nQ f g n<=0->nQ g h n<=0->nQ f h n<=0
 |0,_,_=>xeY 0
 |n+1,h1,h2=>by
  unfold nQ at h1 h2⊢;by_cases e1:f n=g n
  ·rw[iq e1]at h1;by_cases e2:g n=h n
   ·rw[iq e2]at h2;rw[iq<|e1.trans e2];exact Be f g h n h1 h2
   ·rw[ir e2]at h2;rw[ir (fun e=>e2<|by lia),e1];exact h2
  ·rw[ir e1]at h1;have h3:f n<g n:=xae fun hn=>by rw[ir hn]at h1;lia
   by_cases e2:g n=h n
   ·rw[ir (fun e=>e1<|by lia),zN];lia
   ·rw[ir e2]at h2;have h4:g n<h n:=xae fun hn=>by rw[ir hn]at h2;lia
    rw[zy,zN];lia
def vF(a b:List Zr):Int:=if a.length=b.length then nQ (cf a) (cf b) a.length else if a.length<b.length then-1 else 1
theorem vK(a b:List Zr):vF b a= -vF a b:=by grind [vF,H8]
theorem o8{c:List Zr}(h1:vF a b<=0)(h2:vF b c<=0):vF a c<=0:=by
 unfold vF at h1 h2⊢;by_cases e1:a.length=b.length
 ·rw[iq e1]at h1;by_cases e2:b.length=c.length
  ·rw[iq e2,<-e1]at h2;rw[iq<|e1.trans e2];exact Be _ _ _ _ h1 h2
  ·rw[ir e2]at h2;rw[ir (fun e=>e2<|by lia),e1];exact h2
 ·rw[ir e1]at h1;have h3:a.length<b.length:=xae fun hn=>by rw[ir hn]at h1;lia
  by_cases e2:b.length=c.length
  ·rw[ir (fun e=>e1<|by lia),zN];lia
  ·rw[ir e2]at h2;have h4:b.length<c.length:=xae fun hn=>by rw[ir hn]at h2;lia
   rw[zy,zN];lia
theorem Qa(ha:yf a=a)(hb:yf b=b)(h:∀k,cf a k=cf b k):a=b:=by
 rw[<-ha,<-hb];exact aw (fun k hk=>ye hk) (fun k hk=>ye hk) h
theorem iu(ha:yf a=a)(hb:yf b=b)(h:vF a b=0):a=b:=by
 unfold vF at h;by_cases e:a.length=b.length
 ·rw[iq e]at h;have h1:=HZ _ _ _ h;refine Qa ha hb fun k=> ?_;by_cases hk:k<a.length
  ·exact h1 k hk
  ·rw[ye (by lia),ye<|by lia]
 ·rw[ir e]at h;split at h<;>exact absurd h<|by decide
theorem pW{α:Type}{R:α->α->Prop}(ha:∀x y,R x y->¬R y x):∀{l m:List α},l.Pairwise R->m.Pairwise R->(∀x,x∈l↔x∈m)->l=m
 |[],[],_,_,_=>rfl
 |[],y::m,_,_,h=>absurd ((h y).2<|FS) IR
 |x::l,[],_,_,h=>absurd ((h x).1<|FS) IR
 |x::l,y::m,hl,hm,h=>by
  rw[xbJ]at hl hm;have e:x=y:=by
   rcases xac.1 ((h x).1<|FS)with e|e
   ·exact e
   ·rcases xac.1 ((h y).2<|FS)with e2|e2
    ·exact e2.symm
    ·exact absurd (hl.1 y e2)<|ha _ _<|hm.1 x e
  subst e;rw[pW ha hl.2 hm.2 fun z=>⟨fun hz=>by
   rcases xac.1 ((h z).1<|UV _ hz)with e|e
   ·subst e;exact absurd (hl.1 z hz)<|ha _ _<|hl.1 z hz
   ·exact e,fun hz=>by
   rcases xac.1 ((h z).2<|UV _ hz)with e|e
   ·subst e;exact absurd (hm.1 z hz)<|ha _ _<|hm.1 z hz
   ·exact e⟩]
structure FL(f:Pz)(l:List (List Zr×Int)):Prop where
 el:∀x∈l,yf x.1=x.1/\Ir (cf x.1)/\Po (cf x.1)/\1<=x.2/\Mu (cf x.1) f x.2.toNat
 al:∀q,Ir q->Po q->Zd q f->∃x∈l,cf x.1=q
 so:l.Pairwise fun x y=>vF x.1 y.1<0
theorem FL.sub{m:List (List Zr×Int)}(h:FL f l)(g:FL f m){x:List Zr×Int}(hx:x∈l):x∈m:=by
 obtain⟨h1,h2,h3,h4,h5⟩:=h.el x hx;obtain⟨y,hy,e⟩:=g.al _ h2 h3 (h5.dvd h2.fs<|by lia);obtain⟨g1,g2,g3,g4,g5⟩:=g.el y hy;have e1:y.1=x.1:=Qa g1 h1 fun k=>congrFun e k;rw[e1]at g5;have e2:=g5.uniq h2 h5;have:y=x:=xeS e1 (by lia);rw[<-this];exact hy
theorem FL.uniq{m:List (List Zr×Int)}(h:FL f l)(g:FL f m):l=m:=
 pW (fun x y h1 h2=>by rw[vK]at h2;lia) h.so g.so fun x=>⟨fun hx=>h.sub g hx,fun hx=>g.sub h hx⟩
end
section
variable{a b k:Nat}{p:Int}{f u v g q:Pz}
theorem zgg{A B:Pz}{d e:Nat}(hA:Mn A d)(hB:Mn B e):Mn (A*B) (d+e):=
 ⟨by rw[VA hA.2 hB.2,hA.1,hB.1];rfl,fun k hk=>vL (n:=d+1) (m:=e+1) (fun j hj=>hA.2 j<|by lia)<|fun j hj=>hB.2 j<|by lia⟩
theorem NL:∀{l:List Pz},(∀A∈l,∃d,Mn A d)->∃d,Mn (prZ l) d
 |[],_=>⟨0,rfl,fun k hk=>by show pc 1 k=0;unfold pc;rw[zy]⟩
 |A::l,h=>by
  obtain⟨d,hd⟩:=h A<|FS;obtain⟨e,he⟩:=NL fun B hB=>h B<|UV _ hB;exact⟨d+e,zgg hd he⟩
theorem cK{α:Type}(F:α->Pz)(P:α->Bool):∀l:List α,prZ (l.map F)=prZ ((l.filter P).map F)*prZ ((l.filter fun x=> !P x).map F)
 |[]=>(zO _).symm
 |x::l=>by
  have ih:=cK F P l
  cases h:P x with
  |true=>
   rw[xfi h,xfj<|by rw[h];decide];show F x*_=F x*_*_;rw[ih,zd]
  |false=>
   rw[xfj (by rw[h];decide),xfi<|by rw[h];rfl];show F x*_=_*(F x*_);rw[ih,zz]
theorem L7{P:Int}(hp:wz P=true){a b:Pz}{c:Int}(fa:Fs a)(fb:Fs b)(h:Cg P (a*b) (pc c))(hc:¬P∣c):∃x,Cg P a (pc x):=by
 obtain⟨p1,p2⟩:=zn hp;obtain⟨Q,rfl⟩:=xaA (show 0<=P by lia);have he:=Ys hp;rw[xaK]at he;have red:∀f:Pz,Fs f->¬Cg (Q:Int) f (pc 0)->∃g n,Tp g n/\Cg (Q:Int) g f/\¬(Q:Int)∣g n:=fun f ff hn=>by
  have f2:Fs (fun k=>f k%(Q:Int)):=by
   obtain⟨n,hn⟩:=ff;exact⟨n,fun k hk=>by show f k%_=0;rw[hn k hk,xag]⟩
  obtain⟨n,h1⟩:=Tp.ex f2 (xae fun hz=>hn fun k=>by
   have:=Nz.not hz k;rw[zL,xag];exact this)
  exact⟨_,n,h1,fun k=>xaF _ _,fun hd=>h1.1 (by
   show f n%_=0;have:=xaB hd;rwa[xaF]at this)⟩
 have ha:¬Cg (Q:Int) a (pc 0):=fun e=>hc (by
  have:=(h.symm.trans<|e.mul_zero_r b).dvd 0;unfold pc at this;rwa[iq rfl]at this)
 have hb:¬Cg (Q:Int) b (pc 0):=fun e=>hc (by
  have:=(h.symm.trans<|e.mul_zero_l a).dvd 0;unfold pc at this;rwa[iq rfl]at this)
 obtain⟨u,i,u1,u2,u3⟩:=red a fa ha;obtain⟨v,j,v1,v2,v3⟩:=red b fb hb;have h1:=(u2.mul v2).trans h;by_cases hf:i=0
 ·subst hf;obtain⟨x,rfl⟩:=((Kz.tp u1).2 rfl).ex;exact⟨x,u2.symm⟩
 ·exfalso;have h2:=h1<|i+j;rw[VA u1.2 v1.2,show pc c (i+j)=0 from zy,xag]at h2;rcases Ew (by lia) he (xaJ h2)with h3|h3
  ·exact u3 h3
  ·exact v3 h3
theorem fH{p a:Int}(hp:wz p=true)(ha:a%p≠0):∀k,∃w,p^k∣w*a-1
 |0=>⟨0,by rw[xbs];exact Int.one_dvd _⟩
 |k+1=>by
  obtain⟨p1,p2⟩:=zn hp;by_cases hk:k=0
  ·subst hk;obtain⟨Q,rfl⟩:=xaA (show 0<=p by lia);obtain⟨w,hw⟩:=DI hp (d:=a) fun h=>ha<|xaB h;exact⟨w,by rw[xbl,xbs,xca];exact hw⟩
  ·obtain⟨w,hw⟩:=fH hp ha k;refine⟨w*(2-w*a),?_⟩;have e:w*(2-w*a)*a-1= -((w*a-1)*(w*a-1)):=by
    generalize hx:w*a=x;have:w*(2-x)*a=x*(2-x):=by rw[xbK,xbm (2-x) a,<-xbK,hx]
    rw[this];grind
   rw[e];refine xfQ.2<|xbG (aH (i:=k+1) (j:=k+k)) ?_;rw[Int.pow_add];exact xfP hw hw
abbrev Lx:=List Zr×List Int
def pu(xs:List Lx):Pz:=prZ<|xs.map fun x=>(cf x.1:Pz)
def pl(xs:List Lx):Pz:=prZ<|xs.map fun x=>(ci x.2:Pz)
theorem zgj(xs:List Lx):Fs (pu xs):=Fs.prZ fun f hf=>by
 obtain⟨x,_,rfl⟩:=xal.1 hf;exact Fs.cf _
theorem zjq(xs:List Lx):Fs (pl xs):=Fs.prZ fun f hf=>by
 obtain⟨x,_,rfl⟩:=xal.1 hf;exact Fs.ci _
structure Lc(p:Int)(k:Nat)(f:Pz)(n:Nat)(xs:List Lx):Prop where
 hp:wz p=true
 k1:1<=k
 el:∀x∈xs,Up p k x.1 x.2/\X0 p x.2/\x.2.length<=66
 pw:xs.Pairwise fun a b=>vD p (ci a.2)<|ci b.2
 tp:Tp f n
 nb:n<=64
 ps:0<f n
 lc:f n%p≠0
 pm:Pm f
 cg:Cg (p^k) f (pc (f n)*pu xs)
theorem zkn{x:Lx}(h:Up p k x.1 x.2/\X0 p x.2/\x.2.length<=66):Mn (cf x.1) (x.2.length-1):=by
 obtain⟨h1,h2,_⟩:=h;have h3:=h1.top;have h4:=h2.l1;rw[h1.len]at h3;exact⟨h3,fun j hj=>ye<|by rw[h1.len];lia⟩
theorem GW{p:Int}{k:Nat}:∀{xs:List Lx},(∀x∈xs,Up p k x.1 x.2/\X0 p x.2/\x.2.length<=66)->Cg p (pu xs) (pl xs)
 |[],_=>Cg.rfl
 |x::xs,h=>(h x<|FS).1.cg.mul<|GW fun y hy=>h y<|UV _ hy
theorem zj5{xs:List Lx}(h:∀x∈xs,Up p k x.1 x.2/\X0 p x.2/\x.2.length<=66):∃d,Mn (pu xs) d:=NL fun A hA=>by
 obtain⟨x,hx,rfl⟩:=xal.1 hA;exact⟨_,zkn<|h x hx⟩
theorem zb2{xs:List Lx}(h:∀x∈xs,Up p k x.1 x.2/\X0 p x.2/\x.2.length<=66):∃d,Mn (pl xs) d:=NL fun A hA=>by
 obtain⟨x,hx,rfl⟩:=xal.1 hA;exact⟨_,(h x hx).2.1.mn.mn⟩
theorem Lc.lcp{n:Nat}{xs:List Lx}(h:Lc p k f n xs):Cg p f (pc (f n)*pl xs):=
 (h.cg.down<|jd h.k1).trans (Cg.rfl.mul<|GW h.el)
theorem Lc.sf{n:Nat}{xs:List Lx}(h:Lc p k f n xs):∃(m:List Int) (w:Int),Sf p m (xs.map (·.2))/\Cg p (ci m) (pc w*f):=by
 obtain⟨p1,p2⟩:=zn h.hp;obtain⟨w,hw⟩:=fH h.hp h.lc 1;rw[xbl,xbs,xca]at hw;have hz:∀k,n+1<=k->(fun k=>(w*f k)%p) k=0:=fun k hk=>by
  show(w*f k)%p=0;rw[h.tp.2 k (by lia),xau,xag]
 have hb:(w*f n)%p=1:=by
  have:=(xcF (w*f n)<|xdP p);have h2:(w*f n)%p=1%p:=xaE.2<|xaB hw;rw[h2,xaC (by decide)<|by lia]
 have ha:=sx hz;have hc:=me (n+1)<|fun k=>(w*f k)%p;have hf:=BJ (n+1)<|fun k=>(w*f k)%p;obtain⟨m,hm⟩:∃m,m=nl (n+1) (fun k=>(w*f k)%p):=⟨_,rfl⟩;rw[<-hm]at ha hc hf;have hd:m.length=n+1:=by
  by_cases e:m.length=n+1
  ·exact e
  ·have:=ha n;rw[zM<|by lia]at this;have h3:(w*f n)%p=0:=this.symm;lia
 have he:Cg p (ci m) (pc w*f):=fun k=>by rw[ha k,zE];exact xaF _ _
 refine⟨m,w,⟨h.hp,⟨⟨fun k=>by rw[ha k];exact(yc).1,fun k=>by rw[ha k];exact(yc).2,hc⟩,by lia,by rw[ha];show(w*f (m.length-1))%p=1;rw[hd];exact hb⟩,by have:=h.nb;lia,fun u hu=> ?_,?_,?_⟩,he⟩
 ·obtain⟨x,hx,rfl⟩:=xal.1 hu;obtain⟨_,h2,h3⟩:=h.el x hx;exact⟨h2,by lia⟩
 ·exact xdq.2 h.pw
 ·refine he.trans<|(Cg.rfl.mul h.lcp).trans ?_;rw[<-zd,qZ,xcT];refine Cg.trans (Cg.mul (f':=pc 1) (fun j=> ?_) Cg.rfl)<|Cg.of<|zt _;unfold pc;split
  ·rw[hb];exact(xaC (by decide)<|by lia).symm
  ·rfl
noncomputable def own(p:Int)(u:Pz)(xs:List Lx):List Lx:=by
 classical exact xs.filter fun x=>decide<|Di p (ci x.2) u
noncomputable def Fv(p:Int)(u:Pz)(xs:List Lx):List Lx:=by
 classical exact xs.filter fun x=> !decide (Di p (ci x.2) u)
theorem JL{xs:List Lx}{x:Lx}:x∈own p u xs↔x∈xs/\Di p (ci x.2) u:=by grind [own]
theorem NW(p:Int)(u:Pz)(xs:List Lx):pu xs=pu (own p u xs)*pu (Fv p u xs)/\pl xs=pl (own p u xs)*pl (Fv p u xs):=by
 classical
 exact⟨cK _ _ xs,cK _ _ xs⟩
theorem Lc.or{n:Nat}{xs:List Lx}(h:Lc p k f n xs)(fu:Fs u)(fv:Fs v)(ub:∀j,b<=j->u j=0)(hb:b<=290)(e:f=u*v){x:Lx}(hx:x∈xs):(Di p (ci x.2) u\/Di p (ci x.2) v)/\¬(Di p (ci x.2) u/\Di p (ci x.2) v):=by
 obtain⟨m,w,hS,hm⟩:=h.sf;obtain⟨h1,h2,h3⟩:=h.el x hx;have ha:x.2∈xs.map (·.2):=xbL hx;constructor
 ·rcases h2.or' h.hp (by lia) ub hb with hd|hc
  ·exact .inl hd
  ·right;have hf:Di p (ci x.2) f:=by
    refine Di.cg ?_ h.lcp.symm;exact(Js (fun y hy=>by obtain⟨z,_,rfl⟩:=xal.1 hy;exact Fs.ci _)<|xbL (f:=fun x:Lx=>(ci x.2:Pz)) hx).mul _<|Fs.pc _
   rw[e]at hf;exact Di.euclid fv hc hf
 ·rintro⟨d1,d2⟩;exact hS.apart fu fv ⟨pc w,Fs.pc w,by rw[<-e];exact hm⟩ ha d1 d2
theorem Lc.oth_own{n:Nat}{xs:List Lx}(h:Lc p k f n xs)(fu:Fs u)(fv:Fs v)(ub:∀j,b<=j->u j=0)(hb:b<=290)(e:f=u*v):Fv p u xs=own p v xs:=by
 classical
 unfold Fv own;refine List.filter_congr fun x hx=> ?_;obtain⟨h1,h2⟩:=h.or fu fv ub hb e hx;by_cases hd:Di p (ci x.2) u
 ·rw[decide_eq_true hd,decide_eq_false fun hv=>h2 ⟨hd,hv⟩];rfl
 ·rw[decide_eq_false hd,decide_eq_true<|h1.resolve_left hd];rfl
theorem Lc.pcop{n:Nat}{xs:List Lx}(h:Lc p k f n xs):(own p u xs).Pairwise (fun a b=>vD p (ci a.2)<|ci b.2):=by
 classical
 unfold own;exact h.pw.sublist List.filter_sublist
theorem Lc.odv{n:Nat}{xs:List Lx}(h:Lc p k f n xs)(fu:Fs u):Di p (pl<|own p u xs) u:=by
 refine Di.prz fu (fun y hy=>by obtain⟨z,_,rfl⟩:=xal.1 hy;exact Fs.ci _) (xdq.2 h.pcop) fun y hy=> ?_;obtain⟨z,hz,rfl⟩:=xal.1 hy;exact(JL.1 hz).2
theorem rV{n:Nat}{xs:List Lx}(h:Lc p k f n xs)(u:Pz):∀x∈own p u xs,Up p k x.1 x.2/\X0 p x.2/\x.2.length<=66:=fun x hx=>h.el x (JL.1 hx).1
theorem Lc.loc{n:Nat}{xs:List Lx}(h:Lc p k f n xs)(hu:Tp u a)(hv:Tp v b)(e:f=u*v):Cg p u (pc (u a)*pl (own p u xs))/\Mn (pl<|own p u xs) a:=by
 obtain⟨p1,p2⟩:=zn h.hp;have fu:=hu.fs;have fv:=hv.fs;have he:a+b=n:=by
  have:=hu.mul hv;rw[<-e]at this;exact this.uniq h.tp
 have hf:f n=u a*v b:=by rw[<-he,e,VA hu.2 hv.2]
 have ho:Fv p u xs=own p v xs:=h.oth_own fu fv (b:=a+1) (fun j hj=>hu.2 j<|by lia) (by have:=h.nb;lia) e;obtain⟨α,fα,h1⟩:=h.odv fu;obtain⟨β,fβ,h2⟩:=h.odv fv;obtain⟨d0,hg⟩:=zb2 h.el;have ha:=(NW p u xs).2;rw[ho]at ha;have h3:Cg p ((α*β-pc (f n))*pl xs) (pc 0):=by
  rw[wO];refine Cg.iff_sub.1<|Cg.trans ?_ h.lcp;rw[e];refine Cg.trans (Cg.of ?_) (h1.mul h2).symm;rw[ha,zd α,zd α,zz (pl<|own p u xs) β]
 have h4:=hg.zero p1 ((fα.mul fβ).subt<|Fs.pc _) fun j _=>by rw[h3 j,zL,xag]
 have hb:¬p∣f n:=fun hd=>h.lc<|xaB hd;obtain⟨x,hx⟩:=L7 h.hp fα fβ (Cg.iff_sub.2 h4) hb;have h5:Cg p u (pc x*pl (own p u xs)):=h1.trans<|hx.mul Cg.rfl;obtain⟨d,hd⟩:=zb2<|rV h u;have hc:¬p∣u a:=fun hd=>hb (by rw[hf];exact xbG hd<|xco _ _);have t1:=h5 a;have t2:=h5 d;rw[zE]at t1 t2;rw[hd.1,xck]at t2;have hi:a=d:=by
  by_cases c1:a<d
  ·exfalso;rw[hu.2 d c1,xag]at t2;refine hc<|xaJ ?_;rw[t1,xbr,<-t2,xaS,xag]
  ·by_cases c2:d<a
   ·exfalso;rw[hd.2 a c2,xau,xag]at t1;exact hc<|xaJ t1
   ·lia
 subst hi;refine⟨h5.trans<|Cg.mul (fun j=> ?_) Cg.rfl,hd⟩;unfold pc;split
 ·exact t2.symm
 ·rfl
theorem Lc.up{n:Nat}{xs:List Lx}(h:Lc p k f n xs)(hu:Tp u a)(hv:Tp v b)(e:f=u*v):Cg (p^k) u (pc (u a)*pu (own p u xs)):=by
 obtain⟨p1,p2⟩:=zn h.hp;have fu:=hu.fs;have fv:=hv.fs;have hp:a+b=n:=by
  have:=hu.mul hv;rw[<-e]at this;exact this.uniq h.tp
 have hb:f n=u a*v b:=by rw[<-hp,e,VA hu.2 hv.2]
 have hl:¬p∣f n:=fun hd=>h.lc<|xaB hd;have hq:u a%p≠0:=fun hd=>hl (by rw[hb];exact xbG (xaJ hd)<|xco _ _);have hr:v b%p≠0:=fun hd=>hl (by rw[hb];exact xbG (xaJ hd)<|xcQ _ _);have ho:Fv p u xs=own p v xs:=h.oth_own fu fv (b:=a+1) (fun j hj=>hu.2 j<|by lia) (by have:=h.nb;lia) e;obtain⟨l1,m1⟩:=h.loc hu hv e;obtain⟨l2,m2⟩:=h.loc hv hu (by rw[e,zj]);obtain⟨w,hw⟩:=fH h.hp hq k;obtain⟨z,hz⟩:=fH h.hp hr k;have hk:=jd (p:=p) h.k1;have one:∀{M c d:Int},M∣c*d-1->Cg M (pc c*pc d) (pc 1):=fun{M c d} hd j=>by
  rw[qZ];unfold pc;split
  ·exact xaE.2<|xaB hd
  ·rfl
 have hA:∃A:Pz,Mn A a/\Fs A/\Cg (p^k) A (pc w*u):=by
  refine⟨fun j=>if j=a then 1 else w*u j,⟨iq rfl,fun j hj=> ?_⟩,⟨a+1,fun j hj=> ?_⟩,fun j=> ?_⟩
  ·show(if j=a then(1:Int)else w*u j)=0;rw[zy,hu.2 j hj,xau]
  ·show(if j=a then(1:Int)else w*u j)=0;rw[zy,hu.2 j (by lia),xau]
  ·show(if j=a then(1:Int)else w*u j)%_=_;rw[zE];by_cases c:j=a
   ·rw[iq c,c];exact(xaE.2<|xaB hw).symm
   ·rw[ir c]
 obtain⟨A,mA,fA,cA⟩:=hA;obtain⟨dA,he⟩:=zj5<|rV h u;have hf:=GW<|rV h u;have hs:=GW<|rV h v;have cu:Cg p A (pl<|own p u xs):=by
  refine(cA.down hk).trans<|(Cg.rfl.mul l1).trans ?_;rw[<-zd];exact(Cg.mul (one<|xbG hk hw) Cg.rfl).trans<|Cg.of<|zt _
 have cv:Cg p (pc z*v) (pl<|own p v xs):=by
  refine(Cg.rfl.mul l2).trans ?_;rw[<-zd];exact(Cg.mul (one<|xbG hk hz) Cg.rfl).trans<|Cg.of<|zt _
 have mu:Mn (pu<|own p u xs) a:=by
  have t1:=(hf.trans cu.symm) a;have t2:=(hf.trans cu.symm) dA;rw[mA.1]at t1;rw[he.1]at t2;have ha:(1:Int)%p=1:=xaC (by decide) (by lia);have:dA=a:=by
   by_cases c1:dA<a
   ·rw[he.2 a c1,xag,ha]at t1;cases t1
   ·by_cases c2:a<dA
    ·rw[mA.2 dA c2,xag,ha]at t2;cases t2
    ·lia
  rw[<-this];exact he
 have hm:vD p (pl<|own p u xs) (pl<|own p v xs):=by
  have:=Bh (p:=p) (A:=(own p u xs).map (·.2)) (B:=(own p v xs).map (·.2)) fun c hc d hd=>by
   obtain⟨x,hx,rfl⟩:=xal.1 hc;obtain⟨y,hy,rfl⟩:=xal.1 hd;have hg:=JL.1 hx;have hn:=JL.1 hy;obtain⟨_,i1,i2⟩:=h.el x hg.1;obtain⟨_,i3,i4⟩:=h.el y hn.1;refine i1.cop h.hp i3 (by lia) (by lia) fun ee=> ?_;have:=(h.or fu fv (b:=a+1) (fun j hj=>hu.2 j<|by lia) (by have:=h.nb;lia) e hg.1).2;exact this ⟨hg.2,by rw[ee];exact hn.2⟩
  rw[xcT,xcT]at this;exact this
 have hi:Cg (p^k) (A*(pc z*v)) (pu (own p u xs)*pu (own p v xs)):=by
  have e1:=(NW p u xs).1;rw[ho]at e1;rw[<-e1];refine(cA.mul Cg.rfl).trans ?_;have e2:pc w*u*(pc z*v)=pc w*(pc z*f):=by rw[e,zd,zz u (pc z) v]
  rw[e2];refine(Cg.mul Cg.rfl<|Cg.mul Cg.rfl h.cg).trans ?_;have e3:pc w*(pc z*(pc (f n)*pu xs))=(pc w*pc (u a))*((pc z*pc (v b))*pu xs):=by
   rw[hb,<-zd,<-zd,<-zd,qZ,qZ,qZ,qZ,qZ];congr 2;grind
  rw[e3];exact(Cg.mul (one hw)<|(Cg.mul (one hz) Cg.rfl).trans<|Cg.of<|zt _).trans<|Cg.of<|zt _
 obtain⟨r1,_⟩:=HK p1 mA mu fA (zgj _) ((Fs.pc z).mul fv) (zgj _) (hm.congr cu.symm cv.symm) (cu.trans hf.symm) (cv.trans hs.symm) k hi;refine Cg.trans ?_<|Cg.rfl.mul r1;refine Cg.trans ?_<|Cg.rfl.mul cA.symm;rw[<-zd];refine Cg.symm<|(Cg.mul (one (d:=w) ?_) Cg.rfl).trans<|Cg.of<|zt _;rw[xbm];exact hw
theorem Lc.step{n:Nat}{xs:List Lx}(h:Lc p k f n xs)(hg:Tp g a)(hq:Tp q b)(pg:0<g a)(e:f=q*g):Lc p k q b (Fv p g xs):=by
 have e2:f=g*q:=by rw[e,zj]
 have hc:a+b=n:=by
  have:=hg.mul hq;rw[<-e2]at this;exact this.uniq h.tp
 have ha:f n=g a*q b:=by rw[<-hc,e2,VA hg.2 hq.2]
 have ho:Fv p g xs=own p q xs:=h.oth_own hg.fs hq.fs (b:=a+1) (fun j hj=>hg.2 j<|by lia) (by have:=h.nb;lia) e2;have hb:=h.ps;rw[ho];refine⟨h.hp,h.k1,rV h q,h.pcop,hq,by have:=h.nb;lia,?_,fun hd=> ?_,?_,h.up hq hg e⟩
 ·rw[ha]at hb;exact Int.pos_of_mul_pos_right hb pg
 ·exact h.lc<|by rw[ha];exact xaB<|xbG (xaJ hd)<|xcQ _ _
 ·have:=h.pm;rw[e]at this;exact this.left
theorem Lc.pick{n:Nat}{xs S:List Lx}(h:Lc p k f n xs)(hS:∀x∈S,x∈xs)(hg:Tp g a)(hq:Tp q b)(e:f=g*q){γ:Int}(hc:Cg p (pc γ*g) (pc (f n)*pl S)){x:Lx}(hx:x∈xs):Di p (ci x.2) g↔x∈S:=by
 obtain⟨p1,p2⟩:=zn h.hp;have hb:¬p∣f n:=fun hd=>h.lc<|xaB hd;have elS:=fun y hy=>h.el y<|hS y hy;obtain⟨d,hd⟩:=zb2 elS;have hγ:¬p∣γ:=fun hf=>hb (by
  have t:=hc d;rw[zE,zE,hd.1,xck]at t;refine xaJ ?_;rw[<-t];exact xaB<|xbG hf<|xco _ _)
 obtain⟨_,i1,i2⟩:=h.el x hx;have unit:∀{c:Int}{y:Pz},¬p∣c->Fs y->Di p (ci x.2) (pc c*y)->Di p (ci x.2) y:=fun{c y} hc fy hd=>by
  rcases i1.or' h.hp (by lia) (f:=pc c) (n:=1) (fun k hk=>by unfold pc;rw[zy]) (by decide)with h1|h1
  ·exact absurd (i1.const p1 h1) hc
  ·exact Di.euclid fy h1 hd
 constructor
 ·intro h1;have h2:Di p (ci x.2) (pl S):=unit hb (zjq S)<|(h1.mul (pc γ)<|Fs.pc γ).cg hc;have h3:=i1.mem h.hp (us:=S.map (·.2)) (by lia) (fun w hw=>by
   obtain⟨y,hy,rfl⟩:=xal.1 hw;obtain⟨_,j1,j2⟩:=elS y hy;exact⟨j1,by lia⟩) (by rw[xcT];exact h2)
  obtain⟨y,hy,e2⟩:=xal.1 h3;have:x=y:=by
   by_cases ne:x=y
   ·exact ne
   ·exfalso;have Wm:=h.pw;have ha:vD p (ci x.2) (ci y.2):=by
     obtain⟨A,B,e3⟩:=xdQ hx;have he:=hS y hy;rw[e3]at he Wm;rw[xdj,xbJ]at Wm;rcases Nm.1 he with h4|h4
     ·exact(Wm.2.2 y h4 x<|FS).symm
     ·rcases xac.1 h4 with h5|h5
      ·exact absurd h5.symm ne
      ·exact Wm.2.1.1 y h5
    rw[e2]at ha;exact i1.self p1 ha
  rw[this];exact hy
 ·intro h1;refine unit hγ hg.fs<|Di.cg ?_ hc.symm;exact(Js (fun y hy=>by obtain⟨z,_,rfl⟩:=xal.1 hy;exact Fs.ci _)<|xbL (f:=fun x:Lx=>(ci x.2:Pz)) h1).mul _<|Fs.pc _
end
section
variable{f u v g q:Pz}{p:Int}{k N:Nat}{xs:List Lx}{a:List Int}
theorem ziX{α:Type}{P Q R:α->Bool}:∀{l:List α},(∀x∈l,P x=true->R x=true)->(∀x∈l,Q x=true->R x=true)->(∀x∈l,¬(P x=true/\Q x=true))->(l.filter P).length+(l.filter Q).length<=(l.filter R).length
 |[],_,_,_=>xab _
 |x::l,h1,h2,h3=>by
  have ih:=ziX (l:=l) (fun y hy=>h1 y<|UV _ hy) (fun y hy=>h2 y<|UV _ hy) fun y hy=>h3 y<|UV _ hy;have a1:=h1 x<|FS;have a2:=h2 x<|FS;have a3:=h3 x<|FS;rw[xdk,xdk,xdk];cases hP:P x<;>cases hQ:Q x<;>cases hR:R x<;>simp only[hP,hQ,hR,if_true,xaq,xak,if_false]at a1 a2 a3⊢<;>first|lia|exact absurd (a1 trivial) id|exact absurd (a2 trivial) id|exact absurd ⟨trivial,trivial⟩ a3
def Ls(p:Int)(f:Pz)(xs:List Lx)(c:Nat):Prop:=∀u v,Fs u->Fs v->f=u*v->¬Kz u->c<=(own p u xs).length
theorem k9(nf:Nz f)(e:f=u*v):Nz u/\Nz v:=by
 obtain⟨k,hk⟩:=nf;rw[e,xt]at hk;exact⟨xae fun hn=>hk (yG fun i _=>by rw[Nz.not hn i,xaS]),xae fun hn=>hk<|yG fun i _=>by rw[Nz.not hn _,xau]⟩
theorem Ls.one{n:Nat}(h:Lc p k f n xs):Ls p f xs 1:=fun u v fu fv e nc=>by
 obtain⟨nu,nv⟩:=k9 h.tp.nz e;obtain⟨a,ha⟩:=Tp.ex fu nu;obtain⟨b,hb⟩:=Tp.ex fv nv;obtain⟨_,hm⟩:=h.loc ha hb e
 cases ho:own p u xs with
 |nil=>
  exfalso;rw[ho]at hm;have h1:=hm.1;refine nc<|(Kz.tp ha).2<|xae fun h0=> ?_;rw[show pl [] a=0 from ir h0]at h1;cases h1
 |cons x r=>exact Nat.succ_le_succ<|xah _
theorem Ls.two{w:Pz}{n:Nat}(h:Lc p k f n xs)(fu:Fs u)(fv:Fs v)(fw:Fs w)(e:f=u*v*w):(own p u xs).length+(own p v xs).length<=(own p (u*v) xs).length:=by
 classical
 obtain⟨n1,nw⟩:=k9 h.tp.nz e;obtain⟨nu,nv⟩:=k9 n1 rfl;obtain⟨a,ha⟩:=Tp.ex fu nu;obtain⟨b,hb⟩:=Tp.ex (fv.mul fw)<|Nz.mul fv fw nv nw;have hc:a+b=n:=by
  have:=ha.mul hb;rw[<-zd,<-e]at this;exact this.uniq h.tp
 unfold own;refine ziX (fun x _ h1=> ?_) (fun x _ h1=> ?_) fun x hx ⟨h1,h2⟩=> ?_
 ·refine decide_eq_true ?_;rw[zj];exact(of_decide_eq_true h1).mul v fv
 ·exact decide_eq_true<|(of_decide_eq_true h1).mul u fu
 ·refine(h.or fu (fv.mul fw) (b:=a+1) (fun j hj=>ha.2 j<|by lia) (by have:=h.nb;lia) (by rw[e,zd]) hx).2 ⟨of_decide_eq_true h1,?_⟩;rw[zj];exact(of_decide_eq_true h2).mul w fw
theorem Ls.ir{n c:Nat}(h:Lc p k f n xs)(hl:Ls p f xs c)(hc:1<=c)(fg:Fs g)(fq:Fs q)(e:f=g*q)(pm:Pm g)(nc:¬Kz g)(hn:(own p g xs).length<2*c):Ir g:=by
 refine⟨fg,pm,nc,fun u v fu fv e2=>xae fun ha=> ?_⟩;have cu:¬Kz u:=fun h=>ha (.inl h);have cv:¬Kz v:=fun h=>ha (.inr h);subst e2;have h1:=hl u (v*q) fu (fv.mul fq) (by rw[e,zd]) cu;have h2:=hl v (u*q) fv (fu.mul fq) (by rw[e,zd,zz]) cv;have h3:=Ls.two h fu fv fq e;lia
theorem Ls.step{n c:Nat}(h:Lc p k f n xs)(hl:Ls p f xs c)(fg:Fs g)(fq:Fs q)(e:f=q*g):Ls p q (Fv p g xs) c:=fun u v fu fv e2 nc=>by
 classical
 subst e2;have h1:=hl u (v*g) fu (fv.mul fg) (by rw[e,zd]) nc;obtain⟨n1,ng⟩:=k9 h.tp.nz e;obtain⟨nu,nv⟩:=k9 n1 rfl;obtain⟨a,ha⟩:=Tp.ex fg ng;obtain⟨b,hb⟩:=Tp.ex fq n1;have hc:b+a=n:=by
  have:=hb.mul ha;rw[<-e]at this;exact this.uniq h.tp
 have:own p u (Fv p g xs)=own p u xs:=by
  unfold own Fv;rw[List.filter_filter];refine List.filter_congr fun x hx=> ?_;by_cases hd:Di p (ci x.2) u
  ·have h2:=(h.or fg fq (b:=a+1) (fun j hj=>ha.2 j<|by lia) (by have:=h.nb;lia) (by rw[e,zj]) hx).2;rw[decide_eq_true hd,decide_eq_false fun hg=>h2 ⟨hg,by rw[zj];exact hd.mul v fv⟩];rfl
  ·rw[decide_eq_false hd];rfl
 rw[this];exact h1
structure mM(N c:Nat)(a:List Int):Prop where
 ln:a.length=c
 lo:∀i,i<c->(i:Int)<=ci a i
 hi:∀i,i<c->ci a i+c<=N+i
 st:∀i,i+1<c->ci a i<ci a (i+1)
def Lt(f g:Nat->Int)(c:Nat):Prop:=∃j,j<c/\f j<g j/\∀k,k<j->f k=g k
theorem rA(f g:Nat->Int)(c:Nat):(∀k,k<c->f k=g k)\/Lt f g c\/Lt g f c:=by
 by_cases h:∃k,k<c/\f k≠g k
 ·obtain⟨j,⟨j1,j2⟩,j3⟩:=zgb h;have je:∀k,k<j->f k=g k:=fun k hk=>xae fun hn=>j3 k hk ⟨by lia,hn⟩;by_cases ha:f j<g j
  ·exact .inr (.inl ⟨j,j1,ha,je⟩)
  ·exact .inr (.inr ⟨j,j1,by lia,fun k hk=>(je k hk).symm⟩)
 ·exact .inl fun k hk=>xae fun hn=>h ⟨k,hk,hn⟩
theorem Lt.asy{f g:Nat->Int}{c:Nat}(h:Lt f g c)(h2:Lt g f c):False:=by
 obtain⟨i,i1,i2,i3⟩:=h;obtain⟨j,j1,j2,j3⟩:=h2;by_cases e:i<j
 ·have:=j3 i e;lia
 ·by_cases e2:j<i
  ·have:=i3 j e2;lia
  ·obtain rfl:i=j:=by lia
   lia
def nxA(c k:Nat)(a:List Int):List Int:=zl c fun i=>if i<k then ci a i else ci a k+1+((i:Int)-k)
theorem mM.up{N c:Nat}{T:List Int}(hT:mM N c T){i:Nat}:∀d,i+d<c->ci T i+d<=ci T (i+d)
 |0,_=>by rw[xbT];lia
 |d+1,h=>by
  have h1:=hT.up (i:=i) d (by lia);have h2:=hT.st (i+d) (by lia);rw[show i+(d+1)=i+d+1 by lia];lia
theorem QE{c:Nat}{i:Nat}(h:i<c:=by lia):ci (nxA c k a) i=if i<k then ci a i else ci a k+1+((i:Int)-k):=jo h
theorem mM.next{c:Nat}(h:mM N c a)(hk:k<c)(h1:ci a k+c<N+k):mM N c (nxA c k a):=by
 refine⟨zK _ _,fun i hi=> ?_,fun i hi=> ?_,fun i hi=> ?_⟩
 ·rw[QE hi];have:=h.lo i hi;have:=h.lo k hk;split<;>lia
 ·rw[QE hi];have:=h.hi i hi;split<;>lia
 ·rw[QE,QE hi];by_cases e:i+1<k
  ·rw[zN,iq e];exact h.st i hi
  ·by_cases e2:i<k
   ·have:=h.st i hi;obtain rfl:k=i+1:=by lia
    rw[zN,zy];lia
   ·rw[ir e2,ir e];lia
theorem zkd{c:Nat}{T:List Int}(hT:mM N c T)(hk:k<c)(ha:∀i,k<i->i<c->ci a i+c=N+i)(h:Lt (ci a) (ci T) c):(∀i,i<c->ci (nxA c k a) i=ci T i)\/Lt (ci<|nxA c k a) (ci T) c:=by
 obtain⟨j,j1,j2,j3⟩:=h;have hb:j<=k:=by
  by_cases e:j<=k
  ·exact e
  ·have:=ha j (by lia) j1;have:=hT.hi j j1;lia
 by_cases e:j<k
 ·exact .inr ⟨j,j1,by rw[QE j1,iq e];exact j2,fun i hi=>by rw[QE,zN];exact j3 i hi⟩
 ·obtain rfl:j=k:=by lia
  rcases rA (ci<|nxA c j a) (ci T) c with h1|h1|h1
  ·exact .inl h1
  ·exact .inr h1
  ·exfalso;obtain⟨i,i1,i2,i3⟩:=h1;rw[QE i1]at i2;by_cases e2:i<j
   ·rw[iq e2,j3 i e2]at i2;lia
   ·rw[ir e2]at i2;have:=hT.up (i:=j) (i-j) (by lia);rw[show j+(i-j)=i by lia]at this;lia
def LL(N:Nat)(f:Nat->Int):Nat->Nat
 |0=>0
 |n+1=>LL N f n*(N+1)+(N-(f n).toNat)
theorem zb4(N:Nat)(f:Nat->Int):∀n,LL N f n+1<=(N+1)^n
 |0=>xab _
 |n+1=>by
  have ih:=xaw (N+1)<|zb4 N f n;rw[xaV]at ih;show LL N f n*(N+1)+(N-(f n).toNat)+1<=(N+1)^n*(N+1);lia
theorem SK{N:Nat}{f g:Nat->Int}:∀n,(∀k,k<n->f k=g k)->LL N f n=LL N g n
 |0,_=>rfl
 |n+1,h=>by
  show LL N f n*(N+1)+_=LL N g n*(N+1)+_;rw[SK n fun k hk=>h k (by lia),h n<|by lia]
theorem zbV{N:Nat}{f g:Nat->Int}{j:Nat}(h0:∀k,k<j->f k=g k)(h1:0<=g j)(h2:f j=g j+1)(h3:f j<=N):∀d,LL N f (j+1+d)+1<=LL N g (j+1+d)
 |0=>by
  show LL N f j*(N+1)+_+1<=LL N g j*(N+1)+_;rw[SK j h0];lia
 |d+1=>by
  have ih:=xaw (N+1)<|zbV h0 h1 h2 h3 d;rw[xaV]at ih;show LL N f (j+1+d)*(N+1)+(N-(f<|j+1+d).toNat)+1<=LL N g (j+1+d)*(N+1)+(N-(g<|j+1+d).toNat);lia
end
section
variable{B R Q:Pz}{la lb ql K J fu:Nat}{b a:List Zr}
structure DvZ(A B Q R:Pz)(la lb n ql K J:Nat):Prop where
 eq:A=Q*B+R
 q1:∀k,k<n->Q k=0
 q2:∀k,ql<=k->Q k=0
 r:∀k,n+(lb-1)<=k->R k=0
 bz:∀k,Bz (K+(ql-n)*(J+1))<|R k
 bq:∀k,Bz (K+(ql-n)*(J+1))<|Q k
theorem Fc{n m:Nat}(hB:Tp B m)(h:Zd B R)(hr:∀k,n+m<=k->R k=0):∃w:Pz,R=w*B/\∀k,n<=k->w k=0:=by
 obtain⟨w,fw,rfl⟩:=h;refine⟨w,rfl,?_⟩;by_cases nw:Nz w
 ·obtain⟨d,hd⟩:=Tp.ex fw nw;have h1:=(hd.mul hB).1;intro k hk;refine hd.2 k ?_;by_cases c:d<n
  ·lia
  ·exact absurd (hr (d+m)<|by lia) h1
 ·exact fun k _=>Nz.not nw k
theorem DvZ.step{A:Pz}{n:Nat}(h:DvZ A B Q R la lb (n+1) ql K J)(hB:Tp B (lb-1))(hn:n+1<=ql){c:Int}(hc:R (n+(lb-1))=c*B (lb-1))(hJ:∀k,Bz J<|B k):
 DvZ A B (Zl Q n c) (fun k=>R k-c*sh B n k) la lb n ql K J:=by
 have hb:Bz (K+(ql-(n+1))*(J+1)) c:=(h.bz<|n+(lb-1)).le (by
  rw[hc,xcg];exact xcb _ (by have:=hB.1;lia))
 have ha:K+(ql-n)*(J+1)=K+(ql-(n+1))*(J+1)+J+1:=by rw[show ql-n=ql-(n+1)+1 by lia,xaV];lia
 have e1:Zl Q n c=Q+mono n c:=funext fun k=>by
  rw[zI];unfold Zl mono;by_cases e:k=n
  ·rw[iq e,iq e,e,h.q1 n<|by lia];lia
  ·rw[ir e,ir e];lia
 refine⟨?_,fun k hk=> ?_,fun k hk=> ?_,fun k hk=> ?_,fun k=> ?_,fun k=> ?_⟩
 ·rw[e1,yg];funext k;have:=congrFun h.eq k;rw[zI]at this;rw[zI,zI,Zz];show _=_+_+(R k-c*sh B n k);lia
 ·unfold Zl;rw[zy];exact h.q1 k<|by lia
 ·unfold Zl;rw[zy];exact h.q2 k hk
 ·show R k-c*sh B n k=0;unfold sh;rw[zN];by_cases e:k=n+(lb-1)
  ·rw[e,hc,show n+(lb-1)-n=lb-1 by lia];lia
  ·rw[h.r k (by lia),hB.2 _<|by lia];lia
 ·rw[ha];refine Bz.sub ((h.bz k).mono<|by lia)<|hb.mul ?_;unfold sh;split
  ·exact hJ _
  ·exact Bz.zero _
 ·rw[ha];unfold Zl;split
  ·exact hb.mono<|by lia
  ·exact(h.bq k).mono<|by lia
theorem ze4{n:Nat}{c:Int}(hb:y9 J b)(he:b.length=lb)(hn:n+lb<=la)(hl:la<=1000)(hR:∀k,Bz K<|R k)(hc:Bz K c)(hK:K+J+1<=40000)(hf:3000000<=fu):
 zg (QB fu (n:Int) b) fu ((0:Int),b,zi la R,zi ql Q,yH c)=some (b,zi la<|fun k=>R k-c*sh (cf b) n k,zi ql Q):=by
 refine zx (fun s:Int×List Zr×List Zr×List Zr×Zr=>∃j:Nat,j<=lb/\s=((j:Int),b,zi la (fun k=>if k<n+j then R k-c*sh (cf b) n k else R k),zi ql Q,yH c)) (fun s=>lb-s.1.toNat) _ ?_ _ _ ⟨0,xah _,?_⟩ (by show lb-0<fu;lia)
 ·rintro s L ⟨j,hj,rfl⟩ ih;unfold QB;simp only;by_cases h1:j<lb
  ·rw[zN,za rfl];simp only[if_true];have hd:=hb.get j;rw[yj,zf,show(n:Int)+(j:Int)=((n+j:Nat):Int)by lia,zb,zb,zp (by rw[yI];lia),zf,YK (by lia),zy,za<|ya (hc.ok<|by lia) (KA.of hd<|by lia) hf,zw,VG];have ha:Bz (K+J) (c*cf b j):=hc.mul<|hb.bz j;rw[za<|qv ((hR _).ok<|by lia) (ha.ok<|by lia) hf,zw,zw,zp (by rw[yI];lia),zf,KR,zb];refine ih _ ⟨j+1,by lia,?_⟩ (by show lb-((j:Int)+1).toNat<lb-(j:Int).toNat;lia);rw[show((j:Int)+1)=((j+1:Nat):Int)by lia];refine xeS rfl<|xeS rfl<|xeS ?_ rfl;refine xb fun k hk=> ?_;unfold Zl;by_cases e:k=n+j
   ·rw[iq e,zN,e];unfold sh;rw[zN,show n+j-n=j by lia]
   ·rw[ir e];show(if k<n+j then R k-c*sh (cf b) n k else R k)=_;by_cases e2:k<n+j
    ·rw[iq e2,zN]
    ·rw[ir e2,zy]
  ·rw[zy,za rfl];simp only[xak,if_false];obtain rfl:j=lb:=by lia
   refine congrArg some<|xeS rfl<|xeS ?_ rfl;refine xb fun k hk=> ?_;by_cases e:k<n+j
   ·rw[iq e]
   ·rw[ir e];unfold sh;rw[zN,ye<|by lia];lia
 ·refine xeS rfl<|xeS rfl<|xeS ?_ rfl;refine xb fun k hk=> ?_;by_cases e:k<n+0
  ·rw[iq e];unfold sh;rw[zy];lia
  ·rw[ir e]
theorem zhT(a:List Zr):yf a=zi (yf a).length (cf a):=by
 have h:yf a=zi (dg (cf a) a.length) (cf a):=rfl;rw[show(yf a).length=dg (cf a) a.length from xJ _ _];exact h
theorem uW(h:(yf a).length≠0):Tp (cf a) ((yf a).length-1):=by
 have h1:=ZB (nZ a) h;rw[uO]at h1;exact⟨h1,fun k hk=>by rw[<-uO];exact ye<|by lia⟩
theorem kz(h:(yf a).length=0)(k:Nat):cf a k=0:=by rw[<-uO];exact ye<|by lia
theorem Vp(ha:y9 K a)(hb:y9 J b)(hK:K+(a.length+1)*(J+1)<=30000)(hH:a.length<=1000)(hJ:b.length<=1000)(h0:(yf b).length≠0)(hf:3000000<=fu):
 ∃q e,wG fu a b=some (q,e)/\(e=0↔Zd (cf b) (cf a))/\(e=0->(cf a:Pz)=cf q*cf b/\yf q=q/\q.length<=a.length):=by
 have hn:=pV hb;have hL:=Jx b;have hM:=Jx a;have tb:=uW h0;have hN:J+1<=(a.length+1)*(J+1):=xdm _ (by lia);obtain⟨la,hi⟩:∃la,la=(yf a).length:=⟨_,rfl⟩;obtain⟨lb,hg⟩:∃lb,lb=(yf b).length:=⟨_,rfl⟩;obtain⟨ql,hO⟩:∃ql,ql=la+1-lb:=⟨_,rfl⟩;have hz:=zhT a;rw[<-hi]at hz;rw[<-hg]at tb h0;unfold wG;rw[za<|zC ha (by lia) (by lia) hf,za<|zC hb (by lia) (by lia) hf,show vP a.length (cf a)=yf a from rfl,show vP b.length (cf b)=yf b from rfl,<-hi,<-hg,zy];by_cases hP:0<la/\la<lb
 ·rw[za (v:=Sum.inr ())<|by rw[zN,zN]];refine⟨[],4,rfl,⟨fun h=>absurd h (by decide),fun h=> ?_⟩,fun h=>absurd h<|by decide⟩;exfalso;have ta:=uW (a:=a) (by lia);rw[<-hi]at ta;obtain⟨w,hw,w0⟩:=Fc (n:=0) tb h fun k hk=>ta.2 k (by lia);exact ta.1<|by rw[hw,xt,yG fun i _=>by rw[w0 i (by lia),xaS]]
 ·rw[za (v:=Sum.inl ()) (by
   by_cases h1:0<la
   ·rw[zN,zy]
   ·rw[zy])]
  simp only;have hp:max ((la:Int)-lb+1) 0=(ql:Int):=by lia
  rw[zb,zb,zf,hp,yE,yJ,zf,b7,yI,zb]
  obtain⟨s,hs,hQ⟩:=yv (f:=QI fu) (fun s:Int×List Zr×List Zr×List Zr=>∃(n:Nat) (Q R:Pz),n<=ql/\s=((n:Int)-1,yf b,zi la R,zi ql Q)/\DvZ (cf a) (cf b) Q R la lb n ql K J) (fun s=>(s.1+1).toNat)
   (fun r=>(∃Q R:Pz,r=.inl (zi la R,zi ql Q)/\DvZ (cf a) (cf b) Q R la lb 0 ql K J)\/(r=.inr 4/\¬Zd (cf b) (cf a))) (by
   rintro s L ⟨n,Q,R,hx,rfl,hI⟩ ih
   unfold QI
   simp only
   cases n with
   |zero=>
    rw[zy]
    exact⟨_,rfl,.inl ⟨Q,R,rfl,hI⟩⟩
   |succ n=>
    have hy:(ql-(n+1))*(J+1)<=(a.length+1)*(J+1):=xaw _<|by lia
    have hG:(ql-(n+1))*(J+1)+(J+1)<=(a.length+1)*(J+1):=by
     have:=xaw (J+1) (show ql-(n+1)+1<=a.length+1 by lia);rw[xaV,xcm]at this;exact this
    have hl:=hI.bz
    rw[show((n+1:Nat):Int)-1=(n:Int)by lia,zN,<-hg,zb,show(n:Int)+(lb:Int)-1=((n+(lb-1):Nat):Int)by lia,zb,zp (by rw[yI];lia),zf,YK (by lia),show(lb:Int)-1=((lb-1:Nat):Int)by lia,zb,yj,zf]
    have hq:=hn.get<|lb-1
    rw[za<|XN ((hl _).okS<|by lia) ⟨hq.1,by have:=hq.2;lia⟩ hf,zw,VG,uO]
    simp only
    have hj:=tb.1
    have hE:exE (R<|n+(lb-1)) (cf b<|lb-1)=if R (n+(lb-1))%cf b (lb-1)=0 then 0 else 4:=by unfold exE;rw[ir hj]
    have hX:exI (R<|n+(lb-1)) (cf b<|lb-1)=if R (n+(lb-1))%cf b (lb-1)=0 then R (n+(lb-1))/cf b (lb-1)else 0:=by unfold exI;rw[ir hj]
    by_cases hd:R (n+(lb-1))%cf b (lb-1)=0
    ·rw[iq hd]at hE hX
     obtain⟨c,hu⟩:∃c,c=R (n+(lb-1))/cf b (lb-1):=⟨_,rfl⟩
     have hc:R (n+(lb-1))=c*cf b (lb-1):=by rw[hu,Int.ediv_mul_cancel<|xaJ hd]
     have hA:Bz (K+(ql-(n+1))*(J+1)) c:=(hl<|n+(lb-1)).le (by
      rw[hc,xcg];exact xcb _<|by lia)
     rw[hE,hX,<-hu,iq rfl,zp (by rw[yI];lia),zf,KR,za<|ze4 hn hg.symm (by lia) (by lia) hl hA (by lia) hf]
     simp only
     rw[zb]
     have hs:=hI.step tb hx hc hb.bz
     have e:(fun k=>R k-c*sh (cf<|yf b) n k)=fun k=>R k-c*sh (cf b) n k:=by rw[show cf (yf b)=cf b from funext (uO b)]
     rw[e]
     exact ih _ ⟨n,_,_,by lia,rfl,hs⟩ (by show((n:Int)-1+1).toNat<(((n+1:Nat):Int)-1+1).toNat;lia)
    ·rw[ir hd]at hE
     rw[hE,ir<|by decide]
     refine⟨_,rfl,.inr ⟨rfl,fun hz=>hd ?_⟩⟩
     have hm:Zd (cf b) R:=by
      have e:R=(cf a:Pz)-Q*cf b:=funext fun k=>by
       have:=congrFun hI.eq k;rw[zI]at this;rw[yz];lia
      rw[e];exact hz.sub ⟨Q,⟨ql,hI.q2⟩,rfl⟩
     obtain⟨w,hw,w0⟩:=Fc (n:=n+1) tb hm hI.r
     have:=VA (f:=w) (g:=cf b) (n:=n) (m:=lb-1) (fun k hk=>w0 k<|by lia) tb.2
     rw[<-hw]at this
     rw[this,Int.mul_emod_left]) fu ((ql:Int)-1,yf b,yf a,zi ql fun _=>0) ⟨ql,fun _=>0,cf a,xab _,by rw[hz],⟨funext fun k=>by
    rw[zI,xt,yG fun i _=>xaS _,xcD],fun _ _=>rfl,fun _ _=>rfl,fun k hk=>by
    by_cases e:la=0
    ·exact kz (by lia) k
    ·rw[<-uO];exact ye (by lia),fun k=>(ha.bz k).mono (by lia),fun k=>Bz.zero _⟩⟩ (by show((ql:Int)-1+1).toNat<fu;lia)
  rw[za hs];rcases hQ with⟨Q,R,rfl,hI⟩|⟨rfl,hB⟩
  ·have hy:(ql-0)*(J+1)<=(a.length+1)*(J+1):=xaw _ (by lia);have hC:y9 30000 (zi la R):=Qy fun j=>(hI.bz j).mono (by lia);have hD:y9 30000 (zi ql Q):=Qy fun j=>(hI.bq j).mono (by lia);have hv:∀k,la<=k->R k=0:=fun k hk=>by
    by_cases e:la=0
    ·have h1:=congrFun hI.eq k;rw[zI,xt,yG (n:=k+1) fun i _=>by rw[hI.q2 i (by lia),xaS],kz<|by lia]at h1;lia
    ·exact hI.r k<|by lia
   simp only;rw[za<|zC hC (by decide) (by rw[yI];lia) hf,yI,tH];by_cases hr:(vP la R).length=0
   ·have ho:∀k,R k=0:=fun k=>by rw[<-jy hv k];exact ye<|by lia
    have hF:(cf (vP ql Q):Pz)=Q:=funext fun k=>jy hI.q2 k;have he:(cf a:Pz)=cf (vP ql Q)*cf b:=by
     rw[hF];funext k;have:=congrFun hI.eq k;rw[zI,ho k,xbD]at this;exact this
    rw[zy,za<|zC hD (by decide) (by rw[yI];lia) hf,yI,tH];refine⟨_,0,rfl,⟨fun _=>⟨_,Fs.cf _,he⟩,fun _=>rfl⟩,fun _=>⟨he,(uC _ _).symm,?_⟩⟩;rw[xJ];have:=vZ Q ql;lia
   ·rw[zN];refine⟨[],4,rfl,⟨fun h=>absurd h (by decide),fun h=> ?_⟩,fun h=>absurd h<|by decide⟩;exfalso;have e:R=(cf a:Pz)-Q*cf b:=funext fun k=>by
     have:=congrFun hI.eq k;rw[zI]at this;rw[yz];lia
    have hm:Zd (cf b) R:=by
     rw[e];exact h.sub ⟨Q,⟨ql,hI.q2⟩,rfl⟩
    obtain⟨w,hw,w0⟩:=Fc (n:=0) tb hm hI.r;have ho:∀k,R k=0:=fun k=>by rw[hw,xt,yG fun i _=>by rw[w0 i (by lia),xaS]]
    have ht:=ZB (uC la R) hr;rw[jy hv]at ht;exact ht<|ho _
  ·exact⟨[],4,rfl,⟨fun h=>absurd h (by decide),fun h=>absurd h hB⟩,fun h=>absurd h<|by decide⟩
theorem nA(ha:y9 K a)(hb:y9 J b)(hK:K<=40000)(hJ:J<=40000)(hc:a.length<=1000)(hd:b.length<=1000)(h0:(yf b).length=0)(hf:3000000<=fu):wG fu a b=some ([],3):=by grind [wG,yf,vP,cf,za,zC]
end
section
variable{N fu:Nat}{a:List Int}
theorem mM.ext{c:Nat}{b:List Int}(ha:mM N c a)(hb:mM N c b)(h:∀k,k<c->ci a k=ci b k):a=b:=by
 rw[<-Gw a,<-Gw b,ha.ln,hb.ln];exact yo h
theorem AD{c:Nat}(hc:c<=1000)(hf:3000000<=fu):zg (fun L (z:List Int×Int)=>
 if z.2<((zl c fun _=>0).length:Int)then
  zG z.2 z.1.length fun j=>
  nm (z.1.set j z.2) fun xs=>
  ze (z.2+1) fun i=>L (xs,i)
 else some z.1) fu (zl c fun _=>0,0)=some (zl c fun i=>(i:Int)):=by
 refine zx (fun s:List Int×Int=>∃j:Nat,j<=c/\s=(zl c (fun k=>if k<j then(k:Int)else 0),(j:Int))) (fun s=>c-s.2.toNat) _ ?_ _ _ ⟨0,xah _,?_⟩ (by show c-0<fu;lia)
 ·rintro s L ⟨j,hj,rfl⟩ ih
  simp only[zK]
  by_cases h1:j<c
  ·rw[zN,zp h1,zf,jS,zb]
   refine ih _ ⟨j+1,by lia,?_⟩ (by show c-((j:Int)+1).toNat<c-(j:Int).toNat;lia)
   refine xeS (yo fun k hk=> ?_) rfl
   unfold Zl
   by_cases e:k=j
   ·rw[iq e,zN,e]
   ·rw[ir e]
    show(if k<j then(k:Int)else 0)=_
    by_cases e2:k<j
    ·rw[iq e2,zN]
    ·rw[ir e2,zy]
  ·rw[zy]
   obtain rfl:j=c:=by lia
   exact congrArg some<|yo fun k hk=>iq hk
 ·exact xeS (yo fun k hk=>(ir<|xbp k).symm) rfl
theorem Ev{c:Nat}(ha:mM N c a)(hN:N<=1000)(hf:3000000<=fu):
 ∃i:Int,zg (fun L i=>
 if 0<=i then
  zG i a.length fun j=>
  nm (a.getD j 0) fun y=>
  ze ((N:Int)-c) fun e=>
  ze (e+i) fun e=>
  if y=e then ze (i-1) fun i=>L i
  else some i
 else some i) fu ((c:Int)-1)=some i/\ -1<=i/\i<c/\(∀j:Nat,i<j->j<c->ci a j+c=N+j)/\∀k:Nat,i=k->ci a k+c<N+k:=by
 have hb:c<=N\/c=0:=by
  by_cases h:c=0
  ·exact .inr h
  ·have:=ha.hi 0 (by lia);have:=ha.lo 0 (by lia);exact .inl<|by lia
 obtain⟨r,h1,h2⟩:=yv (f:=fun L (i:Int)=>
  if 0<=i then
   zG i a.length fun j=>
   nm (a.getD j 0) fun y=>
   ze ((N:Int)-c) fun e=>
   ze (e+i) fun e=>
   if y=e then ze (i-1) fun i=>L i
   else some i
  else some i) (fun i:Int=> -1<=i/\i<c/\∀j:Nat,i<j->j<c->ci a j+c=N+j) (fun i=>(i+1).toNat) (fun i=> -1<=i/\i<c/\(∀j:Nat,i<j->j<c->ci a j+c=N+j)/\∀k:Nat,i=k->ci a k+c<N+k) (by
   rintro i L ⟨i1,i2,i3⟩ ih;by_cases h0:0<=i
   ·obtain⟨k,rfl⟩:=xaA h0;have hd:=ha.ln;rw[iq h0,yj,zf,zb,zb,ZO];by_cases e:ci a k=(N:Int)-c+k
    ·rw[iq e,zb];refine ih _ ⟨by lia,by lia,fun j hj hc=> ?_⟩ (by lia);by_cases e2:j=k
     ·rw[e2];lia
     ·exact i3 j (by lia) hc
    ·rw[ir e];refine⟨_,rfl,i1,i2,i3,fun j hj=> ?_⟩;obtain rfl:k=j:=by lia
     have:=ha.hi k (by lia);lia
   ·rw[ir h0];exact⟨_,rfl,i1,i2,i3,fun j hj=>by lia⟩) fu ((c:Int)-1) ⟨by lia,by lia,fun j hj hc=>by lia⟩ (by lia)
 exact⟨r,h1,h2⟩
theorem Gg{c k:Nat}(ha:mM N c a)(hN:N<=1000)(hk:k<c)(h1:ci a k+c<N+k)(hf:3000000<=fu):
 zg (fun L (z:Int×List Int)=>
 if z.1<(c:Int)then
  ze (z.1-1) fun e=>
  zG e z.2.length fun j=>
  nm (z.2.getD j 0) fun y=>
  ze (y+1) fun e=>
  zG z.1 z.2.length fun j=>
  nm (z.2.set j e) fun xs=>
  ze (z.1+1) fun i=>L (i,xs)
 else some z.2) fu ((k:Int)+1,a.set k (ci a k+1))=some (nxA c k a):=by
 have hb:=ha.hi k hk;have hc:=ha.lo k hk;refine zx (fun s:Int×List Int=>∃j:Nat,k+1<=j/\j<=c/\s=((j:Int),zl c (fun i=>if i<k then ci a i else if i<j then ci a k+1+((i:Int)-k)else ci a i))) (fun s=>c-s.1.toNat) _ ?_ _ _ ⟨k+1,xab _,hk,?_⟩ (by show c-((k:Int)+1).toNat<fu;lia)
 ·rintro s L ⟨j,j1,j2,rfl⟩ ih;simp only[zK];by_cases h2:j<c
  ·obtain⟨i,rfl⟩:∃i,j=i+1:=⟨j-1,by lia⟩;rw[zN,show((i+1:Nat):Int)-1=(i:Int)by lia,zb,yj,zf,vT,zy,zN,zb,zp h2,zf,jS,zb];refine ih _ ⟨i+1+1,by lia,by lia,?_⟩ (by show c-(((i+1:Nat):Int)+1).toNat<c-((i+1:Nat):Int).toNat;lia);refine xeS rfl<|yo fun m hm=> ?_;unfold Zl;by_cases e:m=i+1
   ·rw[iq e,zy,zN];lia
   ·rw[ir e];show(if m<k then ci a m else if m<i+1 then ci a k+1+((m:Int)-k)else ci a m)=_;by_cases e2:m<k
    ·rw[iq e2,iq e2]
    ·rw[ir e2,ir e2];by_cases e3:m<i+1
     ·rw[iq e3,zN]
     ·rw[ir e3,zy]
  ·rw[zy];obtain rfl:j=c:=by lia
   refine congrArg some<|yo fun m hm=> ?_;by_cases e2:m<k
   ·rw[iq e2,iq e2]
   ·rw[ir e2,ir e2,iq hm]
 ·refine xeS (by show(k:Int)+1=((k+1:Nat):Int);lia) ?_;show a.set k (ci a k+1)=_;conv=>lhs;rw[<-Gw a,ha.ln]
  rw[jS];refine yo fun m hm=> ?_;unfold Zl;by_cases e:m=k
  ·rw[iq e,zy,zN,e];rw[show ci (zl c<|ci a) k=ci a k from jo hk];lia
  ·rw[ir e];by_cases e2:m<k
   ·rw[iq e2]
   ·rw[ir e2,zy]
theorem EA{X Y:Type}{c:Nat}{g:List Int->X->Option (List Int×(X⊕Y))}{x0:X}{Rej:List Int->Prop}{Acc:List Int->Y->Prop}(hk:1<=c)(hl:c<=N)(hN:N<=10)(he:c<=5)(hf:3000000<=fu)(hg:∀a,mM N c a->(g a x0=some (a,.inl x0)/\Rej a)\/∃y a',g a x0=some (a',.inr y)/\Acc a y):
 (wk fu (c:Int) (N:Int) g x0=some (.inl x0)/\∀a,mM N c a->Rej a)\/∃a y,mM N c a/\Acc a y/\wk fu (c:Int) (N:Int) g x0=some (.inr y):=by
 have h0:mM N c (zl c fun i=>(i:Int)):=⟨zK _ _,fun i hi=>by rw[jo hi];lia,fun i hi=>by rw[jo hi];lia,fun i hi=>by rw[jo (by lia),jo hi];lia⟩;have ha:∀T,mM N c T->¬Lt (ci T) (ci<|zl c fun i=>(i:Int)) c:=fun T hT ⟨j,j1,j2,_⟩=>by
  rw[jo j1]at j2;have:=hT.lo j j1;lia
 have hj:LL N (ci<|zl c fun i=>(i:Int)) c<fu:=by
  have h1:=zb4 N (ci<|zl c fun i=>(i:Int)) c;have h2:(N+1)^c<=11^5:=xam (Nat.pow_le_pow_left (by lia) c)<|xay (by decide) he;have h3:(11:Nat)^5=161051:=by decide
  lia
 obtain⟨r,hr,hQ⟩:=yv (f:=fun L (q:X×List Int)=>vh fu (c:Int) (N:Int) g q.1 q.2 (fun x xs _ _ _ _ _=>L (x,xs)) (fun x _ _ _=>some (.inl x)) fun y _=>some (.inr y))
  (fun s:X×List Int=>s.1=x0/\mM N c s.2/\∀T,mM N c T->Lt (ci T) (ci s.2) c->Rej T) (fun s=>LL N (ci s.2) c) (fun r:X⊕Y=>(r=.inl x0/\∀a,mM N c a->Rej a)\/∃a y,mM N c a/\Acc a y/\r=.inr y) (by
  rintro⟨x,a⟩ L ⟨hx,hI,hR⟩ ih
  simp only at hx hI hR
  subst hx
  simp only
  unfold vh
  rcases hg a hI with⟨e,rj⟩|⟨y,a',e,ac⟩
  ·rw[za e]
   simp only[Sum.elim_inl]
   obtain⟨i,l1,l2,l3,l4,l5⟩:=Ev hI (by lia) hf
   rw[zb,za l1]
   by_cases hi:i<0
   ·rw[iq hi]
    refine⟨_,rfl,.inl ⟨rfl,fun T hT=> ?_⟩⟩
    rcases rA (ci T) (ci a) c with h|h|h
    ·rw[hT.ext hI h];exact rj
    ·exact hR T hT h
    ·exfalso
     obtain⟨j,j1,j2,_⟩:=h
     have:=l4 j (by lia) j1
     have:=hT.hi j j1
     lia
   ·obtain⟨k,rfl⟩:=xaA (show 0<=i by lia)
    have hn:=hI.ln
    have h5:=l5 k rfl
    have ho:=hI.lo k<|by lia
    rw[ir hi,yj,zf,ZO,zb,yj,zf,zb,za<|Gg hI (by lia) (by lia) h5 hf]
    refine ih _ ⟨rfl,hI.next (by lia) h5,fun T hT hb=> ?_⟩ ?_
    ·rcases rA (ci T) (ci a) c with h|h|h
     ·rw[hT.ext hI h];exact rj
     ·exact hR T hT h
     ·exfalso
      simp only at hb
      rcases zkd (k:=k) hT (by lia) (fun i hi hc=>l4 i (by lia) hc) h with h6|h6
      ·obtain⟨j,j1,j2,_⟩:=hb
       rw[h6 j j1]at j2
       lia
      ·exact hb.asy h6
    ·obtain⟨d,hd⟩:∃d,c=k+1+d:=⟨c-k-1,by lia⟩
     have:=zbV (N:=N) (f:=ci<|nxA c k a) (g:=ci a) (j:=k) (fun m hm=>by rw[QE,iq hm]) (by lia) (by rw[QE,zy];lia) (by rw[QE,zy];lia) d
     rw[<-hd]at this
     exact this
  ·rw[za e]
   simp only[Sum.elim_inr]
   exact⟨_,rfl,.inr ⟨a,y,hI,ac,rfl⟩⟩) fu (x0,zl c fun i=>(i:Int)) ⟨rfl,h0,fun T hT h=>absurd h (ha T hT)⟩ hj
 have hM:wk fu (c:Int) (N:Int) g x0=some r:=by
  unfold wk;rw[yE,yJ,zf,JF,za<|AD (by lia) hf];exact hr
 rw[hM];rcases hQ with⟨rfl,h⟩|⟨a,y,h1,h2,rfl⟩
 ·exact .inl ⟨rfl,h⟩
 ·exact .inr ⟨a,y,h1,h2,rfl⟩
end
section
variable{a:List Int}{m x:Int}{xs:List Lx}{i fu:Nat}
theorem zea{a:List Zr}(h:¬m<=0):P3 a m=(wA a m,0):=by unfold P3;rw[ir h]
theorem ig(a:List Zr):(wq a).natAbs=Z6 (cf a) (yf a).length:=by grind [wq,Int.natAbs_neg,xbe]
theorem W0(a:List Zr):pc (wq a)*(cf (wB a):Pz)=cf a:=by grind [zE,Y7,aq,Int.mul_ediv_cancel']
theorem Ve{a:List Zr}(h:(yf a).length≠0):Pm (cf<|wB a)/\Po (cf<|wB a):=by
 have h0:=dE h;have hm:=W0 a;constructor
 ·intro d hd;have h1:(wq a).natAbs*d∣Z6 (cf a) (yf a).length:=ED _ fun k _=>by
   have h2:=congrFun hm k;rw[zE]at h2;have h3:=xcq.2<|xfP (xdP<|wq a)<|hd k;rw[h2,xcg,xbe]at h3;exact h3
  rw[<-ig]at h1;have h5:(wq a).natAbs*d∣(wq a).natAbs*1:=by rw[xcG];exact h1
  exact Nat.dvd_one.1<|Nat.dvd_of_mul_dvd_mul_left (by lia) h5
 ·have ht:=uW h;refine⟨(yf a).length-1,?_,fun k hk=>by rw[Y7,ht.2 k hk,xfJ]⟩;have h2:=congrFun hm<|(yf a).length-1;rw[zE]at h2;have h3:=ht.1;obtain⟨x,hx⟩:∃x,x=cf (wB a) ((yf a).length-1):=⟨_,rfl⟩;rw[<-hx]at h2⊢;have hg:(0:Int)<(Z6 (cf a) (yf a).length:Nat):=by
   have:=ig a;lia
  have hc:wq a=if cf (yf a) ((yf a).length-1)<0 then-((Z6 (cf a) (yf a).length:Nat):Int)else((Z6 (cf a) (yf a).length:Nat):Int):=rfl;rw[uO]at hc;by_cases hn:cf a ((yf a).length-1)<0
  ·rw[iq hn]at hc;refine xae fun ha=> ?_;have:=Int.mul_nonneg_of_nonpos_of_nonpos (show wq a<=0 by lia) (show x<=0 by lia);lia
  ·rw[ir hn]at hc;refine xae fun ha=> ?_;have:=Int.mul_nonpos_of_nonneg_of_nonpos (show 0<=wq a by lia) (show x<=0 by lia);lia
theorem W2(a:List Zr):yf (wB a)=wB a:=(uC _ _).symm
theorem TH(a:List Zr)(hm:0<m)(k:Nat):cf (dS a m) k=near (cf a k) m:=jy (fun j hj=>by
 rw[ye hj];unfold near;rw[xag,zy]) k
theorem zal(x:Int):near x m%m=x%m:=by
 unfold near;split
 ·rw[Int.sub_emod_right,xaF]
 ·exact xaF _ _
theorem zei{y:Int}(h:x%m=y%m)(hb:2*y.natAbs<m):near x m=y:=by
 unfold near;rw[h];by_cases hy:0<=y
 ·rw[xaC hy (by lia),zy]
 ·have e:y%m=y+m:=by
   rw[<-Int.add_emod_right];exact xaC (by lia)<|by lia
  rw[e,zN];lia
def B2(xs:List Lx)(a:List Int)(c:Nat):List Lx:=(xbc c).map fun i=>xs.getD (ci a i).toNat ([],[])
theorem Tx(xs:List Lx)(a:List Int)(c:Nat):B2 xs a (c+1)=B2 xs a c++[xs.getD (ci a c).toNat ([],[])]:=by grind [B2,xdu]
theorem Sq(a b:List Lx):pu (a++b)=pu a*pu b:=by grind [pu,wm]
theorem IB:(xs.map (·.1)).getD i []=(xs.getD i ([],[])).1:=by grind
theorem gZ(h:i<xs.length:=by lia):xs.getD i ([],[])∈xs:=by grind [xaa,xbn]
theorem Ra{c k:Nat}{p:Int}{f:List Zr}(hp:wz p=true)(hg:1<=k)(hk:k<=1000)(hm:∀x∈xs,Up p k x.1 x.2/\X0 p x.2/\x.2.length<=66)(hN:xs.length<=1000)(ha:mM xs.length c a)(hc:c<=5)(hn:y9 250 f)(hr:0<f.length)(ht:f.length<=66)(hf:3000000<=fu):
 ∃t,qD fu f (xs.map (·.1)) a (yH<|p^k)=some (wB<|dS t<|p^k,a)/\y9 250 t/\t.length<=1+c*66/\Cg (p^k) (cf t) (pc (cf f<|f.length-1)*pu (B2 xs a c)):=by
 obtain⟨p1,p2⟩:=zn hp;have hb:=iH hp hk;have hu:=cH hp hg;have hd:gK (yH<|p^k):=hb.okS (by decide);have hv:=ha.ln
 obtain⟨s,hs,t,rfl,t1,t2,t3⟩:=yv (f:=jA fu (xs.map (·.1)) a<|yH<|p^k) (fun s:List Zr×Int×List Int=>∃(i:Nat) (t:List Zr),i<=c/\s=(t,(i:Int),a)/\y9 250 t/\t.length<=1+i*66/\Cg (p^k) (cf t) (pc (cf f<|f.length-1)*pu (B2 xs a i))) (fun s=>c-s.2.1.toNat)
  (fun r=>∃t:List Zr,r=(t,a)/\y9 250 t/\t.length<=1+c*66/\Cg (p^k) (cf t) (pc (cf f<|f.length-1)*pu (B2 xs a c))) (by
  rintro s L ⟨i,t,hi,rfl,h1,h2,h3⟩ ih
  unfold jA
  simp only
  by_cases he:i<c
  ·have hw:=ha.lo i he
   have hx:=ha.hi i he
   obtain⟨j,hj⟩:=xaA (show 0<=ci a i by lia)
   have ho:=gZ (xs:=xs) (i:=j)
   obtain⟨hU,hI,hl⟩:=hm _ ho
   have hy:=hU.len
   rw[zN,za rfl]
   simp only[if_true]
   rw[yj,zf,ZO,hj,zp (by rw[xaP];lia),zf,IB,za<|mz h1 hU.rd.ok (by lia) (by lia) hd hf,zw,zea<|by lia]
   simp only
   rw[zb]
   have l1:=ZV (yQ t (xs.getD j ([],[])).1)<|p^k
   have l2:=kh t (xs.getD j ([],[])).1
   refine ih _ ⟨i+1,_,by lia,rfl,Jy hb (by lia),by lia,?_⟩ (by show c-((i:Int)+1).toNat<c-(i:Int).toNat;lia)
   refine(Zt _ _).trans ?_
   rw[qG,Tx,Sq,hj,xaK,<-zd]
   refine h3.mul<|Cg.of ?_
   exact(zO _).symm
  ·rw[zy,za rfl]
   simp only[xak,if_false]
   obtain rfl:i=c:=by lia
   exact⟨_,rfl,t,rfl,h1,h2,h3⟩) fu (f.drop (f.length-1),0,a) ⟨0,_,xah _,rfl,fun z hz=>hn z (xeL hz),by rw[xbO];lia,by
   rw[Bg]
   refine Cg.of<|funext fun j=> ?_
   rw[show B2 xs a 0=[]from rfl,show pu []=pc 1 from rfl,zO]
   cases j with
   |zero=>rfl
   |succ j=>exact ye (p:=[f.getD (f.length-1) (false,[])])<|by simp⟩ (by show c-(0:Int).toNat<fu;lia)
 refine⟨t,?_,t1,t2,t3⟩;unfold qD;rw[show(f.length:Int)-1=((f.length-1:Nat):Int)by lia,zb,yE,yJ,zf,za hs];simp only;have hq:y9 250 (dS t<|p^k):=xa fun j=>Bz.near hb (by lia);have hA:(dS t<|p^k).length<=t.length:=by unfold dS;rw[xJ];exact vZ _ _
 rw[za<|iG t1 (by decide) hd (by lia) hf,zw];unfold Np;rw[zy];simp only;rw[za<|vM hq (by decide) (by lia) hf]
theorem HP(hl:a.length<=1000)(hf:3000000<=fu):xE fu a x=some (decide<|x∈a,a):=by
 unfold xE vH;obtain⟨s,hs,hQ⟩:=yv (f:=w5 fu a x) (fun i:Int=>0<=i/\i<=a.length/\∀j:Nat,j<i->ci a j≠x) (fun i=>(a.length-i).toNat) (fun r:Unit⊕Int=>(r=.inl ()/\¬x∈a)\/∃i:Nat,r=.inr (i:Int)/\x∈a) (by
  rintro i L ⟨i1,i2,i3⟩ ih;obtain⟨k,rfl⟩:=xaA i1;unfold w5;by_cases h1:k<a.length
  ·rw[zN,zp h1,zf,ZO];by_cases h2:x=ci a k
   ·rw[iq h2];refine⟨_,rfl,.inr ⟨k,rfl,?_⟩⟩;rw[h2,<-ZO,H1,xaa h1];exact xbn h1
   ·rw[ir h2,zb];refine ih _ ⟨by lia,by lia,fun j hj=> ?_⟩ (by lia);by_cases e:j=k
    ·rw[e];exact fun h=>h2 h.symm
    ·exact i3 j<|by lia
  ·rw[zy];refine⟨_,rfl,.inl ⟨rfl,fun hx=> ?_⟩⟩;obtain⟨j,hj,e⟩:=xdW.1 hx;refine i3 j (by lia) ?_;rw[<-ZO,H1,xaa hj];exact e) fu 0 ⟨by lia,by lia,fun j hj=>by lia⟩ (by lia)
 rw[hs];rcases hQ with⟨rfl,h⟩|⟨i,rfl,h⟩
 ·rw[decide_eq_false h];rfl
 ·rw[decide_eq_true h];show(if(0:Int)<=(i:Int)then some (true,a)else some (false,a))=some (true,a);rw[zN]
theorem DV{us:List (List Zr)}(hl:us.length<=1000)(ha:a.length<=1000)(hf:3000000<=fu):
 xl fu us a=some (((xbc us.length).filter fun i:Nat=> !decide ((i:Int)∈a)).map fun i=>us.getD i [],a):=by
 unfold xl;rw[za (v:=(((xbc us.length).filter fun i:Nat=> !decide ((i:Int)∈a)).map fun i=>us.getD i [],a))];refine zx (fun s:List (List Zr)×Int×List Int=>∃j:Nat,j<=us.length/\s=(((xbc j).filter fun i:Nat=> !decide ((i:Int)∈a)).map fun i=>us.getD i [],(j:Int),a)) (fun s=>us.length-s.2.1.toNat) _ ?_ _ _ ⟨0,xah _,rfl⟩ (by show us.length-0<fu;lia);rintro s L ⟨j,hj,rfl⟩ ih;unfold jL;simp only;by_cases h1:j<us.length
 ·rw[zN,za rfl];simp only[if_true];rw[zp h1,zf,za<|HP ha hf];simp only;have hb:((xbc j).filter fun i:Nat=> !decide ((i:Int)∈a)).length<=j:=xam (xfD _ _) (by rw[xcA];exact xab j);by_cases h2:(j:Int)∈a
  ·rw[decide_eq_true h2,ir (by decide),zb];refine ih _ ⟨j+1,by lia,?_⟩ (by show us.length-((j:Int)+1).toNat<us.length-(j:Int).toNat;lia);rw[xdu,List.filter_append,xfj (by rw[decide_eq_true h2];decide),List.filter_nil,xbR];rfl
  ·rw[decide_eq_false h2,iq (by decide),wC (by rw[xaP];simp only[xaq,xbS];lia),zf,zb];refine ih _ ⟨j+1,by lia,?_⟩ (by show us.length-((j:Int)+1).toNat<us.length-(j:Int).toNat;lia);rw[xdu,List.filter_append,xfi (by rw[decide_eq_false h2];decide),List.filter_nil,xbg];rfl
 ·rw[zy,za rfl];simp only[xak,if_false];obtain rfl:j=us.length:=by lia
  rfl
end
section
variable{M p:Int}{f q g f0:Pz}{k i fu:Nat}{xs:List Lx}{a:List Int}
def Bdz(M:Int)(f:Pz):Prop:=∀(u v:Pz) (b:Nat),Fs u->Tp v b->f=u*v->∀j,2*((v b*u j).natAbs:Int)<M
theorem Bdz.dv(h:Bdz M f)(ng:Nz g)(fg:Fs g)(e:f=q*g):Bdz M q:=fun u v b fu hv e2 j=>by
 obtain⟨a,ha⟩:=Tp.ex fg ng;have h1:=h u (v*g) (b+a) fu (hv.mul ha) (by rw[e,e2,zd]) j;rw[VA hv.2 ha.2]at h1;have h2:(v b*u j).natAbs<=(v b*g a*u j).natAbs:=by
  rw[Int.mul_right_comm,xcg<|v b*u j];exact xcb _ (by have:=ha.1;lia)
 lia
theorem zi8{K:Nat}(h:Bdz M f)(ng:Nz g)(fg:Fs g)(fq:Fs q)(e:f=q*g)(hM:Bz K M)(k:Nat):Bz K (q k):=by
 obtain⟨a,ha⟩:=Tp.ex fg ng;have h1:=h q g a fq ha e k;have h2:(q k).natAbs<=(g a*q k).natAbs:=by
  rw[xcg];exact xdm _ (by have:=ha.1;lia)
 exact hM.le<|by lia
structure Gd(g:List Zr):Prop where
 can:yf g=g
 ir:Ir (cf g)
 ps:Po (cf g)
 ok:y9 250 g
 ln:g.length<=11
structure Ch(p:Int)(k:Nat)(f0:Pz)(F:List Zr)(xs:List Lx)(out:List (List Zr))(c:Nat):Prop where
 lc:Lc p k (cf F) (F.length-1) xs
 k2:k<=1000
 can:yf F=F
 ok:y9 250 F
 ln:F.length<=11
 bd:Bdz (p^k) (cf F)
 ls:Ls p (cf F) xs c
 ct:xs.length+out.length<=10
 pr:f0=prZ (out.map fun g=>(cf g:Pz))*cf F
 gd:∀g∈out,Gd g
theorem Ch.l0{c:Nat}{F:List Zr}{out:List (List Zr)}(h:Ch p k f0 F xs out c):0<F.length:=by
 have h1:=h.lc.tp.1;by_cases e:F.length=0
 ·exact absurd (ye<|by lia) h1
 ·lia
theorem zhX(p1:2<=p)(ha:∀x∈xs,X0 p x.2)(Wm:xs.Pairwise fun a b=>vD p (ci a.2)<|ci b.2){j:Nat}(hi:i<xs.length)(hj:j<xs.length)(h:xs.getD i ([],[])=xs.getD j ([],[])):i=j:=by grind [X0.self,xcW,xaa,xbn]
theorem zak(p1:2<=p)(ha:∀x∈xs,X0 p x.2)(Wm:xs.Pairwise fun a b=>vD p (ci a.2)<|ci b.2):xs.Nodup:=by grind [X0.self,xcW,xbn]
theorem Nb{α:Type}(d:α)(xs:List α):xs=(xbc xs.length).map fun i=>xs.getD i d:=by
 refine xeR (by simp) fun i h1 h2=> ?_;rw[xfF,List.getElem_range,H1,xaa h1];rfl
theorem OH{c:Nat}(ha:mM xs.length c a):∀x∈B2 xs a c,x∈xs:=fun x hx=>by
 obtain⟨j,hj,rfl⟩:=xal.1 hx;have hj:=xbf.1 hj;have h1:=ha.hi j hj;have h2:=ha.lo j hj;exact gZ
theorem zgv{c:Nat}(p1:2<=p)(hb:∀x∈xs,X0 p x.2)(Wm:xs.Pairwise fun a b=>vD p (ci a.2)<|ci b.2)(ha:mM xs.length c a)(hi:i<xs.length):xs.getD i ([],[])∈B2 xs a c↔(i:Int)∈a:=by
 have hc:=ha.ln;constructor
 ·intro h;obtain⟨j,hj,e⟩:=xal.1 h;have hj:=xbf.1 hj;have h1:=ha.hi j hj;have h2:=ha.lo j hj;have e2:=zhX p1 hb Wm (by lia) hi e;have e3:(i:Int)=ci a j:=by lia
  rw[e3,<-ZO,H1,xaa<|by lia];exact xbn _
 ·intro h;obtain⟨j,hj,e⟩:=xdW.1 h;have e2:ci a j=(i:Int):=by
   rw[<-ZO,H1,xaa hj];exact e
  exact xal.2 ⟨j,xbf.2 (by lia),by rw[e2];rfl⟩
theorem NU{α:Type}(P:α->Bool):∀l:List α,(l.filter P).length+(l.filter fun x=> !P x).length=l.length
 |[]=>rfl
 |x::l=>by
  have ih:=NU P l;rw[xdk,xdk];cases h:P x<;>simp[h]<;>lia
theorem L5{c:Nat}{F:List Zr}{out:List (List Zr)}(h:Ch p k f0 F xs out c)(hF:1<=c)(hH:c<=5)(ha:mM xs.length c a)(hf:3000000<=fu):
 (vJ fu (yH<|p^k) a (F,xs.map (·.1),out)=some (a,.inl (F,xs.map (·.1),out))/\∀u v,Fs u->Fs v->cf F=u*v->¬Kz u->own p u xs≠B2 xs a c)\/
 ∃y a',vJ fu (yH<|p^k) a (F,xs.map (·.1),out)=some (a',.inr y)/\∃F' xs' out',y=(F',xs'.map (·.1),out')/\Ch p k f0 F' xs' out' c/\xs'.length<xs.length:=by
 have hL:=h.lc;have hp:=hL.hp;obtain⟨p1,p2⟩:=zn hp;have hv:=iH hp h.k2;have hY:=cH hp hL.k1;have hI:=h.l0;have hZ:=h.ln;have h0:=h.ct;have hz:=fun x hx=>(hL.el x hx).2.1;obtain⟨t,t1,t2,t3,t4⟩:=Ra (fu:=fu) hp hL.k1 h.k2 hL.el (by lia) ha hH h.ok hI (by lia) hf;obtain⟨G,hG⟩:∃G,G=dS t (p^k):=⟨_,rfl⟩;rw[<-hG]at t1;have hA:∀j,cf G j=near (cf t j) (p^k):=fun j=>by rw[hG];exact TH t (by lia) j
 have hJ:Cg (p^k) (cf G) (pc (cf F<|F.length-1)*pu (B2 xs a c)):=Cg.trans (fun j=>by rw[hA];exact zal _) t4;have hK:y9 250 G:=by rw[hG];exact xa fun j=>Bz.near hv<|by lia
 have h8:G.length<=400:=by
  have:(dS t<|p^k).length<=t.length:=by unfold dS;rw[xJ];exact vZ _ _
  rw[hG];lia
 have hk:=zbH hK;have hM:=YB G;have h9:=Jx G;have hm:=W0 G;have hn:=W2 G;obtain⟨g,hg⟩:∃g,g=wB G:=⟨_,rfl⟩;rw[<-hg]at t1 hk hM hm hn;have exact_:∀u v,Fs u->Fs v->cf F=u*v->own p u xs=B2 xs a c->∃b,Tp v b/\(cf G:Pz)=pc (v b)*u:=fun u v fu' fv e ho=>by
  obtain⟨nu,nv⟩:=k9 hL.tp.nz e;obtain⟨d,hd⟩:=Tp.ex fu' nu;obtain⟨b,hb⟩:=Tp.ex fv nv;refine⟨b,hb,funext fun j=> ?_⟩;have h1:=hL.up hd hb e;have hN:d+b=F.length-1:=by
   have:=hd.mul hb;rw[<-e]at this;exact this.uniq hL.tp
  have hO:cf F (F.length-1)=u d*v b:=by rw[<-hN,e,VA hd.2 hb.2]
  rw[hA,zE];refine zei ?_ ?_
  ·have h2:Cg (p^k) (cf t) (pc (v b)*u):=by
    refine t4.trans ?_;rw[hO,<-ho,xbm,<-qZ,zd];exact Cg.rfl.mul h1.symm
   rw[h2 j,zE]
  ·exact h.bd u v b fu' hb e j
 have reject:¬(Zd (cf g) (cf F)/\1<g.length)->∀u v,Fs u->Fs v->cf F=u*v->¬Kz u->own p u xs≠B2 xs a c:=fun hP u v fu' fv e nc ho=>by
  obtain⟨b,hb,he⟩:=exact_ u v fu' fv e ho;obtain⟨nu,_⟩:=k9 hL.tp.nz e;have hq:(yf G).length≠0:=fun e0=>by
   obtain⟨j,hj⟩:=nu;have:=kz e0 j;rw[he,zE]at this;exact(xdw hb.1 hj) this
  obtain⟨q1,q2⟩:=Ve hq;rw[<-hg]at q1 q2;have z1:Zd (cf g) (cf G):=⟨pc<|wq G,Fs.pc _,hm.symm⟩;rw[he]at z1;have z2:=Zd.pm (Fs.cf g) q1 hb.1 z1;refine hP ⟨z2.trans ⟨v,fv,by rw[e,zj]⟩,xae fun hl=>nc fun j hj=> ?_⟩;have h3:cf G j=0:=by rw[<-hm,zE,ye (by lia),xau]
  rw[he,zE]at h3;rcases xeF.1 h3 with h4|h4
  ·exact absurd h4 hb.1
  ·exact h4
 have hB:∀{q:List Zr}{e:Int},wG fu F g=some (q,e)->vJ fu (yH<|p^k) a (F,xs.map (·.1),out)=if e=0 then(if 1<(g.length:Int)then ck ((out.length+1)*24<=140737488355328)<|nm (out++[g]) fun pr=>bd (xl fu (xs.map (·.1)) a) fun w=>some (w.2,.inr (q,w.1,pr))else some (a,.inl (F,xs.map (·.1),out)))else some (a,.inl (F,xs.map (·.1),out)):=fun{q e} hd=>by
  unfold vJ;simp only;rw[za t1];simp only;rw[za hd]
 by_cases hr:(yf g).length=0
 ·rw[hB<|nA h.ok hk (by decide) (by decide) (by lia) (by lia) hr hf,ir<|by decide];refine .inl ⟨rfl,reject fun hh=> ?_⟩;rw[hn]at hr;lia
 ·obtain⟨q,e,d1,d2,d3⟩:=Vp (fu:=fu) h.ok hk (by have:=xaw (250+1) (show F.length+1<=12 by lia);lia) (by lia) (by lia) hr hf;rw[hB d1];by_cases he:e=0
  ·by_cases hQ:1<g.length
   ·right;obtain⟨e1,e2,e3⟩:=d3 he;have hq:(yf G).length≠0:=by lia
    obtain⟨q1,q2⟩:=Ve hq;rw[<-hg]at q1 q2;have hc:Tp (cf g) (g.length-1):=by
     have:=uW (a:=g) (by lia);rwa[hn]at this
    obtain⟨nq,ng⟩:=k9 hL.tp.nz e1;have hR:(yf q).length≠0:=fun e0=>by
     obtain⟨j,hj⟩:=nq;exact hj<|kz e0 j
    have hs:Tp (cf q) (q.length-1):=by
     have:=uW hR;rwa[e2]at this
    have e1':(cf F:Pz)=cf g*cf q:=by rw[e1,zj]
    have ncg:¬Kz (cf g):=fun hC=>by
     have:=(Kz.tp hc).1 hC;lia
    have hD:∀x∈xs,Di p (ci x.2) (cf g)↔x∈B2 xs a c:=fun x hx=>hL.pick (OH ha) hc hs e1' (γ:=wq G) (by
     rw[hm];exact(hJ.down<|jd hL.k1).trans<|Cg.rfl.mul<|GW fun y hy=>hL.el y<|OH ha y hy) hx
    have hS:=zak p1 hz hL.pw;have hV:(own p (cf g) xs).length<=c:=by
     classical
     have h1:(own p (cf g) xs).Nodup:=by unfold own;exact hS.sublist List.filter_sublist
     have h2:=UB h1 (us:=B2 xs a c) fun x hx=>(hD x (JL.1 hx).1).1 (JL.1 hx).2;have h3:(B2 xs a c).length=c:=by unfold B2;simp
     lia
    have hT:=h.ls (cf g) (cf q) (Fs.cf g) (Fs.cf q) e1' ncg;have hE:=Ls.ir hL h.ls hF (Fs.cf g) (Fs.cf q) e1' q1 ncg (by lia);have ht:0<cf g (g.length-1):=by
     obtain⟨m,m1,m2⟩:=q2.tp;have:=m1.uniq hc;rw[<-this];exact m2
    have hu:=hL.step hc hs ht e1;have hW:(own p (cf g) xs).length+(Fv p (cf g) xs).length=xs.length:=by
     classical
     unfold own Fv;exact NU (fun x:Lx=>decide<|Di p (ci x.2)<|cf g) xs
    have hX:0<p^k:=by lia
    have hw:(((xbc (xs.map (·.1)).length).filter fun i:Nat=> !decide ((i:Int)∈a)).map fun i=>(xs.map (·.1)).getD i [])=(Fv p (cf g) xs).map (·.1):=by
     classical
     have e4:Fv p (cf g) xs=((xbc xs.length).filter fun i:Nat=> !decide ((i:Int)∈a)).map fun i=>xs.getD i ([],[]):=by
      unfold Fv;conv=>lhs;rw[Nb ([],[]) xs]
      rw[List.filter_map];refine congrArg _<|List.filter_congr fun i hi=> ?_;have hi:=xbf.1 hi;show(!decide (Di p (ci (xs.getD i ([],[])).2)<|cf g))=_;have h5:=(hD _<|gZ hi).trans<|zgv p1 hz hL.pw ha hi;by_cases h6:(i:Int)∈a
      ·rw[decide_eq_true h6,decide_eq_true<|h5.2 h6]
      ·rw[decide_eq_false h6,decide_eq_false fun h7=>h6<|h5.1 h7]
     rw[e4,xcT,xaP];refine xci fun i _=> ?_;exact IB
    have h':=ha.ln;refine⟨(q,(Fv p (cf g) xs).map (·.1),out++[g]),a,?_,q,Fv p (cf g) xs,out++[g],rfl,?_,by lia⟩
    ·rw[iq he,zN,yJ,zf,za<|DV (by rw[xaP];lia) (by lia) hf,hw]
    ·have hU:∀j,Bz 250 (cf q j):=zi8 h.bd ng (Fs.cf g) (Fs.cf q) e1 hv;refine⟨hu,h.k2,e2,by rw[<-e2];exact xa hU,by lia,h.bd.dv ng (Fs.cf g) e1,h.ls.step hL (Fs.cf g) (Fs.cf q) e1,?_,?_,fun x hx=> ?_⟩
     ·rw[xax,xeG];lia
     ·rw[xbg,wm,h.pr,e1'];show prZ _*(cf g*cf q)=prZ _*(cf g*pc 1)*cf q;rw[zO,zd]
     ·rcases Nm.1 hx with hx|hx
      ·exact h.gd x hx
      ·obtain rfl:=xai.1 hx;have:x.length<=11:=by
        have:=(hc.mul hs).uniq (by rw[<-e1'];exact hL.tp);lia
       exact⟨hn,hE,q2,hk,this⟩
   ·rw[iq he,zy];exact .inl ⟨rfl,reject fun hh=>hQ hh.2⟩
  ·rw[ir he];exact .inl ⟨rfl,reject fun hh=>he<|d2.2 hh.1⟩
theorem zhj{is:List (Fin xs.length)}(hp:is.Pairwise (· < ·)):mM xs.length is.length (is.map fun i=>(i.val:Int))/\B2 xs (is.map fun i=>(i.val:Int)) is.length=is.map (xs[·]):=by
 have ha:∀j (hj:j<is.length),ci (is.map fun i=>(i.val:Int)) j=(is[j].val:Int):=fun j hj=>by
  rw[<-ZO,H1,xaT,xaa hj];rfl
 have hb:∀i j (hi:i<is.length) (hj:j<is.length),i<j->is[i].val<is[j].val:=fun i j hi hj hd=>xcW.1 hp i j hi hj hd;have hc:∀d i (hi:i+d<is.length),is[i].val+d<=is[i+d].val:=fun d=>by
  induction d with
  |zero=>intro i hi;exact xab _
  |succ d ih=>
   intro i hi;have h1:=ih i (by lia);have h2:=hb (i+d) (i+(d+1)) (by lia) hi (by lia);lia
 refine⟨⟨by simp,fun i hi=> ?_,fun i hi=> ?_,fun i hi=> ?_⟩,?_⟩
 ·rw[ha i hi];have:=hc i 0 (by lia);simp only[xaN]at this;lia
 ·rw[ha i hi];have h1:=hc (is.length-1-i) i (by lia);have h2:=is[i+(is.length-1-i)].isLt;lia
 ·rw[ha i (by lia),ha (i+1) hi];have:=hb i (i+1) (by lia) hi (by lia);lia
 ·unfold B2;refine xeR (by simp) fun i h1 h2=> ?_;rw[xaP]at h2;rw[xfF,List.getElem_range,xfF,ha i h2,xaK,H1,xaa is[i].isLt];rfl
theorem Ie{F:List Zr}(h0:Ch p k f0 F xs [] 1)(hf:3000000<=fu):
 ∃s,zg (fun L x=>uq fu (yH<|p^k) x L) fu (F,xs.map (·.1),[],1)=some s/\∃(F:List Zr) (xs:List Lx) (out:List (List Zr)) (c:Nat),s=(F,xs.map (·.1),out)/\Ch p k f0 F xs out c/\xs.length<2*c:=by
 exact yv (f:=fun L x=>uq fu (yH<|p^k) x L) (fun s:List Zr×List (List Zr)×List (List Zr)×Int=>∃(F:List Zr) (xs:List Lx) (out:List (List Zr)) (c:Nat),s=(F,xs.map (·.1),out,(c:Int))/\Ch p k f0 F xs out c/\1<=c/\c<=6) (fun s=>s.2.1.length*20+(20-s.2.2.2.toNat))
  (fun r=>∃(F:List Zr) (xs:List Lx) (out:List (List Zr)) (c:Nat),r=(F,xs.map (·.1),out)/\Ch p k f0 F xs out c/\xs.length<2*c) (by
  rintro s L ⟨F,xs,out,c,rfl,hC,hb,hg⟩ ih
  unfold uq
  simp only
  have hj:=hC.ct
  rw[zb,xaP]
  by_cases h2:2*c<=xs.length
  ·rw[zN]
   have hc:=fun a ha=>L5 (fu:=fu) (a:=a) hC hb (show c<=5 by lia) ha hf
   rcases EA (fu:=fu) (N:=xs.length) (c:=c) (g:=vJ fu<|yH<|p^k) (x0:=(F,xs.map (·.1),out)) (Rej:=fun a=>∀u v,Fs u->Fs v->cf F=u*v->¬Kz u->own p u xs≠B2 xs a c) (Acc:=fun a y=>∃F' xs' out',y=(F',xs'.map (·.1),out')/\Ch p k f0 F' xs' out' c/\xs'.length<xs.length) hb (by lia) (by lia) (by lia) hf hc with⟨e,hr⟩|⟨a,y,ha,⟨F',xs',out',rfl,hi,hk⟩,e⟩
   ·rw[za e]
    rw[Sum.elim_inl]
    simp only
    rw[zb]
    refine ih _ ⟨F,xs,out,c+1,by rw[show((c+1:Nat):Int)=(c:Int)+1 by lia],?_,by lia,by lia⟩ (by
     show(xs.map (·.1)).length*20+(20-((c:Int)+1).toNat)<(xs.map (·.1)).length*20+(20-(c:Int).toNat);lia)
    refine⟨hC.lc,hC.k2,hC.can,hC.ok,hC.ln,hC.bd,fun u v fu' fv e nc=> ?_,hC.ct,hC.pr,hC.gd⟩
    have h3:=hC.ls u v fu' fv e nc
    by_cases h4:(own p u xs).length=c
    ·exfalso
     have hd:(own p u xs).Sublist xs:=by unfold own;exact List.filter_sublist
     obtain⟨is,e5,e6⟩:=List.sublist_eq_map_getElem hd
     obtain⟨i1,i2⟩:=zhj e6
     have he:is.length=c:=by rw[<-h4,e5,xaP]
     rw[he]at i1 i2
     exact hr _ i1 u v fu' fv e nc<|by rw[i2,e5]
    ·lia
   ·rw[za e]
    rw[Sum.elim_inr]
    refine ih _ ⟨F',xs',out',c,rfl,hi,hb,hg⟩ ?_
    show(xs'.map (·.1)).length*20+(20-(c:Int).toNat)<(xs.map (·.1)).length*20+(20-(c:Int).toNat)
    rw[xaP,xaP]
    lia
  ·rw[zy]
   exact⟨_,rfl,F,xs,out,c,rfl,hC,by lia⟩) fu (F,xs.map (·.1),[],1) ⟨F,xs,[],1,rfl,h0,by lia,by lia⟩ (by
   show(xs.map (·.1)).length*20+(20-(1:Int).toNat)<fu
   rw[xaP]
   have:=h0.ct
   lia)
theorem IQ{F:List Zr}(h0:Ch p k (cf F) F xs [] 1)(hf:3000000<=fu):
 ∃out,ud fu F (xs.map (·.1)) (yH<|p^k)=some out/\out.length<=11/\(∀g∈out,Gd g)/\cf F=prZ (out.map fun g=>(cf g:Pz)):=by
 obtain⟨f0,hb⟩:∃f0:Pz,f0=cf F:=⟨_,rfl⟩;rw[<-hb]at h0⊢;obtain⟨s,hs,F',xs',out',c',rfl,hC,hi⟩:=Ie h0 hf;unfold ud;rw[za hs];simp only;have hj:=hC.ct;have hl:=hC.l0;have hm:=hC.ln;have ha:=hC.lc.pm;by_cases h1:1<F'.length
 ·have hn:(yf F').length≠0:=by rw[hC.can];lia
  have hc:wq F'=1:=by
   have a1:=ig F';rw[hC.can]at a1;have a2:=(ha _ (eT fun k hk=>ye hk):Z6 (cf F') F'.length=1);have a3:wq F'=if cf (yf F') ((yf F').length-1)<0 then-((Z6 (cf F') (yf F').length:Nat):Int)else((Z6 (cf F') (yf F').length:Nat):Int):=rfl;rw[hC.can,ir (by have:=hC.lc.ps;lia),a2]at a3;exact a3
  have hP:wB F'=F':=Qa (W2 F') hC.can fun k=>by rw[Y7,hc,Int.ediv_one]
  have he:Ir (cf F'):=by
   have nc:¬Kz (cf F'):=fun h=>by have:=(Kz.tp hC.lc.tp).1 h;lia
   have hc1:1<=c'\/c'=0:=by lia
   rcases hc1 with hc1|hc1
   ·refine Ls.ir hC.lc hC.ls hc1 (Fs.cf F') (Fs.pc 1) (zO _).symm ha nc ?_;have:(own p (cf F') xs').length<=xs'.length:=by unfold own;exact xfD _ _
    lia
   ·lia
  refine⟨out'++[F'],?_,by rw[xax,xeG];lia,fun g hg=> ?_,?_⟩
  ·rw[zN,za<|vM hC.ok (by decide) (by lia) hf,hP,yJ,zf]
  ·rcases Nm.1 hg with hg|hg
   ·exact hC.gd g hg
   ·obtain rfl:=xai.1 hg;exact⟨hC.can,he,⟨_,hC.lc.ps,hC.lc.tp.2⟩,hC.ok,hC.ln⟩
  ·rw[hC.pr,xbg,wm];show _=prZ _*(cf F'*pc 1);rw[zO]
 ·refine⟨out',by rw[zy],by lia,hC.gd,?_⟩;obtain⟨d,hd⟩:=((Kz.tp hC.lc.tp).2<|by lia).ex;rw[hd]at ha;have h3:=hC.lc.ps;have h4:cf F' (F'.length-1)=d:=by rw[hd,show F'.length-1=0 by lia];exact iq rfl
  rw[hC.pr,hd];rcases tD ha with e|e
  ·rw[e,zO]
  ·lia
end
section
variable{a b K fu bx by_:Nat}{x y:Int}
def Bb(b:Nat)(x:Int):Prop:=x.natAbs<2^b
theorem Bb.mono(h:Bb a x)(ha:a<=b):Bb b x:=xan h<|xay (by decide) ha
theorem Bb.mul(hx:Bb a x)(hy:Bb b y):Bb (a+b) (x*y):=by
 unfold Bb at*
 rw[xcg,xbZ];by_cases h:y.natAbs=0
 ·rw[h,xcN];exact Nat.mul_pos (xbk<|by decide)<|xbk<|by decide
 ·exact Nat.mul_lt_mul_of_lt_of_le hx (xcS hy)<|by lia
theorem Bb.sub(hx:Bb b x)(hy:Bb b y):Bb (b+1) (x-y):=by grind [Bb,xbb]
theorem Bb.zero(b:Nat):Bb b 0:=xbk<|by decide
theorem Bb.bz(h:Bb b x)(hK:b<=64*K):Bz K x:=by
 unfold Bz;rw[show(18446744073709551616:Nat)=2^64 by decide,<-xdf];exact xan h<|xay (by decide) hK
theorem Bb.le(hy:Bb b y)(h:x.natAbs<=y.natAbs):Bb b x:=xba h hy
theorem Bb.pow{b:Nat}{x:Int}(h:Bb b x):∀n,Bb (n*b+1) (x^n)
 |0=>by rw[xbs];unfold Bb;rw[xcv];decide
 |n+1=>by
  rw[xbl,xaV,xcm,Nat.add_right_comm];exact(Bb.pow h n).mul h
theorem Bb.pow'{b:Nat}{x y:Int}{c:Nat}(h:Bb b x)(hy:Bb c y):∀n,Bb (n*b+c) (x^n*y)
 |0=>by rw[xbs,xca,xcv,xaN];exact hy
 |n+1=>by
  rw[xbl,Int.mul_right_comm,xaV,xcm,Nat.add_right_comm];exact(Bb.pow' h hy n).mul h
theorem mI{n:Nat}{a:Int}(hn:n<=65536)(hb:∀d,d<=n->Bz K (a^d))(h1:Bz K a)(hK:K<=40000)(hf:3000000<=fu):WQ fu (yH a) (n:Int)=some (yH<|a^n):=by
 unfold WQ;rw[za (z6<|by decide),za (v:=yH<|a^n)];refine zx (fun s:Int×Zr=>∃i:Nat,s=((i:Int),yH<|a^i)/\i<=n) (fun s=>n-s.1.toNat) _ ?_ _ _ ⟨0,by rw[xbs];rfl,xah _⟩ (by show n-0<fu;lia);rintro s L ⟨i,rfl,hi⟩ ih;unfold UZ;simp only;by_cases h:i<n
 ·rw[zN,za<|ya ((hb i hi).ok<|by lia) (h1.ok<|by lia) hf,zw,zw,zb,<-xbl];exact ih _ ⟨i+1,rfl,by lia⟩ (by show n-((i:Int)+1).toNat<n-(i:Int).toNat;lia)
 ·rw[zy];obtain rfl:i=n:=by lia
  rfl
structure PsI(x y:Pz)(l:Int)(ly n bx by_ k:Nat)(Q ρ:Pz):Prop where
 fq:Fs Q
 eq:pc (l^(n-k))*x=Q*y+ρ
 z:∀j,k+(ly-1)<=j->ρ j=0
 b:∀j,Bb (bx+(n-k)*(by_+1))<|ρ j
theorem PsI.step{x y:Pz}{l:Int}{ly n k:Nat}{Q ρ:Pz}(h:PsI x y l ly n bx by_ (k+1) Q ρ)(hk:k+1<=n)(hy:Tp y (ly-1))(hl:y (ly-1)=l)(hb:∀j,Bb by_<|y j):
 PsI x y l ly n bx by_ k (pc l*Q+mono k (ρ<|k+(ly-1))) (fun j=>l*ρ j-ρ (k+(ly-1))*sh y k j):=by
 have e1:n-k=n-(k+1)+1:=by lia
 have ha:bx+(n-k)*(by_+1)=by_+(bx+(n-(k+1))*(by_+1))+1:=by rw[e1,xaV];lia
 refine⟨((Fs.pc l).mul h.fq).add ⟨k+1,fun j hj=>zy⟩,?_,fun j hj=> ?_,fun j=> ?_⟩
 ·rw[e1,xbl,xbm,<-qZ,zd,h.eq,xy,yg,zd];funext j;rw[zI,zI,zI,Zz,zE l ρ];show _=_+_+(l*ρ j-ρ (k+(ly-1))*sh y k j);lia
 ·show l*ρ j-ρ (k+(ly-1))*sh y k j=0;unfold sh;rw[zN];by_cases e:j=k+(ly-1)
  ·rw[e,show k+(ly-1)-k=ly-1 by lia,hl,xbm];lia
  ·rw[h.z j (by lia),hy.2 _<|by lia];lia
 ·rw[ha];refine Bb.sub ((show Bb by_ l by rw[<-hl];exact hb _).mul<|h.b j) ?_;rw[xdD by_];refine(h.b _).mul ?_;unfold sh;split
  ·exact hb _
  ·exact Bb.zero _
theorem zhl{n:Nat}{l:List Zr}(j:Nat):cf (xaf n (false,[])++l) j=sh (cf l) n j:=by
 unfold sh;by_cases h:n<=j
 ·rw[iq h];unfold cf;rw[H1,xcn (by rw[xaZ];exact h),xaZ,<-H1]
 ·rw[ir h];unfold cf;rw[H1,xbq (by rw[xaZ];lia),xfe];rw[zN];rfl
theorem gV{x y:List Zr}(hx:yf x=x)(hy:yf y=y)(hl:y.length<=x.length)(hH:0<y.length)(hJ:x.length<=60)(bX:∀j,Bb bx<|cf x j)(bY:∀j,Bb by_<|cf y j)(hT:bx+(x.length-y.length+1)*(by_+1)<=2400000)(hf:3000000<=fu):
 ∃q r c Q,YP fu x y=some (q,r,0)/\yf r=r/\r.length<y.length/\c≠0/\Fs Q/\(pc c*cf x:Pz)=Q*cf y+cf r/\∀j,Bb (bx+(x.length-y.length+1)*(by_+1)) (cf r j):=by
 obtain⟨n,hn⟩:∃n,n=x.length-y.length+1:=⟨_,rfl⟩;rw[<-hn]at hT⊢;obtain⟨T,hK⟩:∃T,T=bx+n*(by_+1):=⟨_,rfl⟩;have ty:Tp (cf y) (y.length-1):=by
  have:=uW (a:=y) (by rw[hy];lia);rwa[hy]at this
 obtain⟨l,he⟩:∃l,l=cf y (y.length-1):=⟨_,rfl⟩;have hb:l≠0:=by rw[he];exact ty.1
 have bl_:Bb by_ l:=by rw[he];exact bY _
 have hi:∀d,d<=n->d*(by_+1)<=n*(by_+1):=fun d hd=>xaw _ hd;have hm:∀d:Nat,d*(by_+1)=d*by_+d:=fun d=>by rw[xbh,xcG]
 have hL:by_+1<=T:=by have:=hi 1 (by lia);rw[xcm]at this;lia
 have oX:y9 37500 x:=by rw[<-hx];exact xa fun j=>(bX j).bz<|by lia
 have oY:y9 37500 y:=by rw[<-hy];exact xa fun j=>(bY j).bz<|by lia
 have bpw:∀d,d<=n->Bz 37501 (l^d):=fun d hd=>(Bb.pow bl_ d).bz (by have:=hi d hd;have:=hm d;lia);have bpx:∀d,d<=n->∀z,Bb (bx+(n-d)*(by_+1)) z->Bb T (l^d*z):=fun d hd z hz=>(Bb.pow' bl_ hz d).mono (by
  have h1:=hm d;have h2:n*(by_+1)=d*(by_+1)+(n-d)*(by_+1):=by rw[<-xaV];congr 1;lia
  lia)
 have hA:y.getD (y.length-1) (false,[])=yH l:=by rw[he];exact La (show y=vP y.length (cf y)from hy.symm)
 obtain⟨r0,hg⟩:∃r0,r0=vP x.length (fun j=>cf x j*l^n):=⟨_,rfl⟩;have hq:∀j,cf r0 j=l^n*cf x j:=fun j=>by rw[hg,jy (fun j hj=>by rw[ye hj,xaS]),xbm]
 obtain⟨s,hs,r,q,rfl,ρ,Q,r1,r2,r3,r4⟩:=yv (f:=XR fu<|yH l) (fun s:List Zr×List Zr×Int×List Zr=>∃(k:Nat) (r q:List Zr),s=(y,r,(k:Int)-1,q)/\k<=n/\yf r=r/\r.length<=x.length+60*(n-k)/\q.length=n/\y9 37500 q/\∃Q ρ,PsI (cf x) (cf y) l y.length n bx by_ k Q ρ/\∀j,cf r j=l^k*ρ j) (fun s=>(s.2.2.1+1).toNat)
  (fun t=>∃(r q:List Zr),t=(r,q)/\∃ρ Q,yf r=r/\(q.length=n/\y9 37500 q)/\PsI (cf x) (cf y) l y.length n bx by_ 0 Q ρ/\∀j,cf r j=ρ j) (by
  rintro s L ⟨k,r,q,rfl,hk,hr,hM,ho,hp,Q,ρ,hI,hc⟩ ih
  unfold XR
  simp only
  cases k with
  |zero=>
   rw[zy]
   exact⟨_,rfl,r,q,rfl,ρ,Q,hr,⟨ho,hp⟩,hI,fun j=>by rw[hc j,xbs,xca]⟩
  |succ k=>
   have hG:60*(n-(k+1))+60=60*(n-k):=by lia
   have hN:60*(n-k)<=60*60:=xaD _<|by lia
   have ht:=hI.step hk ty he.symm bY
   have bR:∀j,Bb T (cf r j):=fun j=>by rw[hc j];exact bpx (k+1) hk _<|hI.b j
   have oR:y9 37500 r:=by rw[<-hr];exact xa fun j=>(bR j).bz<|by lia
   rw[show((k+1:Nat):Int)-1=(k:Int)by lia,zN,zb]
   by_cases hO:r.length<k+y.length
   ·have hB:ρ (k+(y.length-1))=0:=by
     have h1:=hc<|k+(y.length-1);rw[ye<|by lia]at h1;rcases xeF.1 h1.symm with h2|h2
     ·exact absurd h2<|Int.pow_ne_zero hb
     ·exact h2
    rw[zN,zb]
    refine ih _ ⟨k,r,q,rfl,by lia,hr,by lia,ho,hp,_,_,ht,fun j=> ?_⟩ (by show((k:Int)-1+1).toNat<(((k+1:Nat):Int)-1+1).toNat;lia)
    show cf r j=l^k*(l*ρ j-ρ (k+(y.length-1))*sh (cf y) k j)
    rw[hB,xaS,xcE,hc j,xbl,xbK]
   ·have hC:r.length=k+y.length:=by
     by_cases e:r.length=k+y.length
     ·exact e
     ·exfalso;have h1:=ZB (show r=vP r.length (cf r)from hr.symm) (by lia);rw[hc,hI.z _ (by lia),xau]at h1;exact h1 rfl
    obtain⟨w,hw⟩:∃w,w=ρ (k+(y.length-1)):=⟨_,rfl⟩
    have hD:cf r (k+(y.length-1))=l^k*w*l:=by rw[hc,<-hw,xbl,Int.mul_right_comm]
    have bw:Bb T (l^k*w):=by
     refine bpx k (by lia) w ((hI.b _).mono ?_|>fun h=>by rw[hw];exact h);have:=hi (n-(k+1)) (by lia);have h3:(n-k)*(by_+1)=(n-(k+1))*(by_+1)+(by_+1):=by rw[show n-k=n-(k+1)+1 by lia,xaV,xcm]
     lia
    have bwy:∀j,Bb T (cf y j*(l^k*w)):=fun j=>by
     have h1:Bb (by_+(k*by_+(bx+(n-(k+1))*(by_+1)))) (cf y j*(l^k*w)):=(bY j).mul<|Bb.pow' bl_ (by rw[hw];exact hI.b _) k;refine h1.mono ?_;have h2:n*(by_+1)=(k+1)*(by_+1)+(n-(k+1))*(by_+1):=by rw[<-xaV];congr 1;lia
     have h3:=hm<|k+1;rw[xaV k 1 by_,xcm]at h3;lia
    have hE:exE (l^k*w*l) l=0:=by unfold exE;rw[ir hb,iq<|Int.mul_emod_left _ _]
    have hX:exI (l^k*w*l) l=l^k*w:=by unfold exI;rw[ir hb,iq<|Int.mul_emod_left _ _,Int.mul_ediv_cancel _ hb]
    rw[zy,zb,show(k:Int)+(y.length:Int)-1=((k+(y.length-1):Nat):Int)by lia,zb,yj,zf,za<|XN (oR.okS (by decide) _) ((bl_.bz (K:=37500)<|by lia).okS<|by decide) hf,VG,zw,hD,hX,hE]
    simp only
    have hu:(q.set k<|yH<|l^k*w).getD k (false,[])=yH (l^k*w):=by rw[H1,List.getElem?_set_self<|by lia];rfl
    rw[yj,zf,yE,yJ,zf,zp (by rw[xcK];lia),zf,hu,za<|qL (l:=37500) oY ⟨yT _,(bw.bz (K:=37500)<|by lia).len⟩ (by decide) (by lia) hf,zw]
    obtain⟨part,ha⟩:∃part,part=vP y.length (fun j=>cf y j*(l^k*w)):=⟨_,rfl⟩
    have hF:∀j,cf part j=cf y j*(l^k*w):=fun j=>by rw[ha,jy<|fun j hj=>by rw[ye hj,xaS]]
    have hP:part.length<=y.length:=by rw[ha,xJ];exact vZ _ _
    have oPt:y9 37500 part:=by rw[ha];exact xa fun j=>(bwy j).bz<|by lia
    have oSum:y9 37500 (xaf k (false,[])++part):=fun z hz=>by
     rcases Nm.1 hz with hz|hz
     ·rw[(List.mem_replicate.1 hz).2];exact⟨zm.nil,xah _⟩
     ·exact oPt z hz
    rw[<-ha,wC (by rw[xaZ];lia),zf,za<|jQ oR oSum (by decide) (by lia) (by rw[xax,xaZ];lia) hf,zb]
    refine ih _ ⟨k,_,_,rfl,by lia,(uC _ _).symm,?_,by rw[xcK];exact ho,?_,_,_,ht,fun j=> ?_⟩ (by show((k:Int)-1+1).toNat<(((k+1:Nat):Int)-1+1).toNat;lia)
    ·have:=QN r<|xaf k (false,[])++part
     rw[xax,xaZ]at this
     lia
    ·intro z hz
     rcases xeN hz with h1|h1
     ·exact hp z h1
     ·rw[h1];exact⟨yT _,(bw.bz (K:=37500)<|by lia).len⟩
    ·rw[NT,zhl,hc j]
     show l^(k+1)*ρ j-sh (cf part) k j=l^k*(l*ρ j-ρ (k+(y.length-1))*sh (cf y) k j)
     rw[<-hw]
     have e2:sh (cf part) k j=l^k*(w*sh (cf y) k j):=by
      unfold sh;split
      ·rw[hF,xbm,xbK]
      ·rw[xau,xau]
     rw[e2,xbl,Int.mul_sub,xbK]) fu (y,r0,(n:Int)-1,xaf n (false,[])) ⟨n,r0,_,rfl,xab _,by rw[hg];exact(uC _ _).symm,by rw[hg,xJ];have:=vZ (fun j=>cf x j*l^n) x.length;lia,xaZ,fun z hz=>by rw[(List.mem_replicate.1 hz).2];exact⟨zm.nil,xah _⟩,pc 0,cf x,⟨Fs.pc 0,by
    rw[xda,xbs,zt,yb];exact funext fun j=>by rw[zI,zL,xcD],fun j hj=>ye (by lia),fun j=>by rw[xda,xcv];exact bX j⟩,hq⟩ (by show((n:Int)-1+1).toNat<fu;lia)
 refine⟨vP q.length<|cf q,r,l^n,Q,?_,r1,?_,Int.pow_ne_zero hb,r3.fq,?_,fun j=>by rw[r4 j];exact r3.b j⟩
 ·unfold YP;have hv:max ((x.length:Int)-y.length+1) 0=(n:Int):=by lia
  rw[za<|zC oX (by decide) (by lia) hf,za<|zC oY (by decide) (by lia) hf,show vP x.length (cf x)=x from hx,show vP y.length (cf y)=y from hy,zy,zb,zb,zf,hv,show(y.length:Int)-1=((y.length-1:Nat):Int)by lia,zb,yj,zf,hA,za<|mI (by lia) bpw ((bl_.bz (K:=37501)<|by lia)) (by decide) hf,za<|qL (l:=37501) oX ⟨yT _,(bpw n<|xab _).len⟩ (by decide) (by lia) hf,zw,<-hg,yE,yJ,zf,zb,za hs];simp only;rw[za<|zC r2.2 (by decide) (by lia) hf]
 ·by_cases e:r.length=0
  ·lia
  ·have h1:=ZB (show r=vP r.length (cf r)from r1.symm) e;by_cases h2:r.length<y.length
   ·exact h2
   ·rw[r4,r3.z _<|by lia]at h1;exact absurd rfl h1
 ·have:=r3.eq;rw[Nat.sub_zero]at this;rw[this,show(cf r:Pz)=ρ from funext r4]
end
section
def fac:Nat->Int
 |0=>1
 |n+1=>((n+1:Nat):Int)*fac n
theorem uy:∀n,0<fac n
 |0=>by decide
 |n+1=>Int.mul_pos (by lia)<|uy n
def ip(n:Nat)(f g:Pz):Int:=zX (n+1) fun s=>fac s*fac (n-s)*(f s*g s)
theorem WJ(n:Nat)(f g:Pz):ip n f g=ip n g f:=zV fun s _=>by rw[xbm<|f s]
theorem MA(n:Nat)(f g h:Pz):ip n (f+g) h=ip n f h+ip n g h:=by
 unfold ip;rw[<-Zo];exact zV fun s _=>by rw[zI,Int.add_mul,xeX]
theorem n5(n:Nat)(f g h:Pz):ip n h (f+g)=ip n h f+ip n h g:=by grind [WJ,MA]
theorem H3(n:Nat)(c:Int)(f h:Pz):ip n (pc c*f) h=c*ip n f h:=by
 unfold ip;rw[<-jT];exact zV fun s _=>by rw[zE,xbK c<|f s,Int.mul_left_comm]
theorem lK(n:Nat)(c:Int)(f h:Pz):ip n h (pc c*f)=c*ip n h f:=by rw[WJ,H3,WJ]
theorem Eh{f:Nat->Int}:∀{n},(∀k,k<n->0<=f k)->0<=zX n f
 |0,_=>xeY 0
 |n+1,h=>Int.add_nonneg (Eh fun k hk=>h k<|by lia)<|h n<|by lia
theorem zge(n:Nat)(f:Pz):0<=ip n f f:=Eh fun s _=>xcB (xcB (xdF<|uy _)<|xdF<|uy _)<|jr _
def xP:Pz:=mono 1 1
theorem zjz(f:Pz):(xP*f) 0=0:=by
 unfold xP;rw[Zz];rfl
theorem zjY(f:Pz)(k:Nat):(xP*f) (k+1)=f k:=by simp_all [sh,xP,Zz]
theorem adx(n:Nat)(f g:Pz):ip (n+1) (xP*f) g=ip n f (dvp g):=by
 unfold ip;rw[ks,zjz,xaS,xau,xcD];refine zV fun s hs=> ?_;rw[zjY,show n+1-(s+1)=n-s by lia];show((s+1:Nat):Int)*fac s*fac (n-s)*(f s*g (s+1))=fac s*fac (n-s)*(f s*(((s+1:Nat):Int)*g (s+1)));grind
def dy(n:Nat)(f:Pz):Pz:=pc (n:Int)*f-xP*dvp f
theorem FH(n:Nat)(f:Pz)(k:Nat):dy n f k=((n:Int)-k)*f k:=by
 unfold dy;rw[yz,zE]
 cases k with
 |zero=>rw[zjz];grind
 |succ k=>
  rw[zjY];show(n:Int)*f (k+1)-((k+1:Nat):Int)*f (k+1)=_;grind
theorem ady(n:Nat)(f g:Pz)(hf:f (n+1)=0):ip (n+1) f g=ip n f (dy (n+1) g):=by
 unfold ip;show zX (n+1) _+fac (n+1)*fac (n+1-(n+1))*(f (n+1)*g (n+1))=_;rw[hf,xaS,xau,xbD];refine zV fun s hs=> ?_;rw[FH,show n+1-s=(n-s)+1 by lia];show fac s*(((n-s+1:Nat):Int)*fac (n-s))*(f s*g s)=_;have e:((n-s+1:Nat):Int)=((n+1:Nat):Int)-s:=by lia
 rw[e];grind
theorem eul(n:Nat)(f:Pz):pc (n:Int)*f=xP*dvp f+dy n f:=by
 unfold dy;funext k;rw[zI,yz];lia
theorem zh5(n m:Nat)(f g:Pz):dy (n+m) (f*g)=dy n f*g+f*dy m g:=by
 have h1:pc ((n+m:Nat):Int)*(f*g)=pc (n:Int)*f*g+f*(pc (m:Int)*g):=by
  rw[zz f,zd];funext k;rw[zI,zE,zE,zE];grind
 have h2:xP*(dvp f*g+f*dvp g)=xP*dvp f*g+f*(xP*dvp g):=by rw[xy,zd,zz f]
 unfold dy;rw[X8,h1,h2,wO,vj];funext k;simp only[zI,yz];lia
theorem zcQ(n:Nat)(f:Pz):dvp (dy (n+1) f)=dy n (dvp f):=funext fun k=>by
 rw[FH];show((k+1:Nat):Int)*dy (n+1) f (k+1)=((n:Int)-k)*(((k+1:Nat):Int)*f (k+1));rw[FH];have e:((n+1:Nat):Int)-((k+1:Nat):Int)=(n:Int)-k:=by lia
 rw[e,Int.mul_left_comm]
def Dg(n:Nat)(f:Pz):Prop:=∀k,n<k->f k=0
theorem Dg.dx{n:Nat}{f:Pz}(h:Dg (n+1) f):Dg n (dvp f):=fun k hk=>by
 show((k+1:Nat):Int)*f (k+1)=0;rw[h _ (by lia),xau]
theorem Dg.dy{n:Nat}{f:Pz}(h:Dg (n+1) f):Dg n (dy (n+1) f):=fun k hk=>by
 rw[FH];by_cases e:k=n+1
 ·rw[e,xdb,xaS]
 ·rw[h k (by lia),xau]
theorem Dg.mul{n m:Nat}{f g:Pz}(hf:Dg n f)(hg:Dg m g):Dg (n+m) (f*g):=fun k hk=>vL (n:=n+1) (m:=m+1) (fun j hj=>hf j<|by lia)<|fun j hj=>hg j<|by lia
theorem Dg.add{n:Nat}{f g:Pz}(hf:Dg n f)(hg:Dg n g):Dg n (f+g):=fun k hk=>by rw[zI,hf k hk,hg k hk];rfl
theorem Dg.num{f:Pz}(h:Dg 0 f):f=pc (f 0):=funext fun k=>by
 unfold pc;by_cases e:k=0
 ·rw[iq e,e]
 ·rw[ir e,h k<|by lia]
section
variable(a:Nat)(u:Pz)
theorem zfE{m b q0:Nat}{v p q:Pz}(hp:Dg (m+1) p)(hu:Dg a u)(e:b+q0=m+1+a):
 ((m+1:Nat):Int)*ip (m+1+a) (p*u) (v*q)=ip (m+a) (dvp p*u) (dvp v*q)+ip (m+a) (dy (m+1) p*u) (dy b v*q)+(ip (m+a) (dvp p*u) (v*dvp q)+ip (m+a) (dy (m+1) p*u) (v*dy q0 q)):=by
 rw[<-H3,<-zd,eul,yg,MA,zd,show m+1+a=m+a+1 by lia,adx,ady _ _ _ (hp.dy.mul hu _<|by lia),X8,n5,show m+a+1=b+q0 by lia,zh5,n5];lia
def Fk:Nat->Nat->Nat->Pz->Pz->Pz->Int
 |0,pb,_,v,p,q=>ip (pb+a) (p*u)<|v*q
 |k+1,pb,qa,v,p,q=>Fk k (pb-1) (qa-1) v (dvp p) (dvp q)+Fk k (pb-1) (qa-1) v (dy pb p) (dy qa q)
theorem EP(hu:Dg a u):∀(k:Nat) {m b q0:Nat}{v p q:Pz},k<=m->m<=q0->b+(q0+1)=m+1+a->Dg (m+1) p->
 ((m+1:Nat)-(k:Int))*Fk a u k (m+1) (q0+1) v p q=Fk a u k m (q0+1) (dvp v) (dvp p) q+Fk a u k m (q0+1) (dy b v) (dy (m+1) p) q+Fk a u (k+1) (m+1) (q0+1) v p q
 |0,m,b,q0,v,p,q,_,_,e,hp=>by
  have:=zfE a u (v:=v) (q:=q) hp hu e;show((m+1:Nat)-((0:Nat):Int))*ip (m+1+a) (p*u) (v*q)=ip (m+a) (dvp p*u) (dvp v*q)+ip (m+a) (dy (m+1) p*u) (dy b v*q)+(ip (m+a) (dvp p*u) (v*dvp q)+ip (m+a) (dy (m+1) p*u) (v*dy (q0+1) q));rw[<-this];congr 1
 |k+1,0,_,_,_,_,_,h,_,_,_=>by lia
 |k+1,m+1,b,0,_,_,_,_,h,_,_=>by lia
 |k+1,m+1,b,q0+1,v,p,q,h1,h2,e,hp=>by
  have i1:=EP hu k (m:=m) (b:=b) (q0:=q0) (v:=v) (p:=dvp p) (q:=dvp q) (by lia) (by lia) (by lia) hp.dx;have i2:=EP hu k (m:=m) (b:=b) (q0:=q0) (v:=v) (p:=dy (m+1+1) p) (q:=dy (q0+1+1) q) (by lia) (by lia) (by lia) hp.dy;rw[zcQ]at i2;show((m+1+1:Nat)-((k+1:Nat):Int))*(Fk a u k (m+1) (q0+1) v (dvp p) (dvp q)+Fk a u k (m+1) (q0+1) v (dy (m+1+1) p) (dy (q0+1+1) q))=Fk a u k m (q0+1) (dvp v) (dvp<|dvp p) (dvp q)+Fk a u k m (q0+1) (dvp v) (dy (m+1)<|dvp p) (dy (q0+1+1) q)+(Fk a u k m (q0+1) (dy b v) (dvp<|dy (m+1+1) p) (dvp q)+Fk a u k m (q0+1) (dy b v) (dy (m+1)<|dy (m+1+1) p) (dy (q0+1+1) q))+(Fk a u (k+1) (m+1) (q0+1) v (dvp p) (dvp q)+Fk a u (k+1) (m+1) (q0+1) v (dy (m+1+1) p) (dy (q0+1+1) q));rw[zcQ,show((m+1+1:Nat)-((k+1:Nat):Int))=((m+1:Nat)-(k:Int))by lia,xeX,i1,i2];lia
def pD:Nat->Nat->Pz->Pz->Pz
 |0,_,p,q=>p*q
 |k+1,qa,p,q=>pD k (qa-1) (dvp p) (dvp q)+pD k (qa-1) (dy (k+1) p) (dy qa q)
theorem TC:∀(k:Nat) {qa:Nat}{v p q:Pz},Dg k p->Fk a u k k qa v p q=ip a u (v*pD k qa p q)
 |0,qa,v,p,q,h=>by
  show ip (0+a) (p*u) (v*q)=ip a u (v*(p*q));rw[h.num,xaN,H3,zz,lK]
 |k+1,qa,v,p,q,h=>by
  show Fk a u k k (qa-1) v (dvp p) (dvp q)+Fk a u k k (qa-1) v (dy (k+1) p) (dy qa q)=ip a u (v*(pD k (qa-1) (dvp p) (dvp q)+pD k (qa-1) (dy (k+1) p) (dy qa q)));rw[TC k h.dx,TC k h.dy,xy,n5]
end
theorem zcu:∀(k:Nat) {d:Nat}{p q:Pz},Dg k p->Dg (k+d) q->Dg d (pD k (k+d) p q)
 |0,d,p,q,hp,hq=>by
  have:=hp.mul hq;rw[xaN,xaN]at this;exact this
 |k+1,d,p,q,hp,hq=>by
  rw[show k+1+d=k+d+1 by lia]at hq⊢;show Dg d (pD k (k+d+1-1) (dvp p) (dvp q)+pD k (k+d+1-1) (dy (k+1) p) (dy (k+d+1) q));rw[xeu];exact(zcu k hp.dx hq.dx).add<|zcu k hp.dy hq.dy
theorem SB:∀(k:Nat) {d:Nat}{p q g:Pz},Dg k p->Dg d g->fac k*ip (k+d) q (p*g)=ip d (pD k (k+d) p q) g
 |0,d,p,q,g,hp,hg=>by
  show 1*ip (0+d) q (p*g)=ip d (p*q) g;rw[hp.num,xca,xaN,lK,H3]
 |k+1,d,p,q,g,hp,hg=>by
  have i1:=SB k (d:=d) (q:=dvp q) hp.dx hg;have i2:=SB k (d:=d) (q:=dy (k+d+1) q) hp.dy hg;rw[show k+1+d=k+d+1 by lia];show((k+1:Nat):Int)*fac k*ip (k+d+1) q (p*g)=ip d (pD k (k+d+1-1) (dvp p) (dvp q)+pD k (k+d+1-1) (dy (k+1) p) (dy (k+d+1) q)) g;rw[xeu,MA,<-i1,<-i2,xbm _<|fac k,xbK,<-lK,<-zd,eul,yg,n5,zd,WJ _ q,adx,WJ _ q,ady _ _ _ (hp.dy.mul hg _<|by lia),xeX,WJ _<|dvp q,WJ _<|dy _ q]
theorem FY{a:Nat}{u:Pz}(hu:Dg a u):∀(b:Nat) {v:Pz},Dg b v->b<=a->∀(j k:Nat),k+j=b->0<=Fk a u k b a v v u
 |b,v,hv,hb,0,k,h=>by
  obtain rfl:k=b:=by lia
  obtain⟨d,rfl⟩:∃d,a=k+d:=⟨a-k,by lia⟩;have h1:=SB k (d:=d) (q:=u) (g:=pD k (k+d) v u) hv<|zcu k hv hu;rw[TC _ _ k hv];have h2:=zge d<|pD k (k+d) v u;rw[<-h1]at h2;exact Int.nonneg_of_mul_nonneg_right h2<|uy k
 |0,v,hv,hb,j+1,k,h=>by lia
 |b+1,v,hv,hb,j+1,k,h=>by
  obtain⟨a',rfl⟩:∃a',a=a'+1:=⟨a-1,by lia⟩;have h1:=EP (a'+1) u hu k (m:=b) (b:=b+1) (q0:=a') (v:=v) (p:=v) (q:=u) (by lia) (by lia) (by lia) hv;have h2:=FY hu b hv.dx (by lia) j k (by lia);have h3:=FY hu b hv.dy (by lia) j k (by lia);have h4:=FY hu (b+1) hv hb j (k+1) (by lia);have h5:0<=((b+1:Nat)-(k:Int))*Fk (a'+1) u k (b+1) (a'+1) v v u:=by rw[h1];lia
  exact Int.nonneg_of_mul_nonneg_right h5<|by lia
theorem ziY{u:Pz}(h:Dg 0 u):dvp u=pc 0:=funext fun k=>by
 rw[zL];show((k+1:Nat):Int)*u (k+1)=0;rw[h _ (by lia),xau]
theorem zk1{u:Pz}(h:Dg 0 u):dy 0 u=pc 0:=funext fun k=>by
 rw[zL,FH];by_cases e:k=0
 ·rw[e];exact xaS _
 ·rw[h k (by lia),xau]
theorem zkm{a b:Nat}{u v:Pz}(hu:Dg a u)(hv:Dg (b+1) v):0<=ip (b+a) (dvp v*u) (v*dvp u)+ip (b+a) (dy (b+1) v*u) (v*dy a u):=by
 by_cases h:b+1<=a
 ·exact FY hu (b+1) hv h b 1<|by lia
 ·cases a with
  |zero=>
   rw[ziY hu,zk1 hu,zj v,lK,lK];lia
  |succ a=>
   have:=FY hv (a+1) hu (by lia) a 1 (by lia);have this:0<=ip (a+(b+1)) (dvp u*v) (u*dvp v)+ip (a+(b+1)) (dy (a+1) u*v) (u*dy (b+1) v):=this;rw[WJ,WJ _<|dy (a+1) u*v,zj u,zj<|dvp u,zj u,zj<|dy (a+1) u,show a+(b+1)=b+(a+1)by lia]at this;exact this
theorem ziO{a:Nat}{u:Pz}(hu:Dg a u):∀(b:Nat) {v:Pz},Dg b v->fac b*(v b*v b)*ip a u u<=ip (b+a) (v*u) (v*u)
 |0,v,hv=>by
  rw[hv.num,H3,lK,xaN];show 1*(pc (v 0) 0*pc (v 0) 0)*ip a u u<=v 0*(v 0*ip a u u);have e:pc (v 0) 0=v 0:=rfl;rw[e,xca,xbK];exact xeY _
 |b+1,v,hv=>by
  have h1:=zfE a u (b:=b+1) (q0:=a) (v:=v) (q:=u) hv hu rfl;have h2:=zkm hu hv;have h3:=zge (b+a)<|dy (b+1) v*u;have h4:=ziO hu b hv.dx;have e:dvp v b=((b+1:Nat):Int)*v (b+1):=rfl;rw[e]at h4;have h5:((b+1:Nat):Int)*(fac (b+1)*(v (b+1)*v (b+1))*ip a u u)=fac b*(((b+1:Nat):Int)*v (b+1)*(((b+1:Nat):Int)*v (b+1)))*ip a u u:=by
   show((b+1:Nat):Int)*(((b+1:Nat):Int)*fac b*(v (b+1)*v (b+1))*ip a u u)=_;generalize((b+1:Nat):Int)=x;generalize v (b+1)=y;generalize ip a u u=z;grind
  refine Int.le_of_mul_le_mul_left (a:=((b+1:Nat):Int)) ?_ (by lia);rw[h5,h1];lia
theorem nV:∀(m n:Nat),fac (m+n)<=2^(m+n)*(fac m*fac n)
 |0,n=>by
  rw[xaN];show fac n<=2^n*(1*fac n);rw[xca];have:=xbz (show(1:Int)<=2^n from Int.pow_pos<|by decide)<|xdF<|uy n;lia
 |m+1,0=>by
  show fac (m+1)<=2^(m+1)*(fac (m+1)*1);rw[xck];have:=xbz (show(1:Int)<=2^(m+1)from Int.pow_pos<|by decide)<|xdF<|uy<|m+1;lia
 |m+1,n+1=>by
  have i1:=xaW (nV m<|n+1) (show(0:Int)<=((m+1:Nat):Int)by lia);have i2:=xaW (nV (m+1) n) (show(0:Int)<=((n+1:Nat):Int)by lia);rw[show m+(n+1)=m+n+1 by lia]at i1;rw[show m+1+n=m+n+1 by lia]at i2;rw[show m+1+(n+1)=m+n+1+1 by lia];have e1:fac (m+n+1+1)=((m+1:Nat):Int)*fac (m+n+1)+((n+1:Nat):Int)*fac (m+n+1):=by
   show((m+n+1+1:Nat):Int)*fac (m+n+1)=_;rw[<-Int.add_mul];congr 1;lia
  have e2:(2:Int)^(m+n+1+1)*(fac (m+1)*fac (n+1))=((m+1:Nat):Int)*(2^(m+n+1)*(fac m*fac (n+1)))+((n+1:Nat):Int)*(2^(m+n+1)*(fac (m+1)*fac n)):=by
   rw[xbl];have f1:fac (m+1)=((m+1:Nat):Int)*fac m:=rfl;have f2:fac (n+1)=((n+1:Nat):Int)*fac n:=rfl;rw[f1,f2];generalize((m+1:Nat):Int)=x;generalize((n+1:Nat):Int)=y;generalize(2:Int)^(m+n+1)=z;grind
  rw[e1,e2];lia
theorem za6:∀(m n:Nat),fac m*fac n<=fac (m+n)
 |0,n=>by
  rw[xaN];show 1*fac n<=fac n;lia
 |m+1,n=>by
  rw[show m+1+n=m+n+1 by lia];show((m+1:Nat):Int)*fac m*fac n<=((m+n+1:Nat):Int)*fac (m+n);have h1:=za6 m n;have h2:=xaW h1 (show(0:Int)<=((m+1:Nat):Int)by lia);have h3:=xbz (show((m+1:Nat):Int)<=((m+n+1:Nat):Int)by lia)<|xdF<|uy<|m+n;rw[xbK];lia
theorem Cx{f g:Nat->Int}:∀{n},(∀k,k<n->f k<=g k)->zX n f<=zX n g
 |0,_=>xeY 0
 |n+1,h=>Int.add_le_add (Cx fun k hk=>h k<|by lia)<|h n<|by lia
theorem Ib{f:Nat->Int}{j:Nat}:∀{n},(∀k,k<n->0<=f k)->j<n->f j<=zX n f
 |0,_,h=>absurd h<|xbp _
 |n+1,h,hj=>by
  have h1:=Eh fun k (hk:k<n)=>h k (by lia);have h2:=h n (by lia);show f j<=zX n f+f n;by_cases e:j=n
  ·subst e;lia
  ·have:=Ib (fun k hk=>h k<|by lia) (show j<n by lia);lia
theorem mig{f u v:Pz}{a b:Nat}(hu:Tp u a)(hv:Tp v b)(e:f=u*v)(k:Nat):(v b*u k)*(v b*u k)<=4^(a+b)*gJ f (a+b+1):=by
 have hS:=cD f<|a+b+1;by_cases hk:k<=a
 ·have h1:=ziO (a:=a) (u:=u) hu.2 b (v:=v) hv.2;have h2:fac k*fac (a-k)*(u k*u k)<=ip a u u:=Ib (f:=fun s=>fac s*fac (a-s)*(u s*u s)) (fun s _=>xcB (xcB (xdF<|uy _)<|xdF<|uy _)<|jr _) (by lia);have h3:ip (b+a) (v*u) (v*u)<=fac (b+a)*gJ f (a+b+1):=by
   rw[zj,<-e,xdD b a];unfold ip gJ;rw[<-jT];refine Cx fun s hs=>xbz ?_<|jr _;have:=za6 s<|a+b-s;rwa[show s+(a+b-s)=a+b by lia]at this
  have h4:=nV b a;have h5:=nV k<|a-k;rw[show k+(a-k)=a by lia]at h5;have pb:=uy b;have pw:(0:Int)<2^(b+a):=Int.pow_pos (by decide);have hx:=Int.mul_pos (uy k)<|uy<|a-k;have ha:=jr<|v b;generalize fac k*fac (a-k)=X at*
  have g1:=xaW h2 (show 0<=fac b*(v b*v b)from xcB (xdF pb) ha);have g2:=xbz h4 hS;have g3:=xaW h5 (show 0<=2^(b+a)*fac b from xcB (xdF pw)<|xdF pb);have g4:=xbz g3 hS;have g5:fac b*X*((v b*u k)*(v b*u k))<=fac b*X*(2^(b+a)*2^a*gJ f (a+b+1)):=by
   have e1:fac b*X*((v b*u k)*(v b*u k))=fac b*(v b*v b)*(X*(u k*u k)):=by grind
   have e2:fac b*X*(2^(b+a)*2^a*gJ f (a+b+1))=2^(b+a)*fac b*(2^a*X)*gJ f (a+b+1):=by grind
   have e3:2^(b+a)*(fac b*fac a)*gJ f (a+b+1)=2^(b+a)*fac b*fac a*gJ f (a+b+1):=by grind
   rw[e1,e2];lia
  have g6:=Int.le_of_mul_le_mul_left g5<|Int.mul_pos pb hx;refine Int.le_trans g6<|xbz ?_ hS;have e4:(4:Int)^(a+b)=2^(b+a)*2^(a+b):=by rw[show(4:Int)=2*2 by decide,Int.mul_pow,xdD b a]
  rw[e4];refine xaW ?_<|xdF pw;have:=xay (n:=2) (by decide) (show a<=a+b by lia);have e5:∀n:Nat,((2^n:Nat):Int)=(2:Int)^n:=fun n=>by simp
  rw[<-e5,<-e5];lia
 ·rw[hu.2 k (by lia),xau,xau];exact xcB (xfv<|by decide) hS
end
section
variable{fu m:Nat}{a:List Zr}{p g R q:Pz}
theorem Me{f:Pz}{M:Int}(h:∀k,f k*f k<=M):∀n:Nat,gJ f n<=n*M
 |0=>by show(0:Int)<=((0:Nat):Int)*M;lia
 |n+1=>by
  show zX n (fun k=>f k*f k)+f n*f n<=_;have h1:zX n (fun k=>f k*f k)<=n*M:=Me h n;have h2:=h n;have e:((n+1:Nat):Int)*M=n*M+M:=by grind
  lia
theorem Tt{x y:Nat}(h:x*x<y*y):x<y:=by
 refine xae fun hn=> ?_;have:=xbH (show y<=x by lia) (show y<=x by lia);lia
theorem Fe{f u v:Pz}{n B:Nat}(hf:Tp f n)(fu:Fs u)(fv:Fs v)(e:f=u*v)(hn:n<=40)(hb:∀k,Bb B<|f k)(k:Nat):Bb (B+n+4) (u k):=by
 obtain⟨nu,nv⟩:=k9 hf.nz e;obtain⟨a,ha⟩:=Tp.ex fu nu;obtain⟨b,hc⟩:=Tp.ex fv nv;have he:a+b=n:=by
  have:=ha.mul hc;rw[<-e]at this;exact this.uniq hf
 have h1:=mig ha hc e k;have h2:∀k,f k*f k<=(2^B:Int)*2^B:=fun k=>by
  have:=hb k;unfold Bb at this;have h3:(f k*f k)=(((f k).natAbs*(f k).natAbs:Nat):Int):=by
   rw[<-xcg];have:=jr<|f k;lia
  rw[h3];have h4:=xbH (xcS this)<|xcS this;have h5:((2:Int)^B*2^B)=((2^B*2^B:Nat):Int):=by simp
  lia
 have h3:=Me h2<|a+b+1;have h6:(u k).natAbs<=(v b*u k).natAbs:=by
  rw[xcg];exact xdm _ (by have:=hc.1;lia)
 refine xba h6<|Tt ?_;have h7:((v b*u k).natAbs*(v b*u k).natAbs:Nat)=(v b*u k*(v b*u k)).natAbs:=(xcg _ _).symm;rw[h7];have h8:(v b*u k*(v b*u k)).natAbs<=4^(a+b)*((a+b+1)*(2^B*2^B)):=by
  have h9:(4:Int)^(a+b)*gJ f (a+b+1)<=4^(a+b)*(((a+b+1:Nat):Int)*(2^B*2^B)):=xaW (by lia) (xfv<|by decide);have hg:(4:Int)^(a+b)*(((a+b+1:Nat):Int)*(2^B*2^B))=((4^(a+b)*((a+b+1)*(2^B*2^B)):Nat):Int):=by simp
  have:=jr<|v b*u k;lia
 refine xba h8 ?_;have e1:(2:Nat)^(B+n+4)*2^(B+n+4)=4^n*(256*(2^B*2^B)):=by
  rw[show(4:Nat)=2^2 by decide,<-xdf,show(256:Nat)=2^8 by decide,<-xbZ,<-xbZ,<-xbZ,<-xbZ];congr 1;lia
 rw[e1];have hd:0<(2:Nat)^B*2^B:=Nat.mul_pos (xbk<|by decide) (xbk<|by decide);rw[he];exact Nat.mul_lt_mul_of_pos_left (xbW (by lia) hd)<|xbk<|by decide
theorem im{K:Nat}(ha:y9 K a)(hK:K+1<=100000)(hl:a.length<=1000)(hf:3000000<=fu):YJ fu a=some (vP (a.length-1)<|dvp<|cf a):=by
 unfold YJ;have hc:∀k:Nat,k<=1000->Bz 1 (k:Int):=fun k hk=>Bz.nat (by rw[Nat.pow_one];lia);rw[za<|oE (g:=fun k=>if k<1000 then cf a k*(k:Int)else 0) (by lia) (by lia) fun j hj=> ?_]
 ·have he:min (a.length:Int) 1=((min a.length 1:Nat):Int):=by lia
  rw[yI,zf,he,yE,yJ,zf];have hd:(zi a.length fun k=>if k<1000 then cf a k*(k:Int)else 0).drop (min a.length 1)=zi (a.length-1) (dvp<|cf a):=by
   refine GL (by rw[xbO,yI,yI];lia) fun j hj=> ?_;rw[xbO,yI]at hj;rw[YK (by lia),H1,xet,<-H1,YK (by lia),show min a.length 1+j=j+1 by lia,zN];show yH (cf a (j+1)*((j+1:Nat):Int))=yH (((j+1:Nat):Int)*cf a (j+1));rw[xbm]
  rw[hd,za<|zC (k:=K+1) (Qy fun j=> ?_) hK (by rw[yI];lia) hf,yI,tH];unfold dvp;by_cases hj:j+1<=1000
  ·rw[xbm];exact(ha.bz _).mul<|hc _ hj
  ·rw[ye (by lia),xau];exact Bz.zero _
 ·unfold Xw;have hb:=ha.get j;rw[za<|z6 ⟨by lia,by lia⟩,za<|ya (KA.of hb<|by lia) ((hc j<|by lia).ok<|by decide) hf,zw,VG,zN]
def Qt:Nat->Nat
 |0=>1
 |1=>1
 |n+2=>2*Qt (n+1)+Qt n
theorem zcz:∀n,Qt n<=Qt (n+1)
 |0=>xab _
 |n+1=>by show _<=2*Qt (n+1)+Qt n;lia
theorem Va{i:Nat}:∀d,Qt i<=Qt (i+d)
 |0=>xab _
 |d+1=>xam (Va d)<|zcz _
theorem Hq(j:Nat):∀t,Qt j+(t+1+1)*Qt (j+1)<=Qt (j+1+(t+1))
 |0=>by show _<=2*Qt (j+1)+Qt j;lia
 |t+1=>by
  have ih:=Hq j t;have h1:Qt (j+1+(t+1+1))=2*Qt (j+1+(t+1))+Qt (j+1+t):=rfl;have e:(t+1+1+1)*Qt (j+1)=(t+1+1)*Qt (j+1)+Qt (j+1):=by rw[xaV _ 1,xcm]
  have h2:Qt (j+1)<=(t+1+1)*Qt (j+1):=xdm _ (by lia);lia
theorem Ek{d:Pz}(fd:Fs d)(pd:Pm d):Zd d (cf<|wB a)↔Zd d (cf a):=by
 by_cases h:(yf a).length=0
 ·have h1:(cf a:Pz)=pc 0:=funext fun k=>by rw[kz h k,zL]
  have h2:(cf (wB a):Pz)=pc 0:=funext fun k=>by rw[Y7,kz h k,xfJ,zL]
  rw[h1,h2]
 ·have hm:=W0 a;constructor
  ·intro hz;rw[<-hm];exact hz.mul _<|Fs.pc _
  ·intro hz;rw[<-hm]at hz;exact Zd.pm fd pd (dE h) hz
theorem AX{C L:Nat}{b:List Zr}(ha:yf a=a)(hb:yf b=b)(hk:wq a=1)(ho:b.length<a.length)(hL:a.length=L)(hD:L<=60)(hC:C*Qt (L-1)<=639000)(hp:C*Qt L<=2400000){ca cb:Nat}(hy:ca+1<=C)(hA:cb+1<=C)(bA:∀j,Bb ca<|cf a j)(bB:∀j,Bb cb<|cf b j)(hf:3000000<=fu):
 ∃g,Jk fu a b=some g/\yf g=g/\Pm (cf g)/\Po (cf g)/\g.length<=L/\∀d,Fs d->Pm d->(Zd d (cf g)↔Zd d (cf a)/\Zd d (cf b)):=by
 have hB:C<=C*Qt (L-1):=xcb _<|xan (show 0<Qt 0 by decide) (by have h:=Va (i:=0)<|L-1;rwa[xaN]at h);have oA:y9 9985 a:=by rw[<-ha];exact xa fun j=>(bA j).bz<|by lia
 have oB:y9 9985 b:=by rw[<-hb];exact xa fun j=>(bB j).bz<|by lia
 have hl:wB a=a:=Qa (W2 a) ha fun k=>by rw[Y7,hk,Int.ediv_one]
 have hq:(yf a).length≠0:=by rw[ha];lia
 obtain⟨pa1,pa2⟩:=Ve hq;rw[hl]at pa1 pa2
 obtain⟨x,hx,x1,x2,x3,x4,x5,x6⟩:=yv (f:=JD fu) (fun s:List Zr×List Zr=>yf s.1=s.1/\Pm (cf s.1)/\Po (cf s.1)/\yf s.2=s.2/\s.2.length<s.1.length/\s.1.length<=L/\(∃bx,bx+1<=C*Qt (L-s.1.length)/\∀i,Bb bx<|cf s.1 i)/\(∃b_,b_+1<=C*Qt (L-s.1.length+1)/\∀i,Bb b_<|cf s.2 i)/\(s.2.length≠0->Pm (cf s.2)/\Po (cf s.2))/\∀d,Fs d->Pm d->((Zd d (cf s.1)/\Zd d (cf s.2))↔(Zd d (cf a)/\Zd d (cf b)))) (fun s=>s.2.length)
  (fun x=>yf x=x/\Pm (cf x)/\Po (cf x)/\x.length<=L/\y9 37500 x/\∀d,Fs d->Pm d->(Zd d (cf x)↔(Zd d (cf a)/\Zd d (cf b)))) (by
  rintro⟨x,y⟩ R ⟨h1,h2,h3,h4,h5,h6,⟨bx,h7,h8⟩,⟨b_,h9,hd⟩,hm,he⟩ ih
  simp only at h1 h2 h3 h4 h5 h6 h7 h8 h9 hd hm he
  unfold JD
  simp only
  have hc:∀{i},i<=L->C*Qt i<=2400000:=fun{i} hi=>xam (xaD _ (by
   have:=Va (i:=i)<|L-i;rwa[show i+(L-i)=L by lia]at this)) hp
  by_cases hr:0<y.length
  ·obtain⟨t,ht⟩:∃t,x.length-y.length=t+1:=⟨x.length-y.length-1,by lia⟩
   have hg:bx+(x.length-y.length+1)*(b_+1)+1<=C*Qt (L-y.length+1):=by
    have hj:=Hq (L-x.length) t;rw[show L-x.length+1+(t+1)=L-y.length+1 by lia]at hj;have hs:=xaD C hj;rw[xbh,xed]at hs;have hE:=xaD (t+1+1) h9;rw[ht];lia
   obtain⟨q,r,c,Q,e1,e2,e3,e4,e5,e6,e7⟩:=gV (fu:=fu) h1 h4 (by lia) hr (by lia) h8 hd (by have:=hc (i:=L-y.length+1) (by lia);lia) hf
   have oR:y9 9985 r:=by
    by_cases hu:r.length=0
    ·rw[xbF.1 hu];intro z hz;cases hz
    ·rw[<-e2];refine xa fun j=>(e7 j).bz ?_;have hj:C*Qt (L-y.length+1)<=C*Qt (L-1):=xaD _ (by
      have:=Va (i:=L-y.length+1)<|y.length-2;rwa[show L-y.length+1+(y.length-2)=L-1 by lia]at this)
     lia
   rw[zN,za e1]
   simp only
   rw[za<|vM oR (by decide) (by lia) hf]
   have hv:=YB r
   rw[e2]at hv
   obtain⟨y1,y2⟩:=hm<|by lia
   have hF:=W0 r
   refine ih _ ⟨h4,y1,y2,W2 r,by show(wB r).length<y.length;lia,by show y.length<=L;lia,⟨b_,?_,hd⟩,⟨_,hg,fun i=> ?_⟩,fun(hn:(wB r).length≠0)=>Ve (by rw[e2];show r.length≠0;lia),fun d fd pd=> ?_⟩ (by show(wB r).length<y.length;lia)
   ·refine xam h9<|xaD _ ?_
    show Qt (L-x.length+1)<=Qt (L-y.length)
    have:=Va (i:=L-x.length+1)<|x.length-y.length-1
    rwa[show L-x.length+1+(x.length-y.length-1)=L-y.length by lia]at this
   ·show Bb _ (cf (wB r) i)
    rw[Y7]
    exact(e7 i).le<|xdr _ _
   ·rw[<-he d fd pd]
    show(Zd d (cf y)/\Zd d (cf<|wB r))↔(Zd d (cf x)/\Zd d (cf y))
    rw[Ek fd pd]
    constructor
    ·rintro⟨z1,z2⟩
     refine⟨Zd.pm fd pd e4 ?_,z1⟩
     rw[e6]
     exact(z1.mul _ e5).add z2
    ·rintro⟨z1,z2⟩
     refine⟨z2,?_⟩
     have:(cf r:Pz)=pc c*cf x-Q*cf y:=funext fun k=>by
      have:=congrFun e6 k;rw[zI]at this;rw[yz];lia
     rw[this]
     exact(z1.mul _<|Fs.pc c).sub<|z2.mul _ e5
  ·rw[zy]
   refine⟨x,rfl,h1,h2,h3,h6,?_,fun d fd pd=> ?_⟩
   ·rw[<-h1]
    exact xa fun j=>(h8 j).bz (by have:=hc (i:=L-x.length) (by lia);lia)
   ·rw[<-he d fd pd]
    have:Zd d (cf y):=⟨pc 0,Fs.pc 0,funext fun k=>by rw[ye (by lia),yb,zL]⟩
    exact⟨fun h=>⟨h,this⟩,fun h=>h.1⟩) fu (a,wB b) ⟨ha,pa1,pa2,W2 b,by show(wB b).length<a.length;rw[YB,hb];exact ho,by show a.length<=L;lia,⟨ca,by show ca+1<=C*Qt (L-a.length);rw[hL,xda];show ca+1<=C*1;lia,bA⟩,⟨cb,by show cb+1<=C*Qt (L-a.length+1);rw[hL,xda];show cb+1<=C*1;lia,fun i=>by
    show Bb cb (cf (wB b) i)
    rw[Y7]
    exact(bB i).le<|xdr _ _⟩,fun hn=>Ve (by have:=YB b;show(yf b).length≠0;rw[<-this];exact hn),fun d fd pd=>by
    show(Zd d (cf a)/\Zd d (cf<|wB b))↔_
    rw[Ek fd pd]⟩ (by show(wB b).length<fu;rw[YB,hb];lia)
 have b1:=(Bz.one' (k:=1)<|xab _);have bc:=(FB oB);have hw:vP x.length (fun j=>cf x j*1)=x:=by rw[show(fun j=>cf x j*1)=cf x from funext fun j=>xck _];exact x1
 refine⟨x,?_,x1,x2,x3,x4,x6⟩;unfold Jk;rw[za<|jb oA,za<|jb oB,hk,za<|a6 (K:=9985) (yT _) (yT _) (xam b1.len<|by decide) bc.len (by decide) hf,zw,zw,show Int.natAbs 1=1 from rfl,Nat.gcd_one_left,show((1:Nat):Int)=1 from rfl,za<|vM oA (by decide) (by lia) hf,za<|vM oB (by decide) (by lia) hf,hl,za hx,za<|qL (l:=1) x5 ⟨yT _,b1.len⟩ (by decide) (by lia) hf,zw];show some (vP x.length fun j=>cf x j*1)=_;rw[hw]
theorem LA(q:Pz):∀n,dvp (pp q<|n+1)=pc ((n+1:Nat):Int)*(pp q n*dvp q)
 |0=>by
  show dvp (pc 1*q)=pc 1*(pc 1*dvp q);rw[zt,zt,zt]
 |n+1=>by
  show dvp (pp q (n+1)*q)=pc _*(pp q n*q*dvp q);rw[X8,LA q n,zd<|pc _,zd<|pp q n,zd<|pp q n,zj (dvp q) q];show _+pp q n*q*dvp q=_;rw[zd<|pp q n];funext k;rw[zI,zE,zE];grind
theorem zdU(hp:Tp p m)(fg:Fs g)(fR:Fs R)(e:p=R*g)(hg:Zd g (dvp p))(hq:Ir q)(h:Zd q p):Zd q R:=by
 refine xae fun ha=> ?_;obtain⟨n,_,hn⟩:=Mu.ex hq m hp;obtain⟨nR,ng⟩:=k9 hp.nz e;obtain⟨d,hd⟩:=Tp.ex fg ng;obtain⟨i,_,hi⟩:=Mu.ex hq d hd;have h1:=(Mu.zero fR ha).mul hq hi;rw[<-e,xaN]at h1;obtain rfl:=h1.uniq hq hn;have hc:i≠0:=fun h0=>by
  subst h0;obtain⟨u,fu,e2,hu⟩:=hn;rw[show pp q 0=pc 1 from rfl,zO]at e2;rw[<-e2]at hu;exact hu h
 obtain⟨j,rfl⟩:∃j,i=j+1:=⟨i-1,by lia⟩;obtain⟨u,fu,e2,hu⟩:=hn;obtain⟨v,fv,e3,_⟩:=hi;have h2:Zd (pp q<|j+1) (dvp p):=Zd.trans ⟨v,fv,e3⟩ hg;rw[e2,X8]at h2;have h3:Zd (pp q<|j+1) (u*dvp (pp q<|j+1)):=by
  have:u*dvp (pp q<|j+1)=(dvp u*pp q (j+1)+u*dvp (pp q<|j+1))-dvp u*pp q (j+1):=funext fun k=>by simp only[zI,yz];lia
  rw[this];exact h2.sub ⟨dvp u,fu.dvp,rfl⟩
 rw[LA]at h3;obtain⟨w,fw,e4⟩:=h3;have h4:w*q=u*(pc ((j+1:Nat):Int)*dvp q):=by
  refine rn (fw.mul hq.fs) (fu.mul<|(Fs.pc _).mul hq.fs.dvp) (hq.fs.pp j) (hq.pm.pp j).nz ?_;have e5:w*pp q (j+1)=w*q*pp q j:=by
   show w*(pp q j*q)=_;rw[zd,zj (pp q j) q]
  rw[<-e5,<-e4,zd u,zd<|pc _,zj (dvp q)<|pp q j]
 rcases hq.prime fu ((Fs.pc _).mul hq.fs.dvp) ⟨w,fw,h4.symm⟩with h5|h5
 ·exact hu h5
 ·obtain⟨t,ht⟩:=Tp.ex hq.fs hq.pm.nz;have he:t≠0:=fun h0=>hq.dg<|(Kz.tp ht).2 h0;obtain⟨w2,hb,hz⟩:=Fc (n:=0) ht h5 fun k hk=>by
   rw[zE];show _*(((k+1:Nat):Int)*q (k+1))=0;rw[ht.2 _ (by lia),xau,xau]
  have h6:=congrFun hb<|t-1;rw[xt w2,yG fun i _=>by rw[hz i (by lia),xaS],zE]at h6;have h7:((j+1:Nat):Int)*(((t-1+1:Nat):Int)*q (t-1+1))=0:=h6;rw[show t-1+1=t by lia]at h7;rcases xeF.1 h7 with h8|h8
  ·lia
  ·rcases xeF.1 h8 with h9|h9
   ·lia
   ·exact ht.1 h9
theorem zhB(hp:Tp p m)(fg:Fs g)(fR:Fs R)(e:p=R*g)(hg:∀d,Fs d->Pm d->Zd d p->Zd d (dvp p)->Zd d g)(hq:Ir q):¬Zd (q*q) R:=fun⟨z,fz,ez⟩=>by
 obtain⟨n,_,u,fu,e1,hu⟩:=Mu.ex hq m hp
 cases n with
 |zero=>
  refine hu ⟨z*q*g,(fz.mul hq.fs).mul fg,?_⟩;have e2:u=p:=by rw[e1];exact(zO u).symm
  rw[e2,e,ez];simp only[zj,zz]
 |succ k=>
  have fk:=hq.fs.pp k;have e3:pp q (k+1)=q*pp q k:=zj _ _;obtain⟨w,fw,ew⟩:=hg (pp q k) fk (hq.pm.pp k) ⟨u*q,fu.mul hq.fs,by rw[e1,e3,zd]⟩ (by
   rw[e1,X8,LA];refine Zd.add ⟨dvp u*q,fu.dvp.mul hq.fs,by rw[e3,zd]⟩ ⟨u*(pc ((k+1:Nat):Int)*dvp q),fu.mul<|(Fs.pc _).mul hq.fs.dvp,?_⟩;simp only[zj,zz])
  refine hu ⟨z*w,fz.mul fw,?_⟩;refine rn fu ((fz.mul fw).mul hq.fs) (hq.fs.pp<|k+1) (hq.pm.pp<|k+1).nz ?_;rw[<-e1,e,ez,ew,e3];simp only[zj,zz]
end
noncomputable def TQ(fu:Nat)(a:List Zr)(fs:List (List Int))(p:Int):Int:=
 if wz p=true then(if 65<(yf a).length then 6 else if wE fu (yf a) fs p=some true then 0 else 1)else 1
theorem zbI{fu:Nat}{p k:Int}{a:List Zr}{fs:List (List Int)}{us:List (List Zr)}{e:Int}(ha:y9 250 a)(hg:a.length<=1000)(h1:1<=k)(h2:k<=1000)(hf:3000200<=fu)(h:qh fu a fs p k=some (us,e)):e=TQ fu a fs p:=by
 unfold qh at h;unfold TQ;rw[za<|jB<|by lia]at h;simp only at h;rw[za (zC ha (by decide) (by lia)<|by lia),show vP a.length (cf a)=yf a from rfl]at h;by_cases hp:wz p=true
 ·have hb:fQ p k=(yH<|p^k.toNat,0):=by
   unfold fQ;rw[if_pos ⟨hp,h1,h2⟩]
  rw[hb]at h;rw[iq hp];simp only[if_true]at h;by_cases hc:65<(yf a).length
  ·rw[zN]at h;rw[iq hc];simp only[xaz,xcH]at h;exact h.2.symm
  ·rw[zy]at h;rw[ir hc]
   cases hr:wE fu (yf a) fs p with
   |none=>rw[hr]at h;cases h
   |some b=>
    rw[hr]at h;change(if(!b)=true then _ else _)=_ at h
    cases b with
    |false=>
     rw[iq<|by decide]at h;rw[ir<|by simp];simp only[xaz,xcH]at h;exact h.2.symm
    |true=>
     rw[ir<|by decide]at h;rw[iq rfl];split at h
     ·simp only[xaz,xcH]at h;exact h.2.symm
     ·cases hd:yX fu (yf a) (yH<|p^k.toNat)with
      |none=>rw[hd]at h;cases h
      |some t=>
       rw[hd]at h;change bd (vb fu t fs p k<|yH<|p^k.toNat) _=_ at h
       cases he:vb fu t fs p k (yH<|p^k.toNat)with
       |none=>rw[he]at h;cases h
       |some t3=>
        rw[he]at h;change some (t3,(0:Int))=_ at h;simp only[xaz,xcH]at h;exact h.2.symm
 ·have hb:fQ p k=((false,[]),1):=by
   unfold fQ;rw[ir<|fun h=>hp h.1]
  rw[hb]at h;rw[ir hp];simp only[Int.reduceEq,if_false,xaz,xcH]at h;exact h.2.symm
section
variable{fu:Nat}{p:Int}{a:List Zr}
def zgd(p:Int)(n:Nat)(fs:List (List Int)):Prop:=(∀t,t<fs.length->(fs.getD t []).length<=n/\Ll p (fs.getD t []))/\∀t j,t<fs.length->j<t->vD p (ci<|fs.getD t []) (ci<|fs.getD j [])
theorem CU{i:Nat}{f:List Int}{fs:List (List Int)}(hp:wz p=true)(hc:Fp p f)(hd:f.length<=290)(hi:i<=fs.length)(hl:i<=1000000)(hF:∀j,j<i->Fp p (fs.getD j [])/\(fs.getD j []).length<=290)(hf:3000000<=fu):
 ∃r,zg (qF fu p f<|fs.take i) fu 0=some r/\((r=.inl ()/\∀j,j<i->vD p (ci f) (ci<|fs.getD j []))\/(r=.inr ()/\¬∀j,j<i->vD p (ci f) (ci<|fs.getD j []))):=by
 obtain⟨p1,p2⟩:=zn hp;have hk:(fs.take i).length=i:=by rw[xav];lia
 have ha:∀j,j<i->(fs.take i).getD j []=fs.getD j []:=fun j hj=>by rw[H1,xcp,iq hj,<-H1]
 refine yv (fun x:Int=>∃j:Nat,x=(j:Int)/\j<=i/\∀t,t<j->vD p (ci f) (ci<|fs.getD t [])) (fun x=>i-x.toNat) _ ?_ _ _ ⟨0,rfl,xah _,fun t h=>absurd h<|xbp _⟩ (by show i-0<fu;lia);rintro x L ⟨j,rfl,hj,he⟩ ih;unfold qF;by_cases h1:j<i
 ·obtain⟨k1,k2⟩:=hF j h1;obtain⟨d,s,t,hg,hR,e3⟩:=Vm (fu:=fu) hp hc k1 hd k2 hf;have hb:=N3 p1 hR e3;rw[zN,yj,zf,ha j h1,za hg];simp only;by_cases h2:d.length=1
  ·rw[zN,zb];refine ih _ ⟨j+1,rfl,by lia,fun t ht=> ?_⟩ (by lia);by_cases h3:t=j
   ·rw[h3];exact hb.1 h2
   ·exact he t<|by lia
  ·rw[zy];exact⟨_,rfl,.inr ⟨rfl,fun h=>h2<|hb.2<|h j h1⟩⟩
 ·rw[zy];exact⟨_,rfl,.inl ⟨rfl,fun t ht=>he t<|by lia⟩⟩
theorem ME{fs:List (List Int)}(hp:wz p=true)(hd:a.length<=66)(h0:a.length≠0)(hl:(v8 p a).length=a.length)(g1:∀t,t<fs.length->(fs.getD t []).length<=a.length/\Ll p (fs.getD t [])):
 (∀f∈fs,Fp p f)/\(∀f∈fs,f.length<=66)/\(v8 p a).drop (a.length-1)=[ci (v8 p a)<|a.length-1]/\Fp p [ci (v8 p a)<|a.length-1]:=by
 obtain⟨p1,p2⟩:=zn hp;have ha:∀{q:List Int->Prop},(∀t,t<fs.length->q (fs.getD t []))->∀f∈fs,q f:=fun{q} h f hf=>by
  obtain⟨j,hj,rfl⟩:=xdW.1 hf;have:=h j hj;rw[H1,xaa hj]at this;exact this
 have hz:=Wv (p:=p) (by lia) a;have hc:ci (v8 p a) (a.length-1)≠0:=by
  rcases hz.nl with h|h
  ·lia
  ·rw[hl]at h;exact h
 have he:=hz.nn<|a.length-1;have hb:=hz.lt<|a.length-1;refine⟨ha fun t ht=>(g1 t ht).2.fp (by lia),ha fun t ht=>by have:=(g1 t ht).1;lia,?_,Yq (by lia) hb⟩;rw[xcx (by lia),xcl<|by lia];unfold ci;rw[H1,xaa<|by lia];rfl
theorem cy{k:Nat}{fs:List (List Int)}(hp:wz p=true)(ha:y9 k a)(hk:k<=40000)(hg:a.length<=66)(hf:3000000<=fu):
 ∃b,wE fu a fs p=some b/\(b=true↔UM p a fs):=by
 obtain⟨p1,p2⟩:=zn hp;unfold wE;rw[za<|jX ha hk (by lia) p2];simp only;by_cases h0:a.length=0
 ·rw[zN];exact⟨_,rfl,fun e=>absurd e (by decide),fun e=>absurd h0 e.a0⟩
 ·rw[zy];by_cases hl:(v8 p a).length=a.length
  ·rw[zN];by_cases ho:a.length<fs.length
   ·rw[zN];exact⟨_,rfl,fun e=>absurd e (by decide),fun e=>by have:=e.fl;lia⟩
   ·rw[zy]
    obtain⟨r,e1,e2⟩:=yv (f:=qM fu a fs p) (fun x:Int×List Int=>∃i:Nat,x=((i:Int),v8 p a)/\i<=fs.length/\(∀t,t<i->(fs.getD t []).length<=a.length/\Ll p (fs.getD t []))/\∀t j,t<i->j<t->vD p (ci<|fs.getD t []) (ci<|fs.getD j [])) (fun x=>fs.length-x.1.toNat)
     (fun r=>(r=.inr ()/\¬zgd p a.length fs)\/(r=.inl (v8 p a)/\zgd p a.length fs)) (by
      rintro x L ⟨i,rfl,hi,g1,g2⟩ ih;unfold qM;simp only;by_cases h1:i<fs.length
      ·rw[zN,za rfl];simp only[if_true];rw[zp h1,zf];by_cases h2:a.length<(fs.getD i []).length
       ·rw[zN];exact⟨_,rfl,.inl ⟨rfl,fun h=>by have:=(h.1 i h1).1;lia⟩⟩
       ·obtain⟨b,b1,b2⟩:=Qm (fu:=fu) (l:=fs.getD i []) (p:=p) (by lia) hf;rw[zy,za b1]
        cases b with
        |false=>
         rw[iq<|by decide];exact⟨_,rfl,.inl ⟨rfl,fun h=>absurd (b2.2 (h.1 i h1).2)<|by decide⟩⟩
        |true=>
         have hb:=b2.1 rfl;rw[ir (by decide),yE,yJ,zf];obtain⟨q,q1,q2⟩:=CU (fu:=fu) (i:=i) (fs:=fs) hp (hb.fp<|by lia) (by lia) (by lia) (by lia) (fun j hj=>⟨(g1 j hj).2.fp (by lia),by have:=(g1 j hj).1;lia⟩) hf;rw[za q1];rcases q2 with⟨rfl,q2⟩|⟨rfl,q2⟩
         ·simp only;rw[zb];refine ih _ ⟨i+1,rfl,by lia,fun t ht=> ?_,fun t j ht hj=> ?_⟩ (by show fs.length-((i:Int)+1).toNat<fs.length-(i:Int).toNat;lia)
          ·by_cases h4:t=i
           ·rw[h4];exact⟨by lia,hb⟩
           ·exact g1 t<|by lia
          ·by_cases h4:t=i
           ·rw[h4]at hj⊢;exact q2 j hj
           ·exact g2 t j (by lia) hj
         ·exact⟨_,rfl,.inl ⟨rfl,fun h=>q2 fun j hj=>h.2 i j h1 hj⟩⟩
      ·rw[zy,za rfl];simp only[xak,if_false];exact⟨_,rfl,.inr ⟨rfl,fun t ht=>g1 t (by lia),fun t j ht hj=>g2 t j (by lia) hj⟩⟩) fu (0,v8 p a) ⟨0,rfl,xah _,fun t h=>absurd h (xbp _),fun t j h=>absurd h (xbp _)⟩ (by show fs.length-0<fu;lia)
    rw[za e1];rcases e2 with⟨rfl,e2⟩|⟨rfl,g1,g2⟩
    ·exact⟨_,rfl,fun e=>absurd e (by decide),fun e=>absurd ⟨e.pl,e.cp⟩ e2⟩
    ·simp only;obtain⟨hm,hd,hc,he⟩:=ME hp hg h0 hl g1;have hq:fs.length*66<=66*66:=xaw _ (by lia);have hb:=UJ (p:=p) hd;have hz:=Wv (p:=p) (by lia) a;have hn:=qC p (X4 p fs) [ci (v8 p a)<|a.length-1];simp only[xaq,xbS]at hn;rw[za (qB hp hm hd (by lia)<|by decide),hl,show(a.length:Int)-1=((a.length-1:Nat):Int)by lia,zb,yE,yJ,zf,hc,za<|j7 hp (K4 (by lia) fs) he (by lia)<|by simp];simp only;rw[za<|VL hp (vR (by lia) _ _) hz (by lia) (by lia) hf];exact⟨_,rfl,fun e=>⟨h0,hl,by lia,g1,g2,of_decide_eq_true e⟩,fun e=>decide_eq_true e.pr⟩
  ·rw[zy];exact⟨_,rfl,fun e=>absurd e (by decide),fun e=>absurd e.al hl⟩
end
section
variable{a R:List Zr}{fu K:Nat}{q p:Int}{ds:List Int}
theorem n9(h:fY a=0):1<=(yf a).length/\(yf a).length<=65:=by grind [fY]
theorem NV:wz 2=true:=FJ ⟨by decide,by decide,fun d h1 h2=>by
 have:=xbH h1 h1;have h4:(2:Int).toNat=2:=rfl;lia⟩
theorem Cb(hc:yf a=a)(hp:Pm (cf a))(hs:Po (cf a)):wq a=1:=by
 obtain⟨n,hn,hb⟩:=hs.tp;have ha:(yf a).length≠0:=fun e=>hn.1<|kz e n;have h1:=(uW ha).uniq hn;have a2:Z6 (cf a) a.length=1:=hp _<|eT fun k hk=>ye hk;have a3:wq a=if cf (yf a) ((yf a).length-1)<0 then-((Z6 (cf a) (yf a).length:Nat):Int)else((Z6 (cf a) (yf a).length:Nat):Int):=rfl;rw[uO,h1,zy,hc,a2]at a3;exact a3
theorem Po.left{u v:Pz}(fu:Fs u)(h:Po (u*v))(hv:Po v):Po u:=by
 obtain⟨m,hm,hp⟩:=h.tp;obtain⟨b,hb,hq⟩:=hv.tp;obtain⟨nu,_⟩:=k9 hm.nz rfl;obtain⟨a,ha⟩:=Tp.ex fu nu;obtain rfl:=(ha.mul hb).uniq hm;rw[VA ha.2 hb.2]at hp;exact⟨a,Int.pos_of_mul_pos_left hp hq,ha.2⟩
structure Rad(a R:List Zr):Prop where
 can:yf R=R
 pm:Pm (cf R)
 ps:Po (cf R)
 dv:∃g:Pz,Fs g/\cf (wB a)=cf R*g
 al:∀q,Ir q->Zd q (cf a)->Zd q (cf R)
 ln:R.length<=(yf a).length
 sf:∀q,Ir q->¬Zd (q*q) (cf R)
theorem cU(ha:y9 K a)(hK:K<=40000)(hl:a.length<=1000000)(h0:fY a≠0)(hf:3000000<=fu):wH fu a=some ([],fY a):=by grind [wH,za,Xz]
theorem dq{B:Nat}(ha:y9 K a)(hK:K<=100)(hl:a.length<=40)(h0:fY a=0)(bA:∀j,Bb B<|cf a j)(hB:B<=6000)(hC:(B+7)*Qt ((yf a).length-1)<=639000)(hi:(B+7)*Qt ((yf a).length)<=2400000)(hf:3000000<=fu):
 ∃R,wH fu a=some (R,0)/\Rad a R/\∀j,Bb (B+(yf a).length+4) (cf R j):=by
 have hu:=n9 h0;have hv:=Jx a;obtain⟨p,hp⟩:∃p,p=wB a:=⟨_,rfl⟩;have hb:yf p=p:=by rw[hp];exact W2 a
 have hg:p.length=(yf a).length:=by rw[hp];exact YB a
 obtain⟨p1,p2⟩:=Ve (a:=a) (by lia);rw[<-hp]at p1 p2;have hm:(yf p).length≠0:=by rw[hb];lia
 have tp:=uW hm;rw[hb]at tp;have bP:∀j,Bb B (cf p j):=fun j=>by
  rw[hp,Y7];exact(bA j).le<|xdr _ _
 have oP:y9 94 p:=by rw[<-hb];exact xa fun j=>(bP j).bz<|by lia
 have hn:=Cb hb p1 p2;obtain⟨d,hd⟩:∃d,d=vP (p.length-1) (dvp<|cf p):=⟨_,rfl⟩;have hc:(cf d:Pz)=dvp (cf p):=funext fun k=>by
  rw[hd];exact jy (fun k hk=>by unfold dvp;rw[ye (by lia),xau]) k
 have ho:yf d=d:=by rw[hd];exact(uC _ _).symm
 have hr:d.length<p.length:=by
  have:=vZ (dvp<|cf p)<|p.length-1;rw[hd,xJ];lia
 have bD:∀j,Bb (B+6) (cf d j):=fun j=>by
  rw[hc];show Bb _ (((j+1:Nat):Int)*cf p (j+1));by_cases hj:j+1<64
  ·rw[xbm];exact(bP _).mul (show((j+1:Nat):Int).natAbs<2^6 by rw[xbe];exact hj)
  ·rw[ye (by lia),xau];exact Bb.zero _
 obtain⟨g,g1,g2,g3,g4,g5,g6⟩:=AX (fu:=fu) (C:=B+7) (L:=p.length) hb ho hn hr rfl (by lia) (by rw[hg];exact hC) (by rw[hg];exact hi) (ca:=B) (cb:=B+6) (by lia) (by lia) bP bD hf;obtain⟨z1,z2⟩:=(g6 _ (Fs.cf g) g3).1<|Zd.refl _;have hs:(yf g).length≠0:=fun e=>by
  obtain⟨j,hj⟩:=g3.nz;exact hj<|kz e j
 obtain⟨w,fw,hw⟩:=z1;have bG:∀j,Bb (B+(yf a).length+4) (cf g j):=fun j=>(Fe tp (Fs.cf g) fw (by rw[hw,zj]) (by lia) bP j).mono (by lia);have oG:y9 97 g:=by rw[<-g2];exact xa fun j=>(bG j).bz<|by lia
 obtain⟨R,e,r1,r2,r3⟩:=Vp (fu:=fu) oP oG (by have:=xaw (97+1) (show p.length+1<=41 by lia);lia) (by lia) (by lia) hs hf;have he:e=0:=r2.2 ⟨w,fw,hw⟩;subst he;obtain⟨r4,r5,r6⟩:=r3 rfl;have ht:Pm (cf R):=(r4▸p1:Pm (cf R*cf g:Pz)).left;refine⟨R,?_,⟨r5,ht,Po.left (Fs.cf R) (r4▸p2:Po (cf R*cf g:Pz)) g4,⟨cf g,Fs.cf g,by rw[<-hp];exact r4⟩,fun q hq hz=> ?_,by lia,fun q hq=>zhB tp (Fs.cf g) (Fs.cf R) r4 (fun d fd pd y1 y2=>(g6 d fd pd).2 ⟨y1,by rw[hc];exact y2⟩) hq⟩,fun j=>(Fe tp (Fs.cf R) (Fs.cf g) r4 (by lia) bP j).mono<|by lia⟩
 ·unfold wH;rw[za<|Xz ha (by lia) (by lia) hf,iq h0,za<|vM ha (by lia) (by lia) hf,<-hp,za<|im oP (by decide) (by lia) hf,<-hd,za g1];unfold lB;rw[za (v:=R)<|by rw[za r1]]
 ·refine zdU tp (Fs.cf g) (Fs.cf R) r4 (by rw[<-hc];exact z2) hq ?_;rw[hp];exact(Ek hq.fs hq.pm).2 hz
theorem LO:wz 65521=true:=FJ ⟨by decide,by decide,fun d h1 h2=>by
 have h3:d<256:=by
  refine xae fun hn=> ?_;have:=xbH (show 256<=d by lia) (show 256<=d by lia);have h4:(65521:Int).toNat=65521:=rfl;lia
 have key:∀d:Nat,d<256->2<=d->(65521:Nat)%d≠0:=by decide+kernel
 exact key d h3 h1⟩
theorem iU(h:65521<=q):xQ fu q=some (0,5):=by
 unfold xQ;rw[iq h]
theorem J7(h1:1<=q)(h:q<65521)(hf:3000000<=fu):∃r,xQ fu q=some (r,0)/\wz r=true/\q<r/\∀s,q<s->s<r->wz s=false:=by
 unfold xQ;obtain⟨r,hr,r1,r2,r3⟩:=yv (f:=Vt fu) (fun i:Int=>q<i/\i<=65521/\∀s,q<s->s<i->wz s=false) (fun i=>(65521-i).toNat) (fun r=>wz r=true/\q<r/\∀s,q<s->s<r->wz s=false) (by
  rintro i L ⟨i1,i2,i3⟩ ih;unfold Vt;rw[za<|YI<|by lia]
  cases hp:wz i with
  |true=>rw[ir<|by decide];exact⟨_,rfl,hp,i1,i3⟩
  |false=>
   have ha:i≠65521:=fun e=>by rw[e,LO]at hp;cases hp
   rw[iq (by decide),zb];refine ih _ ⟨by lia,by lia,fun s h1 h2=> ?_⟩ (by lia);by_cases e:s=i
   ·rw[e];exact hp
   ·exact i3 s h1<|by lia) fu (q+1) ⟨by lia,by lia,fun s h1 h2=>by lia⟩ (by lia)
 rw[zy,zf,show max q 1=q by lia,zb,za hr];exact⟨r,rfl,r1,r2,r3⟩
def Yf(R:List Zr)(p:Int):Prop:=wz p=true/\cf R (R.length-1)%p≠0/\vD p (cf R) (dvp<|cf R)
theorem Cq{x:Int}{f g:Pz}(h:Cg p g (pc x*f))(hc:vD p g (dvp g)):vD p f (dvp f):=by
 have h1:Cg p (dvp g) (pc x*dvp f):=(zcn h).trans (Cg.of (by
  rw[X8,zhG];funext k;rw[zI,yb,zL,xcD]))
 obtain⟨s,t,fs,ft,e⟩:=hc.congr h h1;refine⟨s*pc x,t*pc x,fs.mul<|Fs.pc x,ft.mul<|Fs.pc x,?_⟩;rw[zd,zd];exact e
theorem eZ(hp:0<p:=by lia)(hR:0<R.length:=by lia):(v8 p R).length=R.length↔cf R (R.length-1)%p≠0:=by
 have hn:=(Wv hp R).nl;constructor
 ·intro h;rcases hn with h1|h1
  ·lia
  ·rw[h,V8]at h1;exact h1
 ·intro h;have:=zet p R;by_cases e:(v8 p R).length=R.length
  ·exact e
  ·exfalso;rw[<-V8,zM<|by lia]at h;exact h rfl
theorem zf3(hp:wz p=true)(hR:0<R.length)(hl:R.length<=65)(hz:(v8 p R).length=R.length)(hf:3000000<=fu:=by lia):
 ∃m b,zan p (v8 p R) m/\wx p m/\Za fu (v8 p R) p=some (b,0)/\(b=true↔vD p (ci m) (dvp<|ci m))/\ju fu (v8 p R) p=if b=true then some (m,0)else some ([],1):=by
 obtain⟨p1,p2⟩:=zn hp;have hF:=Wv (p:=p) (by lia) R;obtain⟨m,b,h1,h2,h3,h4,h5⟩:=iQ (fu:=fu) hp hF (by lia) (by lia) hf;refine⟨m,b,h1,h2,?_,h4,h5⟩;have hb:=h1.ln;obtain⟨x,x0,x1,hx,e1⟩:=Yr (fu:=fu) hp hF (by lia) (by lia) hf;obtain⟨b',c1,c2,c3⟩:=fU (fu:=fu) hp h2 (by lia) hf;have hM:=IU p1 hF (by lia) hx;have ha:y3 p (v8 p R) [x]=m:=by
  obtain⟨_,y,_,hy⟩:=hM.cg;obtain⟨u,_,hu,_⟩:=h1.cg;have hc:Cg p (ci m) (pc (u*y)*ci (y3 p (v8 p R) [x])):=by
   rw[<-qZ,zd];exact hu.trans<|Cg.rfl.mul hy
  have t1:=hc<|m.length-1;have t2:=hM.top;have t3:=hM.ln;rw[h2.top,zE,show m.length-1=(y3 p (v8 p R) [x]).length-1 by lia,t2,xck]at t1;refine(h2.fm.ext hM.fm<|hc.trans ?_).symm;refine(Cg.mul (f':=pc 1) (fun k=> ?_) Cg.rfl).trans<|Cg.of<|zt _;unfold pc;split
  ·exact t1.symm
  ·rfl
 rw[ha]at e1;rw[<-h3];unfold Za X9;rw[za e1,za c1]
theorem H4{m:List Int}(h:zan p (v8 p R) m):vD p (ci m) (dvp<|ci m)↔vD p (cf R) (dvp<|cf R):=by
 obtain⟨x,y,hx,hy⟩:=h.cg;exact⟨fun hc=>Cq (hx.trans<|Cg.rfl.mul<|aD p R) hc,fun hc=>Cq ((aD p R).symm.trans hy) hc⟩
theorem nH(hR:yf R=R)(ho:y9 K R)(hK:K<=300)(h0:fY R=0)(hf:3000000<=fu):∃b,Wj fu R p=some (b,0)/\(b=true↔Yf R p):=by
 have ha:=n9 h0;rw[hR]at ha;unfold Wj;obtain⟨y,y1,_⟩:=Kh (fu:=fu) ho hK (by lia) hf;rw[za y1,h0];simp only[if_true];rw[za<|YI<|by lia]
 cases hp:wz p with
 |false=>
  rw[iq<|by decide];exact⟨_,rfl,fun e=>absurd e (by decide),fun e=>by rw[e.1]at hp;cases hp⟩
 |true=>
  obtain⟨p1,p2⟩:=zn hp;rw[ir (by decide),za<|jX ho (by lia) (by lia) p2];simp only;rw[za<|zC ho (by lia) (by lia) hf,show vP R.length (cf R)=R from hR];by_cases hz:(v8 p R).length=R.length
  ·obtain⟨m,b,h1,h2,h3,h4,_⟩:=zf3 (fu:=fu) hp (by lia) (by lia) hz;rw[zN,za h3];refine⟨b,rfl,?_⟩;rw[h4,H4 h1];exact⟨fun hc=>⟨hp,(eZ).1 hz,hc⟩,fun hc=>hc.2.2⟩
  ·rw[zy];exact⟨_,rfl,fun e=>absurd e (by decide),fun e=>absurd ((eZ).2 e.2.1) hz⟩
structure Th(R:List Zr)(p:Int)(l:List (List Int)):Prop where
 el:∀g∈l,X0 p g/\Ll p g/\g.length<=66
 pw:l.Pairwise fun a b=>vD p (ci a)<|ci b
 cg:Cg p (cf R) (pc (cf R<|R.length-1)*prZ (l.map ci))
 ln:l.length<=R.length-1
theorem Im{p:Int}:∀{l:List (List Int)},(∀g∈l,wx p g/\1<g.length)->∃d,Mn (prZ<|l.map ci) d/\l.length<=d
 |[],_=>⟨0,⟨rfl,fun k hk=>by show pc 1 k=0;unfold pc;rw[zy]⟩,xab _⟩
 |g::l,h=>by
  obtain⟨h1,h2⟩:=h g<|FS;obtain⟨d,hd,hl⟩:=Im fun x hx=>h x<|UV _ hx;exact⟨_,zgg h1.mn hd,by rw[xaq];lia⟩
theorem P7(hg:Yf R p)(hR:1<R.length)(hl:R.length<=13)(hd:Rl ds)(hm:ds.length<=1000)(hf:3000001<=fu):∃l,ZN fu (v8 p R) p ds=some (l,0)/\Th R p l:=by
 obtain⟨hp,ht,hc⟩:=hg;obtain⟨p1,p2⟩:=zn hp;obtain⟨P,rfl⟩:=xaA (show 0<=p by lia);have hz:=(eZ (p:=(P:Int))).2 ht;obtain⟨m,b,h1,h2,h3,h4,h5⟩:=zf3 (fu:=fu) hp (by lia) (by lia) hz;have he:=(H4 h1).2 hc;rw[iq<|h4.2 he]at h5;obtain⟨l,us,e1,hS,hP,hI⟩:=ni (fu:=fu) (b:=b) hp (Wv (by lia) R) (by lia) (by lia) hd hm hf h1 h2 h5 he;have hr:=h1.ln;have hi:∀g∈l,g.length<=66:=fun g hg=>by
  obtain⟨q,fq,hq⟩:=hP.dv hg;have:=az p1 h2 (hP.mn g hg).1 fq hq;lia
 refine⟨l,e1,fun g hg=>⟨hI g hg,⟨fun j _=>⟨(hP.mn g hg).1.fm.nn j,(hP.mn g hg).1.fm.lt j⟩,(hP.mn g hg).2,(hP.mn g hg).1.top⟩,hi g hg⟩,?_,?_,?_⟩
 ·refine xdl.2 fun{a b} hs=> ?_;have ha:a∈l:=hs.subset (by simp);have hb:b∈l:=hs.subset (by simp);refine(hI a ha).cop hp (hI b hb) (by have:=hi a ha;lia) (by have:=hi b hb;lia) fun hn=> ?_;subst hn;have:=fT (p:=(P:Int)) (hs.map ci) JH;refine vD.sq p1 (hI a ha) he<|Di.cg ?_ hP.pr.symm;refine Di.trans ⟨pc 1,Fs.pc 1,Cg.of ?_⟩ this;show ci a*(ci a*pc 1)=_;rw[zO,zt]
 ·obtain⟨x,y,hx,hy⟩:=h1.cg;have hj:=(aD (P:Int) R).symm.trans hy;have t:=hj<|R.length-1;rw[zE,show R.length-1=m.length-1 by lia,h2.top,xck,show m.length-1=R.length-1 by lia]at t;refine hj.trans<|Cg.mul (fun k=> ?_) hP.pr;unfold pc;split
  ·exact t.symm
  ·rfl
 ·obtain⟨d,hd,hu⟩:=Im hP.mn;have ho:=h2.mn;have hk:(1:Int)%(P:Int)=1:=xaC (by decide) (by lia);have t1:=hP.pr d;rw[hd.1,hk]at t1;by_cases hv:d<=m.length-1
  ·lia
  ·rw[ho.2 d (by lia),xag]at t1;cases t1
theorem nK(hR:yf R=R)(ho:y9 K R)(hK:K<=300)(h0:fY R=0)(hm:1<R.length)(hl:R.length<=13)(hd:Rl ds)(hp:ds.length<=1000)(hf:3000001<=fu):
 ∃p l,Wx fu R ds=some (p,l)/\((p=0/\∀q,¬Yf R q)\/(Yf R p/\Th R p l)):=by
 have hi:∀{q r:Int},(∀s,s<=q->¬Yf R s)->(∀s,q<s->s<r->wz s=false)->∀s,s<r->¬Yf R s:=fun{q r} h1 h2 s hs hg=>by
  by_cases h:s<=q
  ·exact h1 s h hg
  ·have:=h2 s (by lia) hs;rw[hg.1]at this;cases this
 have hj:∀{q:Int},65521<=q->(∀s,s<=q->¬Yf R s)->∀s,¬Yf R s:=fun{q} hq h s hg=>by
  have:=(zn hg.1).2;exact h s (by lia) hg
 obtain⟨s,hs,p,l,rfl,hQ⟩:=yv (f:=W5 fu R ds) (fun s:Int×Int×List (List Int)×Int×Int=>(s.2.2.2.2=0->wz s.2.2.2.1=true)/\0<=s.2.1/\((s.1=0/\s.2.1=0/\(s.2.2.2.2=0->∀q,q<s.2.2.2.1->¬Yf R q)/\(s.2.2.2.2≠0->∀q,¬Yf R q))\/(Yf R s.1/\Th R s.1 s.2.2.1))) (fun s=>if s.2.2.2.2=0 then(65522-s.2.2.2.1).toNat else 0)
  (fun r=>∃p l,r=(p,l)/\((p=0/\∀q,¬Yf R q)\/(Yf R p/\Th R p l))) (by
  rintro⟨b,n,out,q,e⟩ L ⟨i1,i2,i3⟩ ih
  simp only at i1 i2 i3 ih
  unfold W5
  simp only
  by_cases he:e=0
  ·have hq:=i1 he
   obtain⟨q1,q2⟩:=zn hq
   rw[iq he]
   by_cases hn:n<5
   ·obtain⟨c,c1,c2⟩:=nH (fu:=fu) (p:=q) hR ho hK h0<|by lia
    rw[iq hn,za c1]
    have hc:∃r e',xQ fu q=some (r,e')/\(e'=0->wz r=true/\q<r/\∀s,q<s->s<r->wz s=false)/\(e'≠0->65521<=q):=by
     by_cases h:65521<=q
     ·exact⟨0,5,iU h,fun h=>absurd h (by decide),fun _=>h⟩
     ·obtain⟨r,h1,h2⟩:=J7 (fu:=fu) (q:=q) (by lia) (by lia) (by lia);exact⟨r,0,h1,fun _=>h2,fun h=>absurd rfl h⟩
    obtain⟨r,e',n1,n2,n3⟩:=hc
    have ha:(if e'=0 then(65522-r).toNat else 0)<(if e=0 then(65522-q).toNat else 0):=by
     rw[iq he];split
     ·have:=n2 (by assumption);lia
     ·lia
    cases c with
    |false=>
     have hr:¬Yf R q:=fun hg=>by have:=c2.2 hg;cases this
     rw[iq (by decide),za n1]
     refine ih _ ⟨fun h=>(n2 h).1,i2,?_⟩ ha
     rcases i3 with⟨j1,j2,j3,j4⟩|j
     ·have hk:∀s,s<=q->¬Yf R s:=fun s hs hg=>by
       by_cases h:s=q
       ·rw[h]at hg;exact hr hg
       ·exact j3 he s (by lia) hg
      exact .inl ⟨j1,j2,fun h=>hi hk (n2 h).2.2,fun h=>hj (n3 h) hk⟩
     ·exact .inr j
    |true=>
     have hg:=c2.1 rfl
     obtain⟨t,t1,t2⟩:=P7 (fu:=fu) hg hm hl hd hp hf
     rw[ir (by decide),zb,za<|jX ho (by lia) (by lia) q2]
     simp only
     rw[za t1]
     simp only
     by_cases hb:b=0
     ·rw[iq hb,za n1]
      exact ih _ ⟨fun h=>(n2 h).1,by show 0<=n+1;lia,.inr ⟨hg,t2⟩⟩ ha
     ·have j:Yf R b/\Th R b out:=by
       rcases i3 with⟨j1,_⟩|j
       ·exact absurd j1 hb
       ·exact j
      rw[ir hb]
      split
      ·rw[za n1]
       exact ih _ ⟨fun h=>(n2 h).1,by show 0<=n+1;lia,.inr ⟨hg,t2⟩⟩ ha
      ·rw[za n1]
       exact ih _ ⟨fun h=>(n2 h).1,by show 0<=n+1;lia,.inr j⟩ ha
   ·rw[ir hn]
    refine⟨_,rfl,b,out,rfl,?_⟩
    rcases i3 with⟨j1,j2,_⟩|j
    ·lia
    ·exact .inr j
  ·rw[ir he]
   refine⟨_,rfl,b,out,rfl,?_⟩
   rcases i3 with⟨j1,j2,j3,j4⟩|j
   ·exact .inl ⟨j1,j4 he⟩
   ·exact .inr j) fu (0,0,[],2,0) ⟨fun _=>NV,xeY 0,.inl ⟨rfl,rfl,fun _ q hq hg=>by have:=(zn hg.1).1;simp only at hq;lia,fun h=>absurd rfl h⟩⟩ (by
   show(if(0:Int)=0 then((65522:Int)-2).toNat else 0)<fu
   rw[iq rfl]
   lia)
 refine⟨p,l,?_,hQ⟩;unfold Wx;obtain⟨r,r1,r2,r3,r4⟩:=J7 (fu:=fu) (q:=1) (by decide) (by decide) (by lia);have:r=2:=by
  by_cases h:r=2
  ·exact h
  ·have h5:=(zn r2).1;have:=r4 2 (by decide) (by lia);rw[NV]at this;cases this
 subst this;rw[za r1];simp only;rw[za hs]
end
section
variable{fu K Y:Nat}{a b R:List Zr}
theorem Pb(f g:Nat->Int):∀n,nQ f g n= -1\/nQ f g n=0\/nQ f g n=1
 |0=> .inr (.inl rfl)
 |n+1=>by
  unfold nQ;split
  ·exact Pb f g n
  ·split
   ·exact .inl rfl
   ·exact .inr (.inr rfl)
theorem tm(a b:List Zr):vF a b= -1\/vF a b=0\/vF a b=1:=by grind [vF,Pb]
theorem mm(ha:y9 K a)(hb:y9 K b)(ca:yf a=a)(cb:yf b=b)(hK:K<=40000)(hd:a.length<=1000)(hg:b.length<=1000)(hf:3000000<=fu):kR fu a b=some (decide<|vF a b<0):=by
 unfold kR;rw[za<|zC ha (by lia) (by lia) hf,za<|zC hb (by lia) (by lia) hf,show vP a.length (cf a)=a from ca,show vP b.length (cf b)=b from cb];have hc:vF a b=if a.length=b.length then nQ (cf a) (cf b) a.length else if a.length<b.length then-1 else 1:=rfl;by_cases hl:a.length=b.length
 ·rw[iq hl]at hc;rw[zN,zb,za (v:=if vF a b=0 then Sum.inl ()else Sum.inr (decide<|vF a b<0))]
  ·rcases tm a b with h|h|h<;>rw[h]<;>rfl
  ·rw[hc];refine zx (fun s:Int=>∃n:Nat,s=(n:Int)-1/\n<=a.length/\nQ (cf a) (cf b) n=nQ (cf a) (cf b) a.length) (fun s=>(s+1).toNat) _ ?_ _ _ ⟨a.length,rfl,xab _,rfl⟩ (by show((a.length:Int)-1+1).toNat<fu;lia);rintro s L ⟨n,rfl,hn,he⟩ ih;unfold Uu
   cases n with
   |zero=>
    rw[zy,<-he];rfl
   |succ n=>
    have oa:=ha.get n;have ob:=hb.get n;rw[show((n+1:Nat):Int)-1=(n:Int)by lia,zN,yj,zf,yj,zf,za<|uj (KA.of oa<|by lia) (KA.of ob<|by lia) hf,VG,VG];rw[show nQ (cf a) (cf b) (n+1)=if cf a n=cf b n then nQ (cf a) (cf b) n else if cf a n<cf b n then-1 else 1 from rfl]at he;by_cases e:cf a n=cf b n
    ·rw[iq e]at he;rw[iq<|wM.2 e,zb];exact ih _ ⟨n,rfl,by lia,he⟩<|by lia
    ·rw[ir e]at he;rw[ir fun h=>e<|wM.1 h];unfold qU;by_cases e2:cf a n<cf b n
     ·rw[iq e2]at he⊢;rw[<-he,iq<|by decide];rfl
     ·rw[ir e2]at he⊢;rw[iq (show cf b n<cf a n by lia),<-he,ir<|by decide];rfl
 ·rw[ir hl]at hc;rw[zy,hc];by_cases h2:a.length<b.length
  ·rw[iq h2,zN];rfl
  ·rw[ir h2,zy];rfl
theorem fL(ha:y9 K a)(hb:y9 K b)(ca:yf a=a)(cb:yf b=b)(hK:K<=40000)(hc:a.length<=1000)(hd:b.length<=1000)(hf:3000000<=fu):qH fu a b=some (vF a b):=by grind [qH,za,mm,vK,tm]
theorem zes:Od3 vF Gd:=⟨fun x y z _ _ _ h1 h2 h3=>by
 have h4:=o8 (a:=x) (b:=y) (c:=z) (by have:=vK x y;lia) (by have:=vK y z;lia);have:=vK x z;lia,fun x y _ _ h1 h2=>by
 have:=vK x y;lia⟩
def BdY(R:List Zr)(Y:Nat):Prop:=∃r:Nat,Y=(r+1)*2^(R.length-1)/\(r:Int)*r<gJ (cf R) R.length/\gJ (cf R) R.length<=((r:Int)+1)*(r+1)
theorem Sz(hR:yf R=R)(ho:y9 K R)(hK:K<=300)(h0:fY R=0)(hf:3000000<=fu):∃Y,wv fu R=some (yH (Y:Nat),0)/\BdY R Y:=by
 have ha:=n9 h0;have hb:=ZB (show R=vP R.length (cf R)from hR.symm) (by rw[hR]at ha;lia);obtain⟨y,h1,h2⟩:=Kh (fu:=fu) ho hK (by rw[hR]at ha;lia) hf;obtain⟨r,rfl,h3,h4⟩:=h2 h0;rw[hR]at h1 h3 h4 ha;have hc:=DS (f:=cf R) (n:=R.length) ⟨R.length-1,by lia,hb⟩;refine⟨_,by rw[h1,h0],r,rfl,?_,?_⟩
 ·have e:((r*r:Nat):Int)=(r:Int)*r:=by simp
  lia
 ·have e:(((r+1)*(r+1):Nat):Int)=((r:Int)+1)*(r+1):=by simp
  lia
theorem zhq{x y:Nat}(h:x*x<=y*y):x<=y:=by
 refine xae fun hn=> ?_;have:=xdK (show y<x by lia) (show y<x by lia);lia
theorem zkv{M:Int}(hR:0<R.length)(ht:Tp (cf R) (R.length-1))(hp:0<cf R (R.length-1))(hY:BdY R Y)(hM:2*((Y:Int)*cf R (R.length-1))<M):Bdz M (cf R):=fun u v b fu hv e j=>by
 obtain⟨r,rfl,_,hr⟩:=hY;obtain⟨nu,_⟩:=k9 ht.nz e;obtain⟨a,ha⟩:=Tp.ex fu nu;have hb:a+b=R.length-1:=by
  have:=ha.mul hv;rw[<-e]at this;exact this.uniq ht
 have key:(v b*u j).natAbs<=(r+1)*2^(R.length-1):=by
  refine zhq ?_;have h7:((v b*u j).natAbs*(v b*u j).natAbs:Nat)=(v b*u j*(v b*u j)).natAbs:=(xcg _ _).symm;have e2:(((r+1)*2^(R.length-1)*((r+1)*2^(R.length-1)):Nat):Int)=4^(R.length-1)*(((r:Int)+1)*(r+1)):=by
   have:(4:Int)^(R.length-1)=2^(R.length-1)*2^(R.length-1):=by rw[show(4:Int)=2*2 by decide,Int.mul_pow]
   rw[this];simp only[xfd,Int.natCast_pow,xdZ];grind
  have h0:=jr<|v b*u j;have h8:v b*u j*(v b*u j)<=4^(R.length-1)*(((r:Int)+1)*(r+1)):=by
   have h9:=mig ha hv e j;rw[hb,show R.length-1+1=R.length by lia]at h9;exact Int.le_trans h9<|xaW hr<|xfv<|by decide
  lia
 have h5:(((r+1)*2^(R.length-1):Nat):Int)*1<=(((r+1)*2^(R.length-1):Nat):Int)*cf R (R.length-1):=xaW (by lia) (by lia);lia
theorem Tv(hR:yf R=R)(ho:y9 K R)(hK:K<=300)(hl:0<R.length)(hb:R.length<=65)(hY:wv fu R=some (yH (Y:Nat),0))(ha:Bz 1000 (Y:Int))(hf:3000000<=fu):Wg fu R=some (decide<|1000<bl (2*((Y:Int)*cf R (R.length-1))).natAbs):=by
 have b2:Bz 1 2:=by unfold Bz;decide
 have ob:=ho.get<|R.length-1;have bt:=ho.bz<|R.length-1;have bm:=ha.mul bt;have bmm:=b2.mul bm;unfold Wg;rw[za hY];simp only;rw[za (z6<|by decide),show(R.length:Int)-1=((R.length-1:Nat):Int)by lia,zb,yj,zf,za<|ya (ha.ok<|by decide) (KA.of ob<|by lia) hf,zw,VG,za<|ya (b2.ok<|by decide) (bm.ok<|by lia) hf,zw,zw,za<|YL (yT _) (by have:=bmm.len;lia) (by have:=bmm.len;lia),show nv (yH<|2*((Y:Int)*cf R (R.length-1))).2=(2*((Y:Int)*cf R (R.length-1))).natAbs from z7 _];by_cases h:1000<bl (2*((Y:Int)*cf R (R.length-1))).natAbs
 ·rw[zN,decide_eq_true h]
 ·rw[zy,decide_eq_false h]
theorem zek{n k:Nat}(h:bl n<=k):n<2^k:=by grind [sa,xan,xay]
theorem Sl{p:Int}(hp:wz p=true)(hR:yf R=R)(ho:y9 K R)(hK:K<=300)(hl:0<R.length)(he:R.length<=65)(hY:wv fu R=some (yH (Y:Nat),0))(hb:Bz 1000 (Y:Int))(hg:bl (2*((Y:Int)*cf R (R.length-1))).natAbs<=1000)(hf:3000000<=fu):
 ∃k:Nat,YM fu R p=some (k:Int)/\1<=k/\k<=1000/\2*((Y:Int)*cf R (R.length-1))<p^k:=by
 obtain⟨p1,p2⟩:=zn hp;obtain⟨E,hE⟩:∃E,E=1000:=⟨_,rfl⟩;have hg:=zek (k:=E) (by rw[hE];exact hg);have b2:Bz 1 2:=by unfold Bz;decide
 have ob:=ho.get<|R.length-1;have bt:=ho.bz<|R.length-1;have bm:=hb.mul bt;have bmm:=b2.mul bm;have bp:Bz 1 p:=by unfold Bz;rw[Nat.pow_one];lia
 obtain⟨T,hT⟩:∃T,T=2*((Y:Int)*cf R (R.length-1)):=⟨_,rfl⟩;have hd:∀k:Nat,((2^k:Nat):Int)<=p^k:=fun k=>by
  obtain⟨P,rfl⟩:=xaA (show 0<=p by lia);have:=Nat.pow_le_pow_left (show 2<=P by lia) k;have e:((P^k:Nat):Int)=(P:Int)^k:=by simp
  rw[<-e];lia
 obtain⟨r,hr,k,rfl,k1,k2,k3⟩:=yv (f:=Xx fu p<|yH T) (fun s:Int×Zr=>∃k:Nat,s=((k:Int),yH<|p^k)/\1<=k/\k<=1000) (fun s=>1000-s.1.toNat) (fun r=>∃k:Nat,r=(k:Int)/\1<=k/\k<=1000/\T<p^k) (by
  rintro s L ⟨k,rfl,k1,k2⟩ ih;unfold Xx;simp only;have ha:=iH hp k2;rw[za<|uj (ha.ok<|by decide) ((hT▸bmm).ok<|by lia) hf (by have:=ha.len;lia) (by have:=(hT▸bmm:Bz _ T).len;lia),zw,zw];by_cases h:T<p^k
  ·have hc:qU (p^k) T=1:=by unfold qU;rw[zy,iq h]
   rw[hc,ir<|by decide];exact⟨_,rfl,k,rfl,k1,k2,h⟩
  ·have hk:k<1000:=by
    refine xae fun hn=> ?_;obtain rfl:k=E:=by lia
    have:=hd k;rw[<-hT]at hg;lia
   have hc:qU (p^k) T<=0:=by
    unfold qU;split
    ·decide
    ·first|decide|(rw[ir h];decide)
   rw[iq hc,za<|z6 ⟨by lia,by lia⟩,za<|ya (ha.ok<|by decide) (bp.ok<|by decide) hf,zw,zw,zb,<-xbl];exact ih _ ⟨k+1,rfl,by lia,by lia⟩ (by show 1000-((k:Int)+1).toNat<1000-(k:Int).toNat;lia)) fu (1,yH p) ⟨1,by rw[xbl,xbs,xca];rfl,by lia,by lia⟩ (by show 1000-(1:Int).toNat<fu;lia)
 refine⟨k,?_,k1,k2,by rw[<-hT];exact k3⟩;unfold YM;rw[za hY];simp only;rw[za (z6<|by decide),show(R.length:Int)-1=((R.length-1:Nat):Int)by lia,zb,yj,zf,za<|ya (hb.ok<|by decide) (KA.of ob<|by lia) hf,zw,VG,za<|ya (b2.ok<|by decide) (bm.ok<|by lia) hf,zw,zw,<-hT,za<|z6 ⟨by lia,by lia⟩,za hr]
end
section
variable{R a:List Zr}{fu K B:Nat}{ds:List Int}
theorem HV{R:List Zr->List Int->Prop}:∀{us:List (List Zr)}{fs:List (List Int)},rL R us fs->∃xs:List Lx,us=xs.map (·.1)/\fs=xs.map (·.2)/\∀x∈xs,R x.1 x.2
 |[],[],_=>⟨[],rfl,rfl,fun _ h=>absurd h IR⟩
 |u::us,f::fs,h=>by
  obtain⟨xs,e1,e2,h3⟩:=HV h.2;refine⟨(u,f)::xs,by rw[e1];rfl,by rw[e2];rfl,fun x hx=> ?_⟩;rcases xac.1 hx with rfl|hx
  ·exact h.1
  ·exact h3 x hx
def OI(R:List Zr):Prop:=∃Y,BdY R Y/\1000<bl (2*((Y:Int)*cf R (R.length-1))).natAbs
theorem BdY.uniq{Y Z:Nat}(h:BdY R Y)(g:BdY R Z):Y=Z:=by
 obtain⟨r,rfl,h1,h2⟩:=h;obtain⟨s,rfl,g1,g2⟩:=g;have key:∀{r s:Nat}{S:Int},(r:Int)*r<S->S<=((s:Int)+1)*(s+1)->¬s<r:=fun{r s S} h1 h2 ha=>by
  have:((s:Int)+1)*(s+1)<=(r:Int)*r:=Int.mul_le_mul (by lia) (by lia) (by lia) (by lia);lia
 have:=key h1 g2;have:=key g1 h2;obtain rfl:r=s:=by lia
 rfl
theorem nB(hR:yf R=R)(pm:Pm (cf R))(ps:Po (cf R))(ho:y9 K R)(hK:K<=200)(hl:R.length<=11)(hd:Rl ds)(hV:ds.length<=1000)(hf:3000300<=fu):
 ∃l b,WG fu R ds=some (l,b)/\(b=true↔R.length<2\/(¬OI R/\∃p,Yf R p))/\(b=true->(∀g∈l,Gd g)/\cf R=prZ (l.map fun g=>(cf g:Pz))/\l.Pairwise (fun a b=>vF a b<0)/\l.length<=12):=by
 have hJ:(yf R).length≠0:=fun e=>by
  obtain⟨j,hj⟩:=pm.nz;exact hj<|kz e j
 have tR:=uW hJ;rw[hR]at hJ tR;have hB:0<cf R (R.length-1):=by
  obtain⟨m,m1,m2⟩:=ps.tp;rw[<-m1.uniq tR];exact m2
 unfold WG;by_cases h2:R.length<2
 ·rw[zN];refine⟨[],true,rfl,⟨fun _=> .inl h2,fun _=>rfl⟩,fun _=>⟨fun g hg=>absurd hg IR,?_,xfn,xah _⟩⟩;obtain⟨d,hd⟩:=((Kz.tp tR).2<|by lia).ex;have h3:cf R (R.length-1)=d:=by rw[hd,show R.length-1=0 by lia];exact iq rfl
  rw[hd]at pm;rcases tD pm with e|e
  ·rw[hd,e];rfl
  ·lia
 ·have h0:fY R=0:=by unfold fY;rw[hR,zy,zy]
  obtain⟨Y,hY,hA⟩:=Sz (fu:=fu) hR ho (by lia) h0 (by lia);have hM:Bz 1000 (Y:Int):=by
   obtain⟨r,rfl,h3,h4⟩:=hA;have h5:=zcD (K:=K) (f:=cf R) ho.bz R.length (by lia);have h6:Bz 401 (r:Int):=by
    refine Bz.nat ?_;refine xba (show r<=r*r from Nat.le_mul_self r) ?_;have h7:((r*r:Nat):Int)=(r:Int)*r:=by simp
    have h8:=h5.mono (show K+K+1<=401 by lia);unfold Bz at h8;lia
   have h9:Bz 402 (((r+1:Nat):Int)):=(h6.add<|Bz.one' (k:=401)<|by decide).le (by lia);have hW:Bz 1 (((2^(R.length-1):Nat):Int)):=Bz.nat (by
    rw[Nat.pow_one];exact xba (xay (by decide) (show R.length-1<=10 by lia))<|by decide)
   have:=(h9.mul hW).mono (show 402+1<=1000 by decide);rwa[<-xfd]at this
  have hN:OI R↔1000<bl (2*((Y:Int)*cf R (R.length-1))).natAbs:=⟨fun⟨Z,z1,z2⟩=>by rw[hA.uniq z1];exact z2,fun h=>⟨Y,hA,h⟩⟩;rw[zy,za<|Tv hR ho (by lia) (by lia) (by lia) hY hM<|by lia];by_cases hg:1000<bl (2*((Y:Int)*cf R (R.length-1))).natAbs
  ·rw[decide_eq_true hg,iq rfl];refine⟨[],false,rfl,⟨fun h=>absurd h (by decide),fun h=> ?_⟩,fun h=>absurd h<|by decide⟩;rcases h with h|h
   ·exact absurd h h2
   ·exact absurd (hN.2 hg) h.1
  ·rw[decide_eq_false hg,ir<|by decide];obtain⟨p,l,e1,hQ⟩:=nK (fu:=fu) hR ho (by lia) h0 (by lia) (by lia) hd hV (by lia);rw[za e1];simp only;rcases hQ with⟨hX,hZ⟩|⟨hE,hu⟩
   ·rw[iq hX];refine⟨[],false,rfl,⟨fun h=>absurd h (by decide),fun h=> ?_⟩,fun h=>absurd h<|by decide⟩;rcases h with h|⟨_,q,hq⟩
    ·exact absurd h h2
    ·exact absurd hq<|hZ q
   ·obtain⟨hp,ht,hc⟩:=hE;obtain⟨p1,p2⟩:=zn hp;obtain⟨k,e2,k1,k2,k3⟩:=Sl (fu:=fu) hp hR ho (by lia) (by lia) (by lia) hY hM (xbw hg) (by lia);have hO:fQ p (k:Int)=(yH<|p^k,0):=by
     unfold fQ;rw[if_pos ⟨hp,by lia,by lia⟩,xaK]
    have h1:=hu.ln;rw[zy,za e2,za (jB<|by lia),hO];simp only;have h':YX fu R l p=some ([],R,l):=by
     unfold YX;rw[za (v:=(R,l))];obtain⟨n,hn⟩:∃n,fu=n+1:=⟨fu-1,by lia⟩;have:zg (XO fu p) (n+1) (R,l)=some (R,l):=by
      rw[jc];unfold XO;simp only;rw[zy]
     rw[<-hn]at this;exact this
    rw[za h'];simp only;have hz:=(eZ (p:=p)).2 ht;have hP:UM p (yf R) l:=by
     rw[hR];refine⟨by lia,hz,by lia,fun i hi=> ?_,fun i j hi hj=> ?_,?_⟩
     ·have hm:=BA (l:=l) hi;refine⟨?_,(hu.el _ hm).2.1⟩;obtain⟨q,fq,hq⟩:Di p (ci<|l.getD i []) (cf R):=Di.cg ((Js JH<|xbL hm).mul _<|Fs.pc _) hu.cg.symm;have hT:=(hu.el _ hm).1.mn;obtain⟨x,hx,hcx⟩:=fH hp ht 1|>fun⟨x,hx⟩=>(⟨x,hx,rfl⟩:∃x,p^1∣x*cf R (R.length-1)-1/\True=True);by_cases hlt:(l.getD i []).length<=R.length
      ·exact hlt
      ·exfalso;have h3:=hT.mn.zero p1 fq fun k hk=>by rw[<-hq k,tR.2 k (by have:=hT.ln;lia),xag]
       have h4:=(hq.trans<|h3.mul_zero_r _)<|R.length-1;rw[zL,xag]at h4;exact ht h4
     ·have h3:=xcW.1 hu.pw j i (by lia) hi hj;rw[H1,H1,xaa hi,xaa (show j<l.length by lia)];exact h3.symm
     ·refine(vR (p:=p) (by lia) _ _).ext (Wv (by lia) R) ((kK p _ _).trans<|(Cg.mul (gb p l) Cg.rfl).trans<|Cg.trans ?_ (aD p R).symm);rw[qk,zj];refine Cg.trans (Cg.mul (fun j=> ?_) Cg.rfl) hu.cg.symm;rw[V8];unfold pc;split
      ·exact xaF _ _
      ·rfl
    obtain⟨us,e,e3,e4,e5⟩:=lu (fu:=fu) (p:=p) (k:=(k:Int)) (a:=R) (fs:=l) (ho.mono<|by lia) (by lia) (by lia);have he:e=0:=by
     refine xae fun hF=> ?_;have hr:=cy (fu:=fu) (fs:=l) hp (ho.mono (by lia:K<=250)) (by decide) (by lia:R.length<=66) (by lia);obtain⟨bb,b1,b2⟩:=hr;rw[b2.2<|by rw[hR]at hP;exact hP]at b1;have:=zbI (ho.mono (by lia:K<=250)) (by lia) (by lia) (by lia) (by lia) e3;unfold TQ at this;rw[iq hp,hR,zy,iq b1]at this;exact hF this
    obtain⟨hG,_⟩:=e4 he;rw[xaK]at hG;have hup:=hG.up;obtain⟨xs,rfl,rfl,hx⟩:=HV hup;have hF:xs.map (·.2)≠[]:=fun e=>by
     have h3:=hu.cg<|R.length-1;rw[e,show prZ ([].map ci)=pc 1 from rfl,zO]at h3;have h4:pc (cf R<|R.length-1) (R.length-1)=0:=zy;rw[h4,xag]at h3;exact ht h3
    have hU:=hG.cg hF;rw[hR,xcT]at hU;rw[xaP]at h1;have hC:Ch p k (cf R) R xs [] 1:=by
     have hL:Lc p k (cf R) (R.length-1) xs:=⟨hp,k1,fun x hH=>⟨hx x hH,(hu.el _<|xbL hH).1,(hu.el _<|xbL hH).2.2⟩,(xdq (R:=fun a b=>vD p (ci a)<|ci b) (f:=fun x:Lx=>x.2)).1 hu.pw,tR,by lia,hB,ht,pm,hU⟩;exact⟨hL,k2,hR,ho.mono (by lia),hl,zkv (by lia) tR hB hA k3,Ls.one hL,by rw[xbS];lia,(zt _).symm,fun g hg=>absurd hg IR⟩
    obtain⟨out,o1,o2,o3,o4⟩:=IQ (fu:=fu) hC (by lia);rw[zN,za e3];simp only;rw[za o1,wC (by simp only[xbS];lia),zf,xbA];obtain⟨r,s1,s2,s3⟩:=Dd (fu:=fu) (cmp:=fun zx0 zx1=>qH fu zx0 zx1) (c:=vF) (S:=Gd) (fun x y hx hy=>fL hx.ok hy.ok hx.can hy.can (by decide) (by have:=hx.ln;lia) (by have:=hy.ln;lia)<|by lia) (t:=out) o3 (by lia) (by lia);have hI:cf R=prZ (r.map fun g=>(cf g:Pz)):=by rw[o4];exact Iv<|s2.symm.map _
    have hw:∀g∈r,Gd g:=fun g hg=>o3 g<|s2.mem_iff.1 hg;rw[za s1];refine⟨r,true,rfl,⟨fun _=> .inr ⟨fun h=>hg<|hN.1 h,p,hp,ht,hc⟩,fun _=>rfl⟩,fun _=>⟨hw,hI,?_,by rw[s2.length_eq];lia⟩⟩;refine(xdl.2 fun{a b} hs=> ?_);have h3:¬vF b a<0:=(xdl.1<|s3 zes) hs;have ha:a∈r:=hs.subset (by simp);have hb:b∈r:=hs.subset (by simp);have h4:=vK a b;by_cases h5:vF a b=0
    ·exfalso;have hab:=iu (hw a ha).can (hw b hb).can h5;subst hab;obtain⟨m,w,hS,hm⟩:=hC.lc.sf;have hD:=fT (p:=p) (hs.map fun g=>(cf g:Pz)) fun f hf=>by
      obtain⟨g,_,rfl⟩:=xal.1 hf;exact Fs.cf g
     rw[<-hI]at hD;have hsq:Di p ((cf a:Pz)*cf a) (ci m):=by
      refine Di.trans ⟨pc 1,Fs.pc 1,Cg.of ?_⟩<|hD.trans ⟨pc w,Fs.pc w,hm⟩;show(cf a:Pz)*(cf a*pc 1)=_;rw[zO,zt]
     have hga:=hw a ha;have hda:Zd (cf a) (cf R):=by
      rw[hI];obtain⟨A,B,e6⟩:=xdQ ha;rw[e6,xbg,xbX,wm];refine Zd.mul _ (Fs.prZ fun f hf=> ?_)<|Zd.left<|Fs.prZ fun f hf=> ?_
      ·obtain⟨g,_,rfl⟩:=xal.1 hf;exact Fs.cf g
      ·obtain⟨g,_,rfl⟩:=xal.1 hf;exact Fs.cf g
     obtain⟨v,fv,hv⟩:=hda;have h6:=hC.ls (cf a) v (Fs.cf a) fv (by rw[hv,zj]) hga.ir.dg;obtain⟨x,hxo⟩:∃x,x∈own p (cf a) xs:=by
      cases ho2:own p (cf a) xs with
      |nil=>rw[ho2]at h6;exact absurd h6<|by decide
      |cons x t=>exact⟨x,FS⟩
     obtain⟨h7,h8⟩:=JL.1 hxo;exact hS.apart (Fs.cf a) (Fs.cf a) hsq (xbL h7) h8 h8
    ·lia
theorem mZ{q:List Zr}{m:Nat}(ha:y9 K a)(hK:K<=50)(ta:Tp (cf a) m)(hm:m<=11)(hc:a.length<=40)(bA:∀j,Bb B<|cf a j)(hB:B<=3000)(hq:Gd q)(bQ:y9 50 q)(hf:3000000<=fu):
 ∃n:Nat,Zq fu a q=some (n:Int)/\n<=11/\Mu (cf q) (cf a) n:=by
 have hb:(yf q).length≠0:=fun e=>by
  obtain⟨j,hj⟩:=hq.ir.pm.nz;exact hj<|kz e j
 have tq:=uW hb;rw[hq.can]at tq;have hg:=hq.ln;have hl:1<=q.length-1:=by refine xae fun h=>hq.ir.dg<|(Kz.tp tq).2<|by lia
 have fp:=fun n=>hq.ir.fs.pp n;have one:∀(t:List Zr) (n:Nat),y9 60 t->t.length<=40->cf a=(cf t:Pz)*pp (cf q) n->∃q' e,wG fu t q=some (q',e)/\(e=0->y9 60 q'/\q'.length<=40/\cf a=(cf q':Pz)*pp (cf q) (n+1))/\(e≠0->Mu (cf q) (cf a) n):=fun t n o1 l1 e1=>by
  obtain⟨q',e,d1,d2,d3⟩:=Vp (fu:=fu) o1 bQ (by have:=xaw (50+1) (show t.length+1<=41 by lia);lia) (by lia) (by lia) hb hf;refine⟨q',e,d1,fun he=> ?_,fun he=>⟨cf t,Fs.cf t,e1,fun hz=>he<|d2.2 hz⟩⟩;obtain⟨f1,f2,f3⟩:=d3 he;have e2:cf a=(cf q':Pz)*pp (cf q) (n+1):=by
   rw[e1,f1,zd];show _=_*(pp (cf q) n*cf q);rw[zj<|pp (cf q) n]
  refine⟨?_,by lia,e2⟩;rw[<-f2];exact xa fun j=>(Fe ta (Fs.cf q') (fp _) e2 (by lia) bA j).bz<|by lia
 obtain⟨q1,x1,c1,c2,c3⟩:=one a 0 (ha.mono<|by lia) hc (zO _).symm;have deg:∀{t:List Zr}{n:Nat},cf a=(cf t:Pz)*pp (cf q) n->n<=m:=fun{t n} e=>by
  obtain⟨nt,np⟩:=k9 ta.nz e;obtain⟨i,hi⟩:=Tp.ex (Fs.cf t) nt;have hd:∀n,Tp (pp (cf q) n) (n*(q.length-1)):=fun n=>by
   induction n with
   |zero=>rw[xcv];exact⟨show pc 1 0≠0 by decide,fun k hk=>by show pc 1 k=0;unfold pc;rw[zy]⟩
   |succ n ih=>rw[xaV,xcm];exact ih.mul tq
  have h1:=hi.mul<|hd n;rw[<-e]at h1;have h2:=h1.uniq ta;have h3:=xcb n (show 0<q.length-1 by lia);lia
 obtain⟨s,hs,n,rfl,n1,n2⟩:=yv (f:=Vq fu q) (fun s:Int×List Zr×Int=>∃n:Nat,s.1=(n:Int)/\(s.2.2=0->y9 60 s.2.1/\s.2.1.length<=40/\cf a=(cf s.2.1:Pz)*pp (cf q) (n+1))/\(s.2.2≠0->n<=11/\Mu (cf q) (cf a) n)) (fun s=>if s.2.2=0 then 20-s.1.toNat else 0) (fun r=>∃n:Nat,r=(n:Int)/\n<=11/\Mu (cf q) (cf a) n) (by
  rintro⟨i,t,e⟩ L ⟨n,hn,h1,h2⟩ ih;simp only at hn h1 h2 ih;subst hn;unfold Vq;simp only;by_cases he:e=0
  ·obtain⟨o1,l1,e1⟩:=h1 he;have ho:=deg e1;obtain⟨q',e',d1,d2,d3⟩:=one t (n+1) o1 l1 e1;rw[iq he,zb,za d1];refine ih _ ⟨n+1,by show(n:Int)+1=((n+1:Nat):Int);lia,d2,fun h=>⟨by lia,d3 h⟩⟩ ?_;rw[iq he];split
   ·show 20-((n:Int)+1).toNat<20-(n:Int).toNat;lia
   ·show 0<20-(n:Int).toNat;lia
  ·rw[ir he];exact⟨_,rfl,n,rfl,h2 he⟩) fu (0,q1,x1) ⟨0,rfl,c2,fun h=>⟨by lia,c3 h⟩⟩ (by
  show(if x1=0 then 20-(0:Int).toNat else 0)<fu;split<;>lia)
 refine⟨n,?_,n1,n2⟩;unfold Zq;rw[za c1];simp only;rw[za hs]
def Ri(R:List Zr):Prop:=R.length<2\/(¬OI R/\∃p,Yf R p)
theorem Tz(h:Rad a R):Zd (cf R) (cf a):=by
 obtain⟨g,fg,e⟩:=h.dv;rw[<-W0 a,e];exact(Zd.left fg).mul _<|Fs.pc _
theorem dh(ha:y9 K a)(hK:K<=40000)(hl:a.length<=1000000)(h0:fY a≠0)(hf:3000000<=fu):yB fu a ds=some ((false,[]),[],fY a):=by grind [yB,za,cU]
theorem dC(ha:y9 K a)(hK:K<=50)(hl:a.length<=40)(h0:fY a=0)(ht:(yf a).length<=11)(bA:∀j,Bb B<|cf a j)(hB:B<=3000)(hC:(B+7)*Qt ((yf a).length-1)<=639000)(hk:(B+7)*Qt ((yf a).length)<=2400000)(hd:Rl ds)(ho:ds.length<=1000)(hf:3000300<=fu):
 ∃R,wH fu a=some (R,0)/\Rad a R/\(∀j,Bb (B+(yf a).length+4)<|cf R j)/\
  ((Ri R/\∃l,yB fu a ds=some (yH<|wq a,l,0)/\FL (cf a) l/\l.length<=12/\∀x∈l,Gd x.1/\x.2<=11)\/
   (¬Ri R/\yB fu a ds=some ((false,[]),[],6))):=by
 have hr:=n9 h0;have ta:=uW (a:=a) (by lia);obtain⟨R,r1,r2,r3⟩:=dq (fu:=fu) ha (by lia) hl h0 bA (by lia) hC hk (by lia);have oR:y9 50 R:=by rw[<-r2.can];exact xa fun j=>(r3 j).bz<|by lia
 obtain⟨l,b,s1,s2,s3⟩:=nB (fu:=fu) r2.can r2.pm r2.ps oR (by decide) (by have:=r2.ln;lia) hd ho hf;refine⟨R,r1,r2,r3,?_⟩
 cases b with
 |false=>
  refine .inr ⟨fun h=>(by have:=s2.2 h;cases this),?_⟩;unfold yB;rw[za r1];simp only[if_true];rw[za s1];rfl
 |true=>
  obtain⟨g1,g2,g3,g4⟩:=s3 rfl;refine .inl ⟨s2.1 rfl,?_⟩;have he:∀q∈l,Zd (cf q) (cf a):=fun q hq=>by
   refine Zd.trans ?_<|Tz r2;rw[g2];obtain⟨A,D,e6⟩:=xdQ hq;rw[e6,xbg,xbX,wm];refine Zd.mul _ (Fs.prZ fun f hf=> ?_)<|Zd.left<|Fs.prZ fun f hf=> ?_
   ·obtain⟨g,_,rfl⟩:=xal.1 hf;exact Fs.cf g
   ·obtain⟨g,_,rfl⟩:=xal.1 hf;exact Fs.cf g
  have hj:∀q∈l,∃n:Nat,Zq fu a q=some (n:Int)/\n<=11/\Mu (cf q) (cf a) n:=fun q hq=>by
   have hG:=g1 q hq;refine mZ ha hK ta (by lia) hl bA hB hG ?_ (by lia);obtain⟨u,fu',e⟩:=he q hq;rw[<-hG.can];exact xa fun j=>(Fe ta (Fs.cf q) fu' (by rw[e,zj]) (by lia) bA j).bz<|by lia
  obtain⟨s,hs,out,rfl,o1,o2⟩:=yv (f:=Yl fu a l) (fun s:List (List Zr×Int)×Int×Zr×List (List Zr)=>∃(i:Nat) (out:List (List Zr×Int)),s=(out,(i:Int),(false,[]),l)/\i<=l.length/\out.map (·.1)=l.take i/\∀x∈out,∃n:Nat,x.2=(n:Int)/\n<=11/\Mu (cf x.1) (cf a) n) (fun s=>l.length-s.2.1.toNat)
   (fun r=>∃out:List (List Zr×Int),r=(out,(false,[]))/\out.map (·.1)=l/\∀x∈out,∃n:Nat,x.2=(n:Int)/\n<=11/\Mu (cf x.1) (cf a) n) (by
   rintro s L ⟨i,out,rfl,hi,h1,h2⟩ ih
   unfold Yl
   simp only
   by_cases hb:i<l.length
   ·have hm:l.getD i []∈l:=by
     rw[H1,xaa hb];exact xbn hb
    obtain⟨n,n1,n2,n3⟩:=hj _ hm
    have hv:out.length=i:=by
     have:=congrArg xaI h1;rw[xaP,xav]at this;lia
    rw[zN,za rfl]
    simp only[if_true]
    rw[zp hb,zf,za n1,wC (by simp only[xaq,xbS];lia),zf,zb]
    refine ih _ ⟨i+1,_,rfl,by lia,?_,fun x hx=> ?_⟩ (by show l.length-((i:Int)+1).toNat<l.length-(i:Int).toNat;lia)
    ·rw[xbg,h1,xfs,xaa hb,H1,xaa hb]
     rfl
    ·rcases Nm.1 hx with hx|hx
     ·exact h2 x hx
     ·obtain rfl:=xai.1 hx
      exact⟨n,rfl,n2,n3⟩
   ·rw[zy,za rfl]
    simp only[xak,if_false]
    obtain rfl:i=l.length:=by lia
    rw[xcP]at h1
    exact⟨_,rfl,out,rfl,h1,h2⟩) fu ([],0,(false,[]),l) ⟨0,[],rfl,xah _,by rw[List.take_zero];rfl,fun x hx=>absurd hx IR⟩ (by show l.length-(0:Int).toNat<fu;lia)
  have hc:∀x∈out,x.1∈l:=fun x hx=>by rw[<-o1];exact xbL hx
  refine⟨out,?_,⟨fun x hx=> ?_,fun q hq pq hz=> ?_,?_⟩,?_,fun x hx=>⟨g1 _<|hc x hx,?_⟩⟩
  ·unfold yB;rw[za r1];simp only[if_true];rw[za s1];simp only;rw[ir (by decide),za hs];simp only;rw[za<|jb ha]
  ·have hG:=g1 _<|hc x hx;obtain⟨n,n1,n2,n3⟩:=o2 x hx;refine⟨hG.can,hG.ir,hG.ps,?_,by rw[n1,xaK];exact n3⟩;by_cases hn:n=0
   ·exfalso;subst hn;obtain⟨u,fu',e,hu⟩:=n3;rw[show pp (cf x.1) 0=pc 1 from rfl,zO]at e;rw[<-e]at hu;exact hu<|he _<|hc x hx
   ·lia
  ·have h1:=r2.al q hq hz;rw[g2]at h1;obtain⟨f,hp,h2⟩:=hq.prz (fun f hf=>by obtain⟨g,_,rfl⟩:=xal.1 hf;exact Fs.cf g) h1;obtain⟨g,hg,rfl⟩:=xal.1 hp;have e:=hq.eq (g1 g hg).ir pq (g1 g hg).ps h2;rw[<-o1]at hg;obtain⟨x,hx,rfl⟩:=xal.1 hg;exact⟨x,hx,e.symm⟩
  ·have:=g3;rw[<-o1]at this;exact xdq.1 this
  ·have:=congrArg xaI o1;rw[xaP]at this;lia
  ·obtain⟨n,n1,n2,n3⟩:=o2 x hx;lia
end
theorem zbb{R:List Zr}{b:Nat}(hl:R.length<=11)(hb:b<=400)(bR:∀j,Bb b<|cf R j):¬OI R:=fun⟨Y,⟨r,hY,h1,_⟩,h3⟩=>by
 obtain⟨E,hE⟩:∃E,E=1000:=⟨_,rfl⟩;have h4:∀k,cf R k*cf R k<=(2^b:Int)*2^b:=fun k=>by
  have:=bR k;unfold Bb at this;have h3:(cf R k*cf R k)=(((cf R k).natAbs*(cf R k).natAbs:Nat):Int):=by
   rw[<-xcg];have:=jr<|cf R k;lia
  rw[h3];have h4:=xbH (xcS this)<|xcS this;have h5:((2:Int)^b*2^b)=((2^b*2^b:Nat):Int):=by simp
  lia
 have h5:=Me h4 R.length;have h6:r<4*2^b:=by
  refine Tt ?_;have e1:((r*r:Nat):Int)=(r:Int)*r:=by simp
  have e2:((2:Int)^b*2^b)=((2^b*2^b:Nat):Int):=by simp
  have e3:4*2^b*(4*2^b)=16*(2^b*2^b):=by grind
  rw[e3];rw[e2]at h5;generalize 2^b*2^b=Q at*
  have h7:(R.length:Int)*(Q:Int)<=11*(Q:Int):=xbz (by lia) (by lia);lia
 have h7:(2*((Y:Int)*cf R (R.length-1))).natAbs<2^E:=by
  rw[xcg,xcg,xbe,hY];have t:=bR<|R.length-1;unfold Bb at t;have h8:(r+1)*2^(R.length-1)<=4*2^b*2^10:=xbH (by lia) (xay (by decide)<|by lia);have h9:=xbH h8<|xcS t;have ha:=xaD 2 h9;refine xba ha ?_;have e:2*(4*2^b*2^10*2^b)=2^(b+b+13):=by
   rw[xbZ,xbZ,show(2:Nat)^13=2*4*2^10 by decide];generalize(2:Nat)^b=Q;generalize(2:Nat)^10=T;grind
  rw[e];exact xeM (by decide)<|by lia
 have:=Qe h7;lia
theorem zil:Rl []:=fun k=>by
 rw[zM<|xah k];exact⟨by lia,by lia⟩
section
variable{q:List Zr}{f:Pz}{l:List (List Zr×Int)}
theorem Mu.deg{q:Pz}{n m:Nat}(hq:Ir q)(hf:Tp f m)(h:Mu q f n):n<=m:=by
 obtain⟨u,fu,e,_⟩:=h;obtain⟨a,ha⟩:=Tp.ex fu (k9 hf.nz e).1;obtain⟨b,hb⟩:=Tp.ex hq.fs hq.pm.nz;have hc:1<=b:=xae fun h0=>hq.dg ((Kz.tp hb).2<|by lia);have hd:∀n,Tp (pp q n) (n*b):=fun n=>by
  induction n with
  |zero=>rw[xcv];exact⟨show pc 1 0≠0 by decide,fun k hk=>by show pc 1 k=0;unfold pc;rw[zy]⟩
  |succ n ih=>rw[xaV,xcm];exact ih.mul hb
 have h1:=ha.mul<|hd n;rw[<-e]at h1;have h2:=h1.uniq hf;have h3:=xcb n hc;lia
theorem FL.num{c:Int}(hc:c≠0):FL (pc c) []:=
 ⟨fun x hx=>absurd hx IR,fun q hq pq hz=>absurd (Zd.pm (c:=c) hq.fs hq.pm hc<|by rw[zO];exact hz) hq.one,xfn⟩
def JS(q:List Zr)(n:Int):List (List Zr×Int)->List (List Zr×Int)
 |[]=>[(q,n)]
 |x::l=>if vF x.1 q<0 then x::JS q n l else if x.1=q then(x.1,x.2+n)::l else(q,n)::x::l
theorem Ua{q:List Zr}{n:Int}:∀{l:List (List Zr×Int)}{y},y∈JS q n l->y∈l\/y.1=q
 |[],y,h=> .inr<|by rw[xai.1 h]
 |x::l,y,h=>by
  unfold JS at h;split at h
  ·rcases xac.1 h with rfl|h
   ·exact .inl<|FS
   ·rcases Ua h with h|h
    ·exact .inl<|UV _ h
    ·exact .inr h
  ·split at h
   ·rename_i _ e;rcases xac.1 h with rfl|h
    ·exact .inr e
    ·exact .inl<|UV _ h
   ·rcases xac.1 h with rfl|h
    ·exact .inr rfl
    ·exact .inl h
theorem BU{q:List Zr}{n:Int}:∀{l:List (List Zr×Int)}{x},x∈l->x.1≠q->x∈JS q n l
 |y::l,x,h,ha=>by
  unfold JS;split
  ·rcases xac.1 h with rfl|h
   ·exact FS
   ·exact UV _<|BU h ha
  ·split
   ·rename_i _ e;rcases xac.1 h with rfl|h
    ·exact absurd e ha
    ·exact UV _ h
   ·exact UV _ h
theorem pN{q:List Zr}{n:Int}:∀{l:List (List Zr×Int)},(JS q n l).length<=l.length+1
 |[]=>xab _
 |x::l=>by
  unfold JS;split
  ·exact Nat.succ_le_succ pN
  ·split
   ·exact xcd _
   ·exact xab _
theorem zeP{z:List Zr}{n:Int}(h:∀x∈l,vF z x.1<0)(hq:vF z q<0):∀x∈JS q n l,vF z x.1<0:=fun x hx=>by
 rcases Ua hx with h1|h1
 ·exact h x h1
 ·rw[h1];exact hq
theorem OJ{q:List Zr}{n:Int}(cq:yf q=q):∀{l:List (List Zr×Int)},(∀x∈l,yf x.1=x.1)->l.Pairwise (fun x y=>vF x.1 y.1<0)->(JS q n l).Pairwise fun x y=>vF x.1 y.1<0
 |[],_,_=>List.pairwise_singleton _ _
 |x::l,hc,h=>by
  rw[xbJ]at h;unfold JS;split
  ·rename_i ha;exact xbJ.2 ⟨zeP h.1 ha,OJ cq (fun y hy=>hc y<|UV _ hy) h.2⟩
  ·split
   ·exact xbJ.2 h
   ·rename_i h1 h2;have h3:vF q x.1<0:=by
     have h4:=vK x.1 q;have h5:vF x.1 q≠0:=fun e=>h2<|iu (hc x<|FS) cq e;lia
    refine xbJ.2 ⟨fun y hy=> ?_,xbJ.2 h⟩;show vF q y.1<0;rcases xac.1 hy with rfl|hy
    ·exact h3
    ·have h4:=h.1 y hy;have h5:vF q y.1<=0:=o8 (b:=x.1) (by lia) (by lia);have h6:vF q y.1≠0:=fun e=>by
      have h7:=iu cq (hc y<|UV _ hy) e;rw[<-h7]at h4;have:=vK x.1 q;lia
     lia
theorem OT{q:List Zr}{n:Int}(cq:yf q=q):∀{l:List (List Zr×Int)},(∀x∈l,yf x.1=x.1)->l.Pairwise (fun x y=>vF x.1 y.1<0)->∀y∈JS q n l,y.1=q->(∃x∈l,x.1=q/\y.2=x.2+n)\/(y.2=n/\∀x∈l,x.1≠q)
 |[],_,_,y,hy,_=>by
  obtain rfl:=xai.1 hy;exact .inr ⟨rfl,fun x hx=>absurd hx IR⟩
 |x::l,hc,h,y,hy,e=>by
  have h0:=h;rw[xbJ]at h;have self0:vF q q=0:=by have:=vK q q;lia
  unfold JS at hy;split at hy
  ·rename_i hd;have ha:x.1≠q:=fun e=>by rw[e]at hd;lia
   rcases xac.1 hy with rfl|hy
   ·exact absurd e ha
   ·rcases OT cq (fun y hy=>hc y<|UV _ hy) h.2 y hy e with⟨z,hz,h1,h2⟩|⟨h1,h2⟩
    ·exact .inl ⟨z,UV _ hz,h1,h2⟩
    ·refine .inr ⟨h1,fun z hz=> ?_⟩;rcases xac.1 hz with rfl|hz
     ·exact ha
     ·exact h2 z hz
  ·split at hy
   ·rename_i _ e2;rcases xac.1 hy with rfl|hy
    ·exact .inl ⟨x,FS,e2,rfl⟩
    ·exfalso;have:=h.1 y hy;rw[e,e2]at this;lia
   ·rename_i h1 h2;have hb:∀z∈x::l,z.1≠q:=fun z hz e3=>by
     rcases xac.1 hz with rfl|hz
     ·exact h2 e3
     ·have:=h.1 z hz;rw[e3]at this;exact h1 this
    rcases xac.1 hy with rfl|hy
    ·exact .inr ⟨rfl,hb⟩
    ·exact absurd e<|hb y hy
theorem rk{q:List Zr}{n:Int}:∀{l:List (List Zr×Int)},∃y∈JS q n l,y.1=q
 |[]=>⟨_,FS,rfl⟩
 |x::l=>by
  unfold JS;split
  ·obtain⟨y,hy,e⟩:=rk (q:=q) (n:=n) (l:=l);exact⟨y,UV _ hy,e⟩
  ·split
   ·rename_i _ e;exact⟨_,FS,e⟩
   ·exact⟨_,FS,rfl⟩
theorem FL.put{n:Nat}(h:FL f l)(ff:Fs f)(cq:yf q=q)(hq:Ir (cf q))(pq:Po (cf q))(hn:1<=n):FL (f*pp (cf q) n) (JS q (n:Int) l):=by
 have hc:=fun x hx=>(h.el x hx).1;refine⟨fun y hy=> ?_,fun r hr pr hz=> ?_,OJ cq hc h.so⟩
 ·by_cases e:y.1=q
  ·rw[e];rcases OT cq hc h.so y hy e with⟨x,hx,h1,h2⟩|⟨h1,h2⟩
   ·obtain⟨_,_,_,g4,g5⟩:=h.el x hx;rw[h1]at g5;have:=g5.mul hq<|Mu.self hq n;refine⟨cq,hq,pq,by lia,?_⟩;rw[h2,show(x.2+(n:Int)).toNat=x.2.toNat+n by lia];exact this
   ·have h3:¬Zd (cf q) f:=fun hz=>by
     obtain⟨x,hx,e2⟩:=h.al _ hq pq hz;exact h2 x hx<|Qa (hc x hx) cq fun k=>congrFun e2 k
    have:=(Mu.zero ff h3).mul hq<|Mu.self hq n;refine⟨cq,hq,pq,by lia,?_⟩;rw[h1,xaK];rw[xaN]at this;exact this
  ·rcases Ua hy with h1|h1
   ·obtain⟨g1,g2,g3,g4,g5⟩:=h.el y h1;refine⟨g1,g2,g3,g4,?_⟩;have h2:¬Zd (cf y.1) (pp (cf q) n):=fun hz=>e<|Qa g1 cq fun k=>congrFun (g2.eq hq g3 pq<|g2.pp hq.fs n hz) k;exact g5.mul g2<|Mu.zero (hq.fs.pp n) h2
   ·exact absurd h1 e
 ·rcases hr.prime ff (hq.fs.pp n) hz with h1|h1
  ·obtain⟨x,hx,e⟩:=h.al r hr pr h1;by_cases e2:x.1=q
   ·obtain⟨y,hy,e3⟩:=rk (q:=q) (n:=(n:Int)) (l:=l);exact⟨y,hy,by rw[e3,<-e2];exact e⟩
   ·exact⟨x,BU hx e2,e⟩
  ·have e:=hr.eq hq pr pq<|hr.pp hq.fs n h1;obtain⟨y,hy,e3⟩:=rk (q:=q) (n:=(n:Int)) (l:=l);exact⟨y,hy,by rw[e3];exact e.symm⟩
def SS(l:List (List Zr×Int)):Pz:=prM<|l.map fun x=>((cf x.1:Pz),x.2.toNat)
theorem FL.prod(h:FL f l)(ff:Fs f)(nf:Nz f):∃c,c≠0/\f=pc c*SS l:=by
 refine zeY ff nf ?_ (fun x hx=> ?_) fun q hq pq hz=> ?_
 ·refine xdq.2<|h.so.imp_of_mem fun{x y} hx hy h1 e=> ?_;have:=Qa (h.el x hx).1 (h.el y hy).1 fun k=>congrFun e k;rw[this]at h1;have:=vK y.1 y.1;lia
 ·obtain⟨y,hy,rfl⟩:=xal.1 hx;obtain⟨_,g2,g3,_,g5⟩:=h.el y hy;exact⟨g2,g3,g5⟩
 ·obtain⟨y,hy,e⟩:=h.al q hq pq hz;exact⟨_,xbL hy,e⟩
theorem FL.pr(h:FL f l):Pm (SS l)/\Po (SS l):=by
 refine⟨zcb fun x hx=> ?_,zbu fun x hx=> ?_⟩
 ·obtain⟨y,hy,rfl⟩:=xal.1 hx;exact(h.el y hy).2.1.pm
 ·obtain⟨y,hy,rfl⟩:=xal.1 hx;exact(h.el y hy).2.2.1
theorem O3{a:List Zr}{c:Int}{g:Pz}(h:(yf a).length≠0)(pm:Pm g)(ps:Po g)(e:(cf a:Pz)=pc c*g):c=wq a/\g=cf (wB a):=by
 obtain⟨h1,h2⟩:=Ve h;have hm:=W0 a;have ha:=dE h;obtain⟨n,n1,n2⟩:=ps.tp;obtain⟨m,m1,m2⟩:=h2.tp;have hc:c≠0:=fun e0=>by
  have ta:=(uW h).1;rw[e,zE,e0,xaS]at ta;exact ta rfl
 have z1:Zd g (cf<|wB a):=Zd.pm (c:=wq a) n1.fs pm ha ⟨pc c,Fs.pc c,by rw[hm,e]⟩;obtain⟨w,fw,ew⟩:=z1;have t1:Tp (pc c*g) n:=⟨by rw[zE];exact xdw hc n1.1,fun k hk=>by rw[zE,n1.2 k hk,xau]⟩;have t2:Tp (pc (wq a)*(cf (wB a):Pz)) m:=⟨by rw[zE];exact xdw ha m1.1,fun k hk=>by rw[zE,m1.2 k hk,xau]⟩;rw[hm]at t2;rw[<-e]at t1;have hb:=t1.uniq t2;subst hb;obtain⟨nw,_⟩:=k9 h1.nz ew;obtain⟨d,hd⟩:=Tp.ex fw nw;have h3:=hd.mul n1;rw[<-ew]at h3;have h3:=h3.uniq m1;obtain⟨x,rfl⟩:=((Kz.tp hd).2<|by lia).ex;have h4:Pm (pc x):=(show Pm (pc x*g)by rw[<-ew];exact h1).left;have h5:g=cf (wB a):=by
  rcases tD h4 with e1|e1
  ·rw[ew,e1,zt]
  ·rw[ew,zE,e1]at m2;lia
 refine⟨?_,h5⟩;have h6:pc c*g=pc (wq a)*g:=by rw[<-e,h5,hm]
 have h7:=congrFun h6 n;rw[zE,zE]at h7;exact Int.eq_of_mul_eq_mul_right n1.1 h7
end
section
variable{fu:Nat}{l:List (List Zr×Int)}{q:List Zr}
theorem nG{K:Nat}{a b:List Zr}(ha:y9 K a)(hb:y9 K b)(ca:yf a=a)(cb:yf b=b)(hK:K<=40000)(hd:a.length<=1000)(hg:b.length<=1000)(hf:3000000<=fu):Wa fu a b=some (decide<|vF a b<0):=by
 unfold Wa;rw[za<|Kk ha (by lia) (by lia) hf,za<|Kk hb (by lia) (by lia) hf,show vP a.length (cf a)=a from ca,show vP b.length (cf b)=b from cb];have hc:vF a b=if a.length=b.length then nQ (cf a) (cf b) a.length else if a.length<b.length then-1 else 1:=rfl;by_cases hl:a.length=b.length
 ·rw[iq hl]at hc;rw[zN,zb,za (v:=if vF a b=0 then Sum.inl ()else Sum.inr (decide<|vF a b<0))]
  ·rcases tm a b with h|h|h<;>rw[h]<;>rfl
  ·rw[hc];refine zx (fun s:Int=>∃n:Nat,s=(n:Int)-1/\n<=a.length/\nQ (cf a) (cf b) n=nQ (cf a) (cf b) a.length) (fun s=>(s+1).toNat) _ ?_ _ _ ⟨a.length,rfl,xab _,rfl⟩ (by show((a.length:Int)-1+1).toNat<fu;lia);rintro s L ⟨n,rfl,hn,he⟩ ih;unfold KT
   cases n with
   |zero=>
    rw[zy,<-he];rfl
   |succ n=>
    have oa:=ha.get n;have ob:=hb.get n;rw[show((n+1:Nat):Int)-1=(n:Int)by lia,zN,yj,zf,yj,zf,za (sJ (KA.of oa<|by lia) (KA.of ob<|by lia) hf (by lia)<|by lia),VG,VG];rw[show nQ (cf a) (cf b) (n+1)=if cf a n=cf b n then nQ (cf a) (cf b) n else if cf a n<cf b n then-1 else 1 from rfl]at he;by_cases e:cf a n=cf b n
    ·rw[iq e]at he;rw[iq<|wM.2 e,zb];exact ih _ ⟨n,rfl,by lia,he⟩<|by lia
    ·rw[ir e]at he;rw[ir fun h=>e<|wM.1 h];unfold qU;by_cases e2:cf a n<cf b n
     ·rw[iq e2]at he⊢;rw[<-he,iq<|by decide];rfl
     ·rw[ir e2]at he⊢;rw[iq (show cf b n<cf a n by lia),<-he,ir<|by decide];rfl
 ·rw[ir hl]at hc;rw[zy,hc];by_cases h2:a.length<b.length
  ·rw[iq h2,zN];rfl
  ·rw[ir h2,zy];rfl
theorem ay{i:Nat}(h:i<l.length):l.getD i ([],0)∈l:=by grind [xaa,xbn]
def Gl(l:List (List Zr×Int)):Prop:=l.length<=1000/\∀x∈l,Gd x.1
theorem tM{m:List (List Zr×Int)}(hl:Gl l)(h:l=m)(hf:3000000<=fu):ZP fu l m=some true:=by
 subst h;unfold ZP;have h1:=hl.1;rw[iq rfl,za (v:=.inl ())];refine zx (fun s:Int=>∃j:Nat,s=(j:Int)/\j<=l.length) (fun s=>l.length-s.toNat) _ ?_ _ _ ⟨0,rfl,xah _⟩ (by show l.length-0<fu;lia);rintro s L ⟨j,rfl,hj⟩ ih;unfold KS;by_cases h2:j<l.length
 ·have hg:=hl.2 _<|ay h2;have ha:=hg.ln;rw[zN,zp h2,zf,zp h2,zf,iq rfl,zp h2,zf,zp h2,zf,za<|Kb hg.ok (by decide) (by lia) hf,decide_eq_true rfl,ir (by decide),zb];exact ih _ ⟨j+1,rfl,by lia⟩<|by lia
 ·rw[zy]
def Wo(q:List Zr):List (List Zr×Int)->Nat
 |[]=>0
 |x::l=>if vF x.1 q<0 then Wo q l+1 else 0
theorem N8(q:List Zr):∀l,Wo q l<=l.length
 |[]=>xab _
 |x::l=>by
  unfold Wo;split
  ·exact Nat.succ_le_succ<|N8 q l
  ·exact xah _
theorem NY{q:List Zr}:∀{l:List (List Zr×Int)}{j:Nat},j<Wo q l->vF (l.getD j ([],0)).1 q<0
 |[],j,h=>absurd h<|xbp _
 |x::l,j,h=>by
  unfold Wo at h;split at h
  ·rename_i h1
   cases j with
   |zero=>exact h1
   |succ j=>exact NY (l:=l)<|by lia
  ·exact absurd h<|xbp _
theorem N2{q:List Zr}:∀{l:List (List Zr×Int)},Wo q l<l.length->¬vF (l.getD (Wo q l) ([],0)).1 q<0
 |[],h=>absurd h<|xbp _
 |x::l,h=>by
  unfold Wo at h⊢;split at h
  ·rename_i h1;rw[iq h1];exact N2 (l:=l)<|by simpa using h
  ·rename_i h1;rw[ir h1];exact h1
theorem OZ(q:List Zr)(n:Int):∀l:List (List Zr×Int),JS q n l=if Wo q l<l.length/\(l.getD (Wo q l) ([],0)).1=q then l.set (Wo q l) ((l.getD (Wo q l) ([],0)).1,(l.getD (Wo q l) ([],0)).2+n)else l.take (Wo q l)++[(q,n)]++l.drop (Wo q l)
 |[]=>by rw[ir fun h=>absurd h.1<|xbp _];rfl
 |x::l=>by
  have ih:=OZ q n l;unfold JS Wo;by_cases h:vF x.1 q<0
  ·rw[iq h,iq h,ih];by_cases h2:Wo q l<l.length/\(l.getD (Wo q l) ([],0)).1=q
   ·rw[iq h2,if_pos ⟨Nat.succ_lt_succ h2.1,h2.2⟩];rfl
   ·rw[ir h2,ir fun h3=>h2 ⟨Nat.lt_of_succ_lt_succ h3.1,h3.2⟩];rfl
  ·rw[ir h,ir h];by_cases h2:x.1=q
   ·rw[iq h2,if_pos ⟨Nat.succ_pos _,h2⟩];rfl
   ·rw[ir h2,ir fun h3=>h2 h3.2];rfl
theorem tw{n:Int}(hl:Gl l)(hq:Gd q)(hn:∀x∈l,VE<|x.2+n)(hf:3000000<=fu):VP fu l q n=some (JS q n l):=by
 have h1:=hl.1;have hb:=N8 q l;have hd:=hq.ln;have ha:zg (Qx fu l q) fu (0:Int)=some ((Wo q l:Nat):Int):=by
  refine zx (fun s:Int=>∃j:Nat,s=(j:Int)/\j<=Wo q l) (fun s=>l.length-s.toNat) _ ?_ _ _ ⟨0,rfl,xah _⟩ (by show l.length-0<fu;lia);rintro s L ⟨j,rfl,hj⟩ ih;unfold Qx;by_cases h2:j<l.length
  ·have hg:=hl.2 _<|ay h2;have hc:=hg.ln;rw[zN,zp h2,zf,za<|nG hg.ok hq.ok hg.can hq.can (by decide) (by lia) (by lia) hf];by_cases h3:j<Wo q l
   ·rw[decide_eq_true<|NY h3,iq rfl,zb];exact ih _ ⟨j+1,rfl,by lia⟩<|by lia
   ·obtain rfl:j=Wo q l:=by lia
    rw[decide_eq_false<|N2 h2,ir<|by decide]
  ·rw[zy];obtain rfl:j=Wo q l:=by lia
   rfl
 have he:=OZ q n l;obtain⟨k,hk⟩:∃k,k=Wo q l:=⟨_,rfl⟩;rw[<-hk]at ha he hb;unfold VP;rw[za ha,za (v:=decide<|k<l.length/\(l.getD k ([],0)).1=q)]
 ·by_cases h2:k<l.length/\(l.getD k ([],0)).1=q
  ·rw[iq h2]at he;have hm:=hn _<|ay h2.1;rw[decide_eq_true h2,iq rfl,xbA,wC (by rw[xbS];lia),zf,zp h2.1,zf,r7 hm,zp h2.1,zf,he]
  ·rw[ir h2]at he;rw[decide_eq_false h2,ir (by decide),yE,wC hb,zf,xbA,wC (by rw[xbS,xav];lia),zf,wC (by rw[xav,xeG];lia),zf,yE,wC hb,zf,wC (by rw[xax,xav,xeG,xbO];lia),zf,he]
 ·by_cases h2:k<l.length
  ·have hg:=hl.2 _<|ay h2;have hc:=hg.ln;rw[zN,zp h2,zf,za<|Kb hg.ok (by decide) (by lia) hf];by_cases h3:(l.getD k ([],0)).1=q
   ·rw[decide_eq_true h3,decide_eq_true (show k<l.length/\(l.getD k ([],0)).1=q from⟨h2,h3⟩)]
   ·rw[decide_eq_false h3,decide_eq_false fun h=>h3 h.2]
  ·rw[zy,decide_eq_false fun h=>h2 h.1]
theorem Gl.put{n:Int}(hl:Gl l)(h9:l.length<=999)(hq:Gd q):Gl (JS q n l):=
 ⟨xam pN (by lia),fun x hx=>by
  rcases Ua hx with h|h
  ·exact hl.2 x h
  ·rw[h];exact hq⟩
end
theorem zgL{fu B m:Nat}{a:List Zr}{ds:List Int}(ha:y9 m a)(hm:m<=50)(hl:a.length<=40)(hn:(yf a).length<=11)(bA:∀j,Bb B<|cf a j)(hB:B<=180)(hd:Rl ds)(hb:ds.length<=1000)(hf:3000300<=fu):
 (fY a≠0/\yB fu a ds=some ((false,[]),[],fY a))\/
 (fY a=0/\∃R,wH fu a=some (R,0)/\Rad a R/\(∀j,Bb (B+(yf a).length+4)<|cf R j)/\
  ((Ri R/\∃l,yB fu a ds=some (yH<|wq a,l,0)/\FL (cf a) l/\l.length<=12/\∀x∈l,Gd x.1/\x.2<=11)\/
   (¬Ri R/\yB fu a ds=some ((false,[]),[],6)))):=by
 by_cases h0:fY a=0
 ·refine .inr ⟨h0,?_⟩;have p1:=Va (i:=(yf a).length-1)<|10-((yf a).length-1);have p2:=Va (i:=(yf a).length)<|11-(yf a).length;rw[show(yf a).length-1+(10-((yf a).length-1))=10 by lia]at p1;rw[show(yf a).length+(11-(yf a).length)=11 by lia]at p2;have q1:Qt 10=3363:=by decide
  have q2:Qt 11=8119:=by decide
  have r1:=xbH (show B+7<=187 by lia) (show Qt ((yf a).length-1)<=3363 by lia);have r2:=xbH (show B+7<=187 by lia) (show Qt ((yf a).length)<=8119 by lia);exact dC ha hm hl h0 hn bA (by lia) (by lia) (by lia) hd hb hf
 ·exact .inl ⟨h0,dh ha (by lia) (by lia) h0<|by lia⟩
theorem Rad.tp{a R:List Zr}(h:Rad a R):Tp (cf R) (R.length-1)/\R.length≠0:=by
 have h0:(yf R).length≠0:=fun e=>by
  obtain⟨j,hj⟩:=h.pm.nz;exact hj<|kz e j
 have:=uW h0;rw[h.can]at this h0;exact⟨this,h0⟩
theorem zcm{t:List Zr}{d:Nat}(h:yf t=t)(ht:Tp (cf t) d):t.length=d+1:=by
 have h0:(yf t).length≠0:=fun e=>ht.1<|kz e d;have h1:=(uW h0).uniq ht;rw[h]at h0 h1;lia
section
set_option maxRecDepth 100000
theorem HJ:YV 4000000=some true:=by decide+kernel
end
theorem ze7{fu B m:Nat}{a:List Zr}{ds:List Int}(ha:y9 m a)(hm:m<=50)(hl:a.length<=40)(hn:(yf a).length<=11)(bA:∀j,Bb B<|cf a j)(hB:B<=180)(hd:Rl ds)(hb:ds.length<=1000)(hf:3000300<=fu):
 ∃c l e,yB fu a ds=some (c,l,e)/\(e=0->c=yH (wq a)/\FL (cf a) l/\l.length<=12/\∀x∈l,Gd x.1/\x.2<=11)/\(e≠0->fY a=0->e=6)/\(fY a≠0->e≠0)/\
  (fY a=0->∃R,Rad a R/\(∀j,Bb (B+(yf a).length+4)<|cf R j)/\(e=0↔Ri R)):=by
 rcases zgL ha hm hl hn bA hB hd hb hf with⟨h0,e1⟩|⟨h0,R,r1,r2,r3,⟨hF,l,e1,f1,l1,d1⟩|⟨hF,e1⟩⟩
 ·exact⟨_,_,_,e1,fun h=>absurd h h0,fun _ h=>absurd h h0,fun _=>h0,fun h=>absurd h h0⟩
 ·exact⟨_,_,_,e1,fun _=>⟨rfl,f1,l1,d1⟩,fun h=>absurd rfl h,fun h=>absurd h0 h,fun _=>⟨R,r2,r3,⟨fun _=>hF,fun _=>rfl⟩⟩⟩
 ·exact⟨_,_,_,e1,fun h=>absurd h (by decide),fun _ _=>rfl,fun h=>absurd h0 h,fun _=>⟨R,r2,r3,⟨fun h=>absurd h (by decide),fun h=>absurd h hF⟩⟩⟩
theorem zg3{a:List Zr}(hl:(yf a).length<=65):fY a=0↔Nz (cf a):=by
 unfold fY;by_cases h:(yf a).length=0
 ·rw[iq h];exact⟨fun e=>absurd e (by decide),fun⟨k,hk⟩=>absurd (kz h k) hk⟩
 ·rw[ir h,zy];exact⟨fun _=>⟨_,(uW h).1⟩,fun _=>rfl⟩
def Kv(v:Int):Pz:=fun k=>if k=0 then v else if k=1 then 1 else 0
theorem JJ(v:Int):Tp (Kv v) 1:=⟨by show(1:Int)≠0;decide,fun k hk=>by unfold Kv;rw[zy,zy]⟩
theorem oI(v:Int):Kv v 1=1:=rfl
theorem zcj(v:Int):Kv v 0=v:=rfl
theorem zcH(v:Int):Pm (Kv v):=fun d hd=>by
 have:=hd 1;rw[oI]at this;exact Nat.dvd_one.1<|xdC.1 this
theorem zbf(v:Int):Po (Kv v):=⟨1,by rw[oI];decide,(JJ v).2⟩
theorem zgT(v:Int):Ir (Kv v):=by
 refine⟨(JJ v).fs,zcH v,fun h=>absurd ((oI v).symm.trans<|h 1<|xab 1) (by decide),fun a b fa fb e=> ?_⟩;obtain⟨na,nb⟩:=k9 (JJ v).nz e;obtain⟨i,hi⟩:=Tp.ex fa na;obtain⟨j,hj⟩:=Tp.ex fb nb;have h1:=hi.mul hj;rw[<-e]at h1;have h2:=h1.uniq<|JJ v;by_cases h0:i=0
 ·exact .inl<|(Kz.tp hi).2 h0
 ·exact .inr<|(Kz.tp hj).2<|by lia
theorem zdM(v:Int):dvp (Kv v)=pc 1:=funext fun k=>by
 show((k+1:Nat):Int)*Kv v (k+1)=pc 1 k;unfold Kv pc;by_cases h:k=0
 ·rw[h];rfl
 ·rw[zy,zy,ir h,xau]
theorem zd1{p:Int}(hp:wz p=true){v w:Int}(h:¬p∣v-w):vD p (Kv v) (Kv w):=by
 obtain⟨p1,p2⟩:=zn hp;obtain⟨P,rfl⟩:=xaA (show 0<=p by lia);obtain⟨x,hx⟩:=DI hp (d:=v-w) h;refine⟨pc x,pc (-x),Fs.pc _,Fs.pc _,fun k=> ?_⟩;rw[zI,zE,zE];unfold Kv pc;by_cases h0:k=0
 ·rw[iq h0,iq h0,iq h0];refine xaE.2<|xaB ?_;have e:(x:Int)*v+ -(x:Int)*w-1=(x:Int)*(v-w)-1:=by grind
  rw[e];exact hx
 ·rw[ir h0,ir h0,ir h0];by_cases h1:k=1
  ·rw[iq h1];have e:(x:Int)*1+ -(x:Int)*1=0:=by lia
   rw[e]
  ·rw[ir h1];have e:(x:Int)*0+ -(x:Int)*0=0:=by lia
   rw[e]
theorem vD.addl{p:Int}{f g h:Pz}(fh:Fs h)(c:vD p f g):vD p f (g+h*f):=by
 obtain⟨s,t,fs,ft,e⟩:=c;refine⟨s-t*h,t,fs.subt<|ft.mul fh,ft,Cg.trans (Cg.of ?_) e⟩;rw[wO,xy,zd];funext k;simp only[zI,yz];lia
theorem IV{p:Int}(hp:wz p=true):∀{vs:List Int},vs.Pairwise (fun v w=>¬p∣v-w)->vD p (prZ<|vs.map Kv) (dvp<|prZ<|vs.map Kv)
 |[],_=>vD.one p _
 |v::vs,h=>by
  rw[xbJ]at h;have ih:=IV hp h.2;obtain⟨g,hg⟩:∃g,g=prZ (vs.map Kv):=⟨_,rfl⟩;have fg:Fs g:=by
   rw[hg];exact Fs.prZ fun f hf=>by
    obtain⟨w,_,rfl⟩:=xal.1 hf;exact(JJ w).fs
  have fl:=(JJ v).fs;have c1:vD p g (Kv v):=by
   rw[hg];refine vD.prZ fl (fun f hf=> ?_) fun f hf=> ?_
   ·obtain⟨w,_,rfl⟩:=xal.1 hf;exact(JJ w).fs
   ·obtain⟨w,hw,rfl⟩:=xal.1 hf;exact(zd1 hp<|h.1 w hw).symm
  show vD p (Kv v*prZ (vs.map Kv)) (dvp<|Kv v*prZ (vs.map Kv));rw[<-hg]at ih⊢;rw[X8,zdM,zt];have fd:=fg.dvp;have f2:Fs (g+Kv v*dvp g):=fg.add<|fl.mul fd;refine vD.mul fg f2 fl ?_ ?_
  ·have:=vD.addl fd c1.symm;rw[zj]at this;exact this
  ·have h3:=(vD.mul fd fg fl c1.symm ih.symm).symm;have:=vD.addl (Fs.pc 1) h3;rw[zt]at this;have e:g+Kv v*dvp g=Kv v*dvp g+g:=funext fun k=>by rw[zI,zI,xfa]
   rw[e];exact this
section
variable{v:Int}{b:Nat}{a R:List Zr}{l:List (List Zr×Int)}
theorem zaV(x:Int){m:Nat}(h:gI (m:Int)=m)(hm:m<1000):∃k:Nat,k<=m/\eH x (m:Int)=(k:Int):=by
 have h1:gI x &&& gI (m:Int)<=m:=xam Nat.and_le_right (by rw[h];exact xab m);refine⟨gI x &&& gI (m:Int),h1,?_⟩;unfold eH Ru;split<;>lia
def lnZ(v:Int):List Zr:=v7 [v,1]
theorem rZ(v:Int):(cf (lnZ v):Pz)=Kv v:=by
 unfold lnZ;rw[vq];funext k;unfold Kv
 match k with
 |0=>rfl
 |1=>rfl
 |k+2=>
  rw[zy,zy];exact zM<|by simp
theorem zaZ(h: -32<=v/\v<=31):Rl [v,1]:=fun k=>by
 match k with
 |0=>exact⟨show-9223372036854775808<=v by lia,show v<=9223372036854775807 by lia⟩
 |1=>exact⟨show(-9223372036854775808:Int)<=1 by lia,show(1:Int)<=9223372036854775807 by lia⟩
 |k+2=>
  rw[zM<|by simp];exact⟨by lia,by lia⟩
theorem zhU(h: -32<=v/\v<=31):Gd (lnZ v):=
 ⟨(uC _ _).symm,by rw[rZ];exact zgT v,by rw[rZ];exact zbf v,(tF<|zaZ h).mono (by decide),by have:=sy [v,1];unfold lnZ;simp at this;lia⟩
theorem Bb.add{x y:Int}(hx:Bb b x)(hy:Bb b y):Bb (b+1) (x+y):=by grind [Bb,xbb]
theorem zgP{f:Pz}(hv: -32<=v/\v<=31)(hf:∀j,Bb b<|f j)(j:Nat):Bb (b+7) ((f*Kv v) j):=by
 have e:Kv v=pc v+mono 1 1:=funext fun k=>by
  rw[zI];unfold Kv pc mono;by_cases h0:k=0
  ·rw[iq h0,iq h0,zy];lia
  ·rw[ir h0,ir h0];lia
 rw[zj,e,yg,zI,zE,Zz];have h0:Bb 6 v:=by
  unfold Bb;have:(2:Nat)^6=64:=rfl;lia
 have h1:Bb (6+b) (v*f j):=h0.mul<|hf j;have h2:Bb (6+b) (1*sh f 1 j):=by
  rw[xca];unfold sh;split
  ·exact(hf _).mono<|by lia
  ·exact Bb.zero _
 exact(h1.add h2).mono<|by lia
theorem FL.rad(h:FL (cf a) l)(hR:Rad a R):FL (cf R) (l.map fun x=>(x.1,(1:Int))):=by
 obtain⟨tR,lR⟩:=hR.tp;refine⟨fun y hy=> ?_,fun q hq pq hz=> ?_,?_⟩
 ·obtain⟨x,hx,rfl⟩:=xal.1 hy;obtain⟨g1,g2,g3,g4,g5⟩:=h.el x hx;refine⟨g1,g2,g3,xeY 1,?_⟩;have hz:=hR.al _ g2 (g5.dvd g2.fs<|by lia);obtain⟨n,_,hn⟩:=Mu.ex g2 _ tR;have:n=1:=by
   obtain⟨u,fu,e,hu⟩:=id hn
   match n with
   |0=>
    exfalso;rw[show pp (cf x.1:Pz) 0=pc 1 from rfl,zO]at e;exact hu<|by rw[<-e];exact hz
   |1=>rfl
   |n+2=>
    exfalso;refine hR.sf _ g2 ⟨u*pp (cf x.1) n,fu.mul<|g2.fs.pp n,?_⟩;rw[e];show u*(pp (cf x.1) n*cf x.1*cf x.1)=_;rw[zd,zd]
  rw[this]at hn;exact hn
 ·obtain⟨x,hx,e⟩:=h.al q hq pq<|hz.trans<|Tz hR;exact⟨(x.1,1),xal.2 ⟨x,hx,rfl⟩,e⟩
 ·exact xdq.2 h.so
theorem IC:∀{l:List (List Zr×Int)},(∀x∈l,∃v,(cf x.1:Pz)=Kv v)->SS (l.map fun x=>(x.1,(1:Int)))=prZ ((l.map fun x=>cf x.1 0).map Kv)
 |[],_=>rfl
 |x::l,h=>by
  obtain⟨v,hv⟩:=h x FS;have ih:=IC fun y hy=>h y<|UV _ hy;show pp (cf x.1) 1*SS (l.map fun x=>(x.1,(1:Int)))=Kv (cf x.1 0)*prZ _;rw[ih,show pp (cf x.1:Pz) 1=cf x.1 from zt _,hv,zcj]
theorem zf8:wz 67=true:=FJ ⟨by decide,by decide,fun d h1 h2=>by
 have h3:d<9:=by
  refine xae fun hn=> ?_;have:=xbH (show 9<=d by lia) (show 9<=d by lia);have h4:(67:Int).toNat=67:=rfl;lia
 have key:∀d:Nat,d<9->2<=d->(67:Nat)%d≠0:=by decide
 exact key d h3 h1⟩
theorem S9{B:Nat}(h:FL (cf a) l)(hl:∀x∈l,∃v:Int,(-32<=v/\v<=31)/\(cf x.1:Pz)=Kv v)(hR:Rad a R)(hb:R.length<=11)(hB:B<=400)(bR:∀j,Bb B<|cf R j):Ri R:=by
 obtain⟨tR,lR⟩:=hR.tp;have h1:=h.rad hR;obtain⟨c,hc,he⟩:=h1.prod tR.fs tR.nz;obtain⟨q1,q2⟩:=h1.pr;have hf:(yf R).length≠0:=by rw[hR.can];exact lR
 obtain⟨rfl,_⟩:=O3 hf q1 q2 he;rw[Cb hR.can hR.pm hR.ps,zt,IC fun x hx=>(hl x hx).imp fun v hv=>hv.2]at he;obtain⟨vs,ha⟩:∃vs,vs=l.map fun x=>cf x.1 0:=⟨_,rfl⟩;rw[<-ha]at he;have Wm:vs.Pairwise fun v w=>¬(67:Int)∣v-w:=by
  rw[ha];refine xdq.2<|h.so.imp_of_mem fun{x y} hx hy hg hd=> ?_;obtain⟨v,hv,ev⟩:=hl x hx;obtain⟨w,hw,ew⟩:=hl y hy;have e1:cf x.1 0=v:=by rw[ev];rfl
  have e2:cf y.1 0=w:=by rw[ew];rfl
  rw[e1,e2]at hd;have hi:v=w:=by lia
  have hj:x.1=y.1:=Qa (h.el x hx).1 (h.el y hy).1 fun k=>by rw[congrFun ev k,congrFun ew k,hi]
  rw[hj]at hg;have:=vK y.1 y.1;lia
 refine .inr ⟨zbb hb hB bR,67,zf8,?_,by rw[he];exact IV zf8 Wm⟩;obtain⟨d,hd⟩:=NL (l:=vs.map Kv) fun A hA=>by
  obtain⟨v,_,rfl⟩:=xal.1 hA;exact⟨1,oI v,(JJ v).2⟩
 rw[<-he]at hd;have:Tp (cf R) d:=⟨by rw[hd.1];decide,hd.2⟩;rw[tR.uniq this,hd.1];decide
structure RtI(c:Int)(i:Nat)(t:List Zr)(l:List (List Zr×Int)):Prop where
 can:yf t=t
 fl:FL (cf t) l
 gl:Gl l
 ln:l.length<=i
 lin:∀x∈l,∃v:Int,(-32<=v/\v<=31)/\(cf x.1:Pz)=Kv v
 tp:Tp (cf t) i
 bb:∀j,Bb (4+7*i)<|cf t j
 pr:∃g,Pm g/\Po g/\(cf t:Pz)=pc c*g
theorem Lu{fu:Nat}{l:List Int}{t0:List Zr}{c:Int}(hl:l.length<=8)(h0:RtI c 0 t0 [])(hf:3000000<=fu):
 ∃t w,zg (qy fu l) fu (t0,[],0)=some (t,w)/\RtI c l.length t w:=by
 obtain⟨r,hr,t,w,rfl,h⟩:=yv (f:=qy fu l) (fun s:List Zr×List (List Zr×Int)×Int=>∃(i:Nat) (t:List Zr) (w:List (List Zr×Int)),s=(t,w,(i:Int))/\i<=l.length/\RtI c i t w) (fun s=>l.length-s.2.2.toNat)
  (fun r=>∃t w,r=(t,w)/\RtI c l.length t w) (by
  rintro s L ⟨i,t,w,rfl,hi,h⟩ ih
  unfold qy
  simp only
  by_cases hd:i<l.length
  ·obtain⟨k,hk,hc⟩:=zaV (l.getD i 0) (m:=63) (by decide)<|by decide
   have hc:eH (l.getD i 0) 63=(k:Int):=hc
   obtain⟨v,hv⟩:∃v:Int,v=(k:Int)-32:=⟨_,rfl⟩
   have ha: -32<=v/\v<=31:=⟨by lia,by lia⟩
   have hG:=zhU ha
   have he:=hG.ln
   have hg:=zcm h.can h.tp
   have ot:y9 1 t:=by rw[<-h.can];exact xa fun j=>(h.bb j).bz<|by lia
   have hj:=h.ln
   have hR:∀x∈w,VE (x.2+1):=fun x hx=>by
    obtain⟨_,u2,_,u4,u5⟩:=h.fl.el x hx;have:=u5.deg u2 h.tp;exact⟨by lia,by lia⟩
   rw[zN,zp hd,zf,zf,hc,zb,<-hv,za (QH (zaZ ha)<|by simp),show v7 [v,1]=lnZ v from rfl,za<|xi ot hG.ok (by lia) (by lia) hf,za<|tw h.gl hG hR hf,zb]
   have hb:(cf (yQ t<|lnZ v):Pz)=cf t*Kv v:=by rw[qG,rZ]
   refine ih _ ⟨i+1,_,_,rfl,by lia,⟨(uC _ _).symm,?_,h.gl.put (by lia) hG,xam pN (by lia),fun x hx=> ?_,?_,fun j=> ?_,?_⟩⟩ (by show l.length-((i:Int)+1).toNat<l.length-(i:Int).toNat;lia)
   ·have:=h.fl.put (q:=lnZ v) (n:=1) (Fs.cf t) hG.can hG.ir hG.ps<|xab 1
    rw[show pp (cf (lnZ v):Pz) 1=cf (lnZ v)from zt _,rZ]at this
    rw[hb]
    exact this
   ·rcases Ua hx with h1|h1
    ·exact h.lin x h1
    ·exact⟨v,ha,by rw[h1];exact rZ v⟩
   ·rw[hb];exact h.tp.mul<|JJ v
   ·rw[hb]
    exact(zgP ha h.bb j).mono<|by lia
   ·obtain⟨g,g1,g2,g3⟩:=h.pr
    exact⟨g*Kv v,g1.mul<|zcH v,g2.mul<|zbf v,by rw[hb,g3,zd]⟩
  ·rw[zy]
   obtain rfl:i=l.length:=by lia
   exact⟨_,rfl,t,w,rfl,h⟩) fu (t0,[],0) ⟨0,t0,[],rfl,xah _,h0⟩ (by show l.length-(0:Int).toNat<fu;lia)
 exact⟨t,w,hr,h⟩
theorem Nt(l:List Int)(c:Int)(hl:(Ty.l .i).ok l)(hc:(Ty.i).ok c):jC 4000000 l c=some true:=by
 obtain⟨fu,hg⟩:∃fu,fu=4000000:=⟨_,rfl⟩;have hd:=HJ;rw[<-hg]at hd⊢;have hf:3000300<=fu:=by lia
 unfold jC;rw[za hd];by_cases h8:8<l.length
 ·rw[zN]
 ·rw[zy];by_cases h0:l.length=0
  ·rw[zN]
  ·obtain⟨k,hk,hb⟩:=zaV c (m:=7) (by decide) (by decide);have hb:eH c 7=(k:Int):=hb;obtain⟨x,hx⟩:∃x:Int,x=1+(k:Int):=⟨_,rfl⟩;have hi:Rl [x]:=fun j=>by
    match j with
    |0=>exact⟨show-9223372036854775808<=x by lia,show x<=9223372036854775807 by lia⟩
    |j+1=>
     rw[zM<|by simp];exact⟨by lia,by lia⟩
   have ha:(cf (v7 [x]):Pz)=pc x:=by
    rw[vq];funext j;unfold pc
    match j with
    |0=>rfl
    |j+1=>
     rw[zy];exact zM<|by simp
   have tp0:Tp (pc x) 0:=⟨by show x≠0;lia,fun j hj=>by unfold pc;rw[zy]⟩;obtain⟨t,w,e1,h⟩:=Lu (fu:=fu) (l:=l) (t0:=v7 [x]) (c:=x) (by lia) ⟨(uC _ _).symm,by rw[ha];exact FL.num (by lia),⟨xah _,fun y hy=>absurd hy IR⟩,xab _,fun y hy=>absurd hy IR,by rw[ha];exact tp0,fun j=>by
    rw[ha];unfold pc;split
    ·show x.natAbs<2^(4+7*0);have:(2:Nat)^(4+7*0)=16:=rfl;lia
    ·exact Bb.zero _,⟨pc 1,Pm.one,Po.one,by rw[ha,zO]⟩⟩ (by lia)
   have hp:=zcm h.can h.tp;have ot:y9 1 t:=by rw[<-h.can];exact xa fun j=>(h.bb j).bz<|by lia
   have bt:∀j,Bb 60 (cf t j):=fun j=>(h.bb j).mono (by lia);obtain⟨c1,l1,e,s1,f1,w1,v1,r1⟩:=ze7 (ds:=[]) ot (by decide) (by lia) (by rw[h.can];lia) bt (by decide) zil (xah _) hf;have hw:fY t=0:=(zg3<|by rw[h.can];lia).2 h.tp.nz;obtain⟨R,R1,R2,R3⟩:=r1 hw;have hm:=R1.ln;rw[h.can]at hm;have he:e=0:=R3.2<|S9 h.fl h.lin R1 (by lia) (by rw[h.can];lia) R2;obtain⟨f2,f3,f4,f5⟩:=f1 he;obtain⟨g,g1,g2,g3⟩:=h.pr;obtain⟨hn,_⟩:=O3 (a:=t) (by rw[h.can];lia) g1 g2 g3;have ho:=f3.uniq h.fl;have bx:Bz 1 x:=Bz.le (y:=8) (by unfold Bz;decide) (by lia);rw[zy,hb,zf,zb,<-hx,za (QH hi<|by simp),za e1];simp only;rw[za s1];simp only;rw[iq trivial,iq he,zf,zb,<-hx,za<|z6 ⟨by lia,by lia⟩,f2,<-hn,za<|J8 (xam bx.len<|by decide) (by have:=bx.len;lia),decide_eq_true rfl,iq rfl,za<|tM ⟨by lia,fun y hy=>(f5 y hy).1⟩ ho<|by lia]
end
section
namespace zfacRoots
open Go.ChangeShapes Go.WideShapes Go.ChangeAt Go.RowKit
theorem own:ownKnob Tryz.prog.godebug=none:=by kernel_rfl
theorem Rz:eV Tryz.prog .i 3:=id (by kernel_rfl:Tryz.prog.underlying 3=some (.int .i64))
theorem zk3:eV Tryz.prog (.l .i) 23:=eV.sl (E:=3) (by kernel_rfl) (by kernel_rfl) (by decide) Rz
def sgO(M:aa [.d (.l .i),.d .i]->Option Bool):VB:=⟨7,[.d (.l .i),.d .i],[.d .b],M,0⟩
set_option maxRecDepth 100000 in
theorem lifted{M:aa [.d (.l .i),.d .i]->Option Bool}(hs:y6 Tryz.prog (sgO M))(hz:∀x,zcM [.d (.l .i),.d .i] x->M x=some true)(os:Os)(started:os.Started)(H:Type)(enc:TypeId×Value->H):
 ReturnsInHanded {} Tryz.checked os 7 .any (Rows.zfacRootsSpec.pre6 enc Tryz.prog Tryz.f7 Rows.zfacRootsRow.domain false) (Rows.zfacRootsSpec.post enc Tryz.prog Tryz.f7 false true false false):=by
 refine returnsInHanded_of_change (C:=Tryz.checked) own started (by kernel_rfl) Tryz.func7
  (ChangeSpec.witness6 (enc:=enc) (C:=Tryz.checked) false ⟨#[],#[.slice none 0 0,.int .i64 0],[]⟩ 8 (by kernel_rfl) (by kernel_rfl) (by kernel_rfl)<|by kernel_rfl) ?_
 intro W base args ds gs before ha hW hf _;have hb:∀(j:Nat) t v,Tryz.f7.params[j]? =some t->args[j]? =some v->xef Tryz.prog W .any base t v:=ha;have hc:=hW;obtain⟨p,q,hd,hV,_,_,_⟩:=hW;have hA:xeH enc Tryz.prog W 0 (fun _=>true) true Tryz.f7.params.toList args.toList ds p:=hd;rw[Tryz.params7]at hA;obtain⟨v0,vs0,d0,ds0,p0,q0,he,rfl,_,_,r0⟩:=trodAll_cons hA;obtain⟨v1,vs1,d1,ds1,p1,q1,_,rfl,_,_,r1⟩:=trodAll_cons r0;obtain⟨_,rfl,_⟩:=trodAll_nil r1;obtain⟨rfl,_⟩:=trodVars_none hV
 exact zeT (sg:=sgO M) hc rfl hb (by kernel_rfl) (by rw[Tryz.params7];decide+kernel) (by rw[Tryz.params7];exact⟨zk3,Rz,trivial⟩) rfl hs
  (fun x hx=>hz x hx) (B:=4) (by kernel_rfl) Tryz.underlying4 rfl
set_option maxRecDepth 100000 in
theorem fnm:Tryz.pinned.checked.prog.funcNamed Rows.zfacRootsRow.func=some 7:=by kernel_rfl
set_option maxRecDepth 100000 in
set_option maxHeartbeats 4000000 in
theorem jf:joinedFacts Tryz.pinned.checked.prog 7 Tryz.f7 Rows.zfacRootsSpec Rows.zfacRootsRow=true:=by
 unfold joinedFacts;simp only[xao];repeat' apply xfz
 all_goals (as_aux_lemma=>kernel_rfl)
theorem over:Rows.zfacRootsRow.holds Tryz.pinned (OpenSpec.ofChange Rows.zfacRootsSpec):=
 OpenClaim.holds_of_wide 7 Tryz.f7 rfl rfl rfl rfl rfl rfl rfl ⟨rfl,rfl,rfl,rfl,rfl⟩ rfl rfl rfl rfl rfl fnm Tryz.func7 jf
  (of_decide_eq_true<|by kernel_rfl) (by unfold Func.isWrapper;first|(rw[iq<|by decide+kernel];kernel_rfl)|(rw[ir<|by decide+kernel];exact⟨rfl,rfl⟩))
  (fun os started H enc _=>lifted (M:=fun x=>jC 4000000 x.1 x.2.1) (dJ 4000000) (fun x hx=>Nt x.1 x.2.1 hx.1 hx.2.1) os started H enc)
theorem proved:Rows.ZfacRootsSaid:=
 over
end zfacRoots
end
end Go.Proofs.YtmggkmchbdanfaaGreat
