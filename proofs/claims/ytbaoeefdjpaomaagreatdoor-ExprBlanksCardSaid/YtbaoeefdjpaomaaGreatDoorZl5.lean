/- What a proof needs: rules of walking, mirrors of functions and their plain laws. No condition. -/
import Derived.Test.YtbaoeefdjpaomaaGreatDoorZl4
import Derived.MapKept
import Derived.Laws.IdiomRangeMap
import Derived.Lib.AtoiAllCases
set_option linter.unusedVariables false
set_option linter.unusedSimpArgs false
namespace Go.Proofs.YtbaoeefdjpaomaaGreatDoor
open Bool renaming false_eq_true->Pd,false_ne_true->Pa,not_false->S7
open Int renaming tdiv->SW,toNat_natCast->Ry
open Lib renaming bitLen->Ti,parseUint10->Sy
open List renaming append_assoc->O2,append_nil->Ps,cons_append->PZ,eq_nil_of_length_eq_zero->Pn,ext_getElem?->Sx,foldl_cons->SO,getD_eq_getElem?_getD->PY,getElem?_cons_zero->PE,getElem?_eq_getElem->Pb,getElem?_eq_none->P8,getElem?_toArray->SS,getElem_mem->Rm,getElem_of_mem->Rr,intercalate->S8,length_append->O1,length_cons->FS,length_eq_zero_iff->Rl,length_nil->R1,length_replicate->Sp,length_set->Ri,length_take->PG,map_congr_left->RZ,map_cons->PA,map_map->Sz,map_nil->RR,mem_append->OX,mem_append_left->SZ,mem_cons->OY,mem_cons_of_mem->H1,mem_cons_self->Nm,mem_map->O8,mem_of_getElem?->Pq,mem_singleton->OZ,nil_append->P1,nil_suffix->Tu,not_mem_nil->UV,replicate->Pv,set_append_right->TE,suffix_cons->Rv,suffix_refl->RU,take_of_length_le->P3,take_succ_cons->Si
open List.cons renaming injEq->Tp
open MapKept renaming heap_set->S9,run_checkKey->S3,run_findKey->Te,run_getObj_map->SK
open Nat renaming add_assoc->R9,add_mul->RI,add_mul_div_left->TT,add_zero->Sl,beq->OW,div_add_mod->Tt,div_div_eq_div_mul->Sk,div_eq_of_lt->TR,div_lt_iff_lt_mul->Rs,eq_of_beq_eq_true->P7,eq_zero_or_pos->PB,le_of_lt->xab,le_refl->O3,lt_of_le_of_lt->R4,lt_of_lt_of_le->Pc,lt_or_ge->Re,mod_eq_of_lt->PT,mod_lt->RN,mul_comm->RQ,mul_le_mul_right->PQ,not_lt_zero->TZ,pow_le_pow_left->Th,pow_pos->Tf,pow_succ->Rh,zero_add->Pk,zero_le->PF,zero_mul->Sb
open Option renaming map_some->xaa
open Prod.mk renaming injEq->Tj
open Question renaming forced->Tn
open Result renaming andThen->SH
open Sem renaming run_bind->O5
open UInt8 renaming ofNat->P5,toNat->R7,toNat_ofNat'->SN
open _root_.Array renaming getElem?_eq_getElem->RF,getElem?_eq_some_iff->Ph,replicate->RE
section
set_option maxRecDepth 100000
section
variable(fu:Nat)
def xf(fu:Nat):(((List Nat)×(Int×(Int×Int)))->Option ((List Nat)×(Int×(Int×Int))))->((List Nat)×(Int×(Int×Int)))->Option ((List Nat)×(Int×(Int×Int))):=fun L a=>if a.2.1<(a.1.length:Int)then zy a.2.1 (a.1.length) fun b=>nm (a.1.getD b 0) fun d=>if(d:Int)=(((32:Nat):Nat):Int)then zb (a.2.1+1) fun e=>nm ((a.1,(e,a.2.2))) fun f=>L f else some a else some a
def zC(a:(List Nat)×(Int×(Int×Int))):Option (Nat×Bool×((List Nat)×(Int×(Int×Int)))):=bd (zn (xf fu) fu a) fun t3=>if t3.2.1=(t3.1.length:Int)then some (((0:Nat),false,t3))else zy t3.2.1 (t3.1.length) fun b=>nm (t3.1.getD b 0) fun d=>some (d,true,t3)
def zu(fu:Nat)(b:(List Nat)×(Int×(Int×Int))):(((List Nat)×(Int×(Int×Int)))->Option ((List Nat)×(Int×(Int×Int))))->((List Nat)×(Int×(Int×Int)))->Option ((List Nat)×(Int×(Int×Int))):=fun L a=>bd ((if a.2.1<(a.1.length:Int)then zy a.2.1 (a.1.length) fun g=>nm (a.1.getD g 0) fun d=>if(((48:Nat):Nat):Int)<=(d:Int)then zy a.2.1 (a.1.length) fun h=>nm (a.1.getD h 0) fun e=>if(e:Int)<=(((57:Nat):Nat):Int)then if a.2.1=b.2.1 then some (.inl (b.2.1,a.1,a.2.1,d,a.1,a.2.1,e,a.2.1,b.2.1,true,true,a))else zy b.2.1 (a.1.length) fun i=>nm (a.1.getD i 0) fun j=>if(j:Int)=(((48:Nat):Nat):Int)then some (.inr (b.2.1,a))else some (.inl (b.2.1,a.1,a.2.1,d,a.1,a.2.1,e,a.2.1,b.2.1,false,false,a))else some (.inr (b.2.1,a))else some (.inr (b.2.1,a))else some (.inr (b.2.1,a)):Option ((Int×(List Nat)×Int×Nat×(List Nat)×Int×Nat×Int×Int×Bool×Bool×((List Nat)×(Int×(Int×Int))))⊕(Int×((List Nat)×(Int×(Int×Int))))))) fun k=>match k with
 |.inl (p,q,r,t3,s,t,t5,u,v,w,x,f)=>zb (f.2.1+1) fun l=>nm ((f.1,(l,f.2.2))) fun m=>L m
 |.inr (y,o)=>some o
def yZ(g:(List Nat)×(Int×(Int×Int))):Option (PX⊕((List Nat)×((List Nat)×(Int×(Int×Int))))):=bd (zC fu g) fun(h,i,a)=>bd (zn (zu fu a) fu a) fun b=>if b.2.1=a.2.1 then some (.inl (37,a.2.1))else lK a.2.1 fun d=>lK b.2.1 fun e=>ck (d<=e/\e<=b.1.length)<|nm ((b.1.drop d).take<|e-d) fun f=>some (.inr (f,b))
def Ys(fu:Nat)(a:List Nat)(b:Int):Option Nat:=if b<(a.length:Int)then zy b (a.length) fun d=>nm (a.getD d 0) fun e=>some e else some (0:Nat)
def Yu(b:Int)(a:Nat)(f:List Nat)(g:List Nat):Option (Nat×Nat):=bd (Ys fu f b) fun d=>bd (Ys fu g b) fun e=>ck (a<=1)<|nm ((d+e+a)%18446744073709551616) fun h=>nm ((d+e+a)/18446744073709551616) fun i=>some (h,i)
def ZK(fu:Nat)(e:Int->Nat->Option (Nat×Nat))(f:List Nat):((Nat×Int×(List Nat))->Option (Nat×(List Nat)))->(Nat×Int×(List Nat))->Option (Nat×(List Nat)):=fun L (d,a,b)=>if a<(f.length:Int)then bd (e a d) fun(g,h)=>zy a (b.length) fun i=>nm (b.set i g) fun t3=>zb (a+1) fun j=>L (h,j,t3)else some (d,b)
def qj(d:Int)(e:Int->Nat->Option (Nat×Nat)):Option ((List Nat)×Nat):=lK d fun a=>ck (8*a<=281474976710656)<|nm (Pv a 0) fun b=>bd (zn (ZK fu e b) fu<|((0:Nat),(0:Int),b)) fun(f,g)=>some (g,f)
def JB(fu:Nat):((List Nat)->Option (List Nat))->(List Nat)->Option (List Nat):=fun L a=>if 0<(a.length:Int)then zb (((a.length:Int))-1) fun d=>zy d (a.length) fun e=>nm (a.getD e 0) fun f=>if(f:Int)=(((0:Nat):Nat):Int)then zb (((a.length:Int))-1) fun g=>lK g fun b=>ck (b<=a.length)<|nm (a.take b) fun h=>L h else some a else some a
def Ya(a:List Nat):Option (List Nat):=bd (zn (JB fu) fu a) fun t3=>some t3
def ub(fu:Nat):((List Nat)->Option (List Nat))->(List Nat)->Option (List Nat):=fun L a=>if 0<(a.length:Int)then zb (((a.length:Int))-1) fun d=>zy d (a.length) fun e=>nm ((a.getD e 0)) fun f=>if(f:Int)=(((0:Nat):Nat):Int)then zb (((a.length:Int))-1) fun g=>lK g fun b=>ck (b<=a.length)<|nm (a.take b) fun h=>L h else some a else some a
def vk(a:List Nat):Option (List Nat):=bd (zn (ub fu) fu a) fun t3=>some t3
def YJ(a:List Nat)(b:List Nat):Option (List Nat):=nm (max ((a.length:Int))<|(b.length:Int)) fun f=>bd (qj fu f<|fun zx0 zx1=>Yu fu zx0 zx1 a b) fun(d,e)=>ck ((d.length+([e]).length)*8<=140737488355328)<|nm (d++([e])) fun g=>bd (vk fu g) fun t3=>some t3
def vx(fu:Nat)(a:Nat)(b:Nat):Option (Nat×Nat):=nm (a &&& ((4294967295:Nat))) fun l=>nm (a/2^(min (((32:Nat)):Int).toNat 64)) fun m=>nm (b &&& ((4294967295:Nat))) fun o=>nm (b/2^(min (((32:Nat)):Int).toNat 64)) fun p=>nm ((l*o)%18446744073709551616) fun r=>nm ((m*o)%18446744073709551616) fun s=>nm (r/2^(min (((32:Nat)):Int).toNat 64)) fun t=>nm ((s+t)%18446744073709551616) fun q=>nm (q &&& ((4294967295:Nat))) fun u=>nm (q/2^(min (((32:Nat)):Int).toNat 64)) fun d=>nm ((l*p)%18446744073709551616) fun e=>nm ((u+e)%18446744073709551616) fun f=>nm ((m*p)%18446744073709551616) fun g=>nm ((g+d)%18446744073709551616) fun h=>nm (f/2^(min (((32:Nat)):Int).toNat 64)) fun i=>nm ((h+i)%18446744073709551616) fun j=>nm ((a*b)%18446744073709551616) fun k=>some (j,k)
def Yw(e:Int)(a:Nat)(b:List Nat)(f:Nat):Option (Nat×Nat):=zy e (b.length) fun g=>nm (b.getD g 0) fun h=>bd (vx fu h f) fun(i,d)=>ck ((0:Nat)<=1)<|nm ((d+a+((0:Nat)))%18446744073709551616) fun j=>nm ((d+a+((0:Nat)))/18446744073709551616) fun k=>nm ((i+k)%18446744073709551616) fun l=>some (j,l)
def YP(a:List Nat)(e:Nat):Option (List Nat):=bd (qj fu ((a.length:Int))<|fun zx0 zx1=>Yw fu zx0 zx1 a e) fun(b,d)=>ck ((b.length+([d]).length)*8<=140737488355328)<|nm (b++([d])) fun f=>some f
def wk(a:List Nat):(((List Nat)×Int)->Option ((List Nat)⊕Unit))->((List Nat)×Int)->Option ((List Nat)⊕Unit):=fun L (e,b)=>bd ((if b<(a.length:Int)then some ((a,(a.length:Int),true))else some ((a,(a.length:Int),false)):Option ((List Nat)×Int×Bool))) fun(f,l,g)=>if g then zy b (f.length) fun h=>nm (f.getD h 0) fun d=>if(d:Int)<(((48:Nat):Nat):Int)then some (.inr ())else if(((57:Nat):Nat):Int)<(d:Int)then some (.inr ())else bd (YP fu e (10:Nat)) fun t3=>nm ((d+256-((48:Nat)))%256) fun i=>bd (YJ fu t3 [i]) fun j=>zb (b+1) fun k=>L (j,k)else some (.inl e)
def uh(a:List Nat):Option ((List Nat)×Int):=bd ((if(a.length:Int)=0 then some (.inr ())else if 4096<(a.length:Int)then some (.inr ())else zy 0 (a.length) fun b=>nm (a.getD b 0) fun d=>if(d:Int)=(((48:Nat):Nat):Int)then if 1<(a.length:Int)then some (.inr ())else some (.inl ())else some (.inl ()):Option (Unit⊕Unit))) fun e=>match e with
 |.inl _=>(bd (zn (wk fu a) fu<|([],(0:Int))) fun f=>match f with
 |.inl t5=>some<|(t5,(0:Int))
 |.inr _=>some<|([],(2:Int)))
 |.inr _=>some<|([],(2:Int))
def xa(b:(List Nat)×(Int×(Int×Int))):Option (PX⊕((List Nat)×((List Nat)×(Int×(Int×Int))))):=bd (yZ fu b) fun d=>match d with
 |.inl e=>(some (.inl e))
 |.inr (f,a)=>bd (uh fu f) fun(g,h)=>if h=0 then some (.inr (g,a))else some (.inl (37,a.2.1))
def vi(fu:Nat)(a b:List Nat):Option Bool:=uQ a b
def zm(d:(List Nat)×(Int×(Int×Int)))(e:List Nat):Option (Nat×Bool×((List Nat)×(Int×(Int×Int)))):=bd (zC fu d) fun(b,f,a)=>if !f then some (((0:Nat),false,a))else bd (vi fu e [b]) fun g=>if !g then some (((0:Nat),false,a))else zb (a.2.1+1) fun h=>nm ((a.1,(h,a.2.2))) fun i=>some (b,true,i)
def xR(R:((List Nat)×(Int×(Int×Int)))->Option (PX⊕(Tr×((List Nat)×(Int×(Int×Int))))))(fu:Nat)(f:(List Nat)×(Int×(Int×Int))):Option (PX⊕(Tr×((List Nat)×(Int×(Int×Int))))):=bd (zC fu f) fun(b,e,a)=>bd ((if e then if(((48:Nat):Nat):Int)<=(b:Int)then if(b:Int)<=(((57:Nat):Nat):Int)then some true else some false else some false else some false:Option Bool)) fun g=>if g then bd (xa fu a) fun h=>match h with
 |.inl i=>(some (.inl i))
 |.inr (j,k)=>some (.inr<|((Tr.un<|((110:Nat),(j,(0,(0,(Tr.nil,Tr.nil)))))),k))else bd ((if e then if(((97:Nat):Nat):Int)<=(b:Int)then if(b:Int)<=(((122:Nat):Nat):Int)then some true else some false else some false else some false:Option Bool)) fun l=>if l then zb (a.2.1+1) fun m=>nm ((a.1,(m,a.2.2))) fun o=>some (.inr<|((Tr.un<|((118:Nat),([],(b,(0,(Tr.nil,Tr.nil)))))),o))else if(b:Int)=(((40:Nat):Nat):Int)then if a.2.2.1=a.2.2.2 then some (.inl (37,a.2.1))else zb (a.2.1+1) fun p=>nm ((a.1,(p,a.2.2))) fun t3=>zb (t3.2.2.1+1) fun q=>nm ((t3.1,(t3.2.1,(q,t3.2.2.2)))) fun r=>bd (R r) fun z2=>match z2 with
 |.inl s=>(some (.inl s))
 |.inr (t,u)=>bd (zm fu u [41]) fun(x,v,d)=>if !v then some (.inl (37,d.2.1))else zb (d.2.2.1-1) fun w=>nm ((d.1,(d.2.1,(w,d.2.2.2)))) fun t5=>some (.inr (t,t5))else some (.inl (37,a.2.1))
def kR(fu:Nat)(a:List Nat):Option (Int×Bool):=aQ a
def xp(d:(List Nat)×(Int×(Int×Int))):Option (PX⊕(Int×((List Nat)×(Int×(Int×Int))))):=bd (zC fu d) fun(j,k,a)=>bd (yZ fu a) fun e=>match e with
 |.inl f=>(some (.inl f))
 |.inr (g,h)=>bd (kR fu g) fun(b,i)=>if(!i)=true then if 1000<b then some (.inl (37,a.2.1))else some (.inr (b,h))else some (.inl (37,a.2.1))
def xi(R:((List Nat)×(Int×(Int×Int)))->Option (PX⊕(Tr×((List Nat)×(Int×(Int×Int))))))(fu:Nat)(d:(List Nat)×(Int×(Int×Int))):Option (PX⊕(Tr×((List Nat)×(Int×(Int×Int))))):=bd (xR R fu d) fun e=>match e with
 |.inl f=>(some (.inl f))
 |.inr (a,g)=>bd (zm fu g [94]) fun(l,h,b)=>if h then bd (xp fu b) fun z2=>match z2 with
 |.inl i=>(some (.inl i))
 |.inr (j,k)=>some (.inr<|((Tr.un<|((94:Nat),([],(0,(j,(a,(Tr.nil))))))),k))else some (.inr (a,b))
def xj(R:((List Nat)×(Int×(Int×Int)))->Option (PX⊕(Tr×((List Nat)×(Int×(Int×Int)))))):((Tr×((List Nat)×(Int×(Int×Int))))->Option ((Tr×((List Nat)×(Int×(Int×Int))))⊕(PX×Unit)))->(Tr×((List Nat)×(Int×(Int×Int))))->Option ((Tr×((List Nat)×(Int×(Int×Int))))⊕(PX×Unit)):=fun L (a,e)=>bd (zm fu e [42,47]) fun(b,f,d)=>if !f then some (.inl (a,d))else if(b:Int)=(((42:Nat):Nat):Int)then bd (xi R fu d) fun z2=>match z2 with
 |.inl g=>(some (.inr<|(g,())))
 |.inr (h,i)=>L (((Tr.un<|(b,([],(0,(0,(a,h)))))),i))else bd (xa fu d) fun z3=>match z3 with
 |.inl j=>(some (.inr<|(j,())))
 |.inr (t3,k)=>L<|((Tr.un<|(b,(t3,(0,(0,(a,(Tr.nil))))))),k)
def yp(R:((List Nat)×(Int×(Int×Int)))->Option (PX⊕(Tr×((List Nat)×(Int×(Int×Int))))))(fu:Nat)(a:(List Nat)×(Int×(Int×Int))):Option (PX⊕(Tr×((List Nat)×(Int×(Int×Int))))):=bd (xi R fu a) fun b=>match b with
 |.inl d=>(some (.inl d))
 |.inr (e,f)=>bd (zn (xj fu R) fu (e,f)) fun g=>match g with
 |.inl (h,t5)=>some (.inr (h,t5))
 |.inr (i,_)=>some (.inl i)
def zM(self:((List Nat)×(Int×(Int×Int)))->Option (PX⊕(Tr×((List Nat)×(Int×(Int×Int)))))):((Tr×Nat×Bool×((List Nat)×(Int×(Int×Int))))->Option ((Tr×((List Nat)×(Int×(Int×Int))))⊕(PX×Unit)))->(Tr×Nat×Bool×((List Nat)×(Int×(Int×Int))))->Option ((Tr×((List Nat)×(Int×(Int×Int))))⊕(PX×Unit)):=fun L (t3,a,b,t5)=>if b then bd (yp self fu t5) fun z3=>match z3 with
 |.inl d=>(some (.inr<|(d,())))
 |.inr (e,f)=>bd (zm fu f [43,45]) fun(g,h,i)=>L (((Tr.un<|(a,([],(0,(0,(t3,e)))))),g,h,i))else some (.inl (t3,t5))
def zo:Nat->((List Nat)×(Int×(Int×Int)))->Option (PX⊕(Tr×((List Nat)×(Int×(Int×Int)))))
 |0,_=>none
 |fu+1,b=>bd ((bd (zm fu b [45]) fun(x,d,a)=>if d then bd (yp (zo fu) fu a) fun e=>match e with
  |.inl f=>(some (.inr<|(f,())))
  |.inr (g,h)=>some (.inl<|((Tr.un<|((126:Nat),([],(0,(0,(g,(Tr.nil))))))),h))else bd (yp (zo fu) fu a) fun z2=>match z2 with
  |.inl i=>(some (.inr<|(i,())))
  |.inr (j,k)=>some (.inl (j,k)):Option ((Tr×((List Nat)×(Int×(Int×Int))))⊕(PX×Unit)))) fun l=>match l with
  |.inl (m,o)=>(bd (zm fu o [43,45]) fun(p,q,r)=>bd (zn (zM fu<|zo fu) fu (m,p,q,r)) fun s=>match s with
  |.inl (t,u)=>some (.inr (t,u))
  |.inr (v,_)=>some (.inl v))
  |.inr (w,_)=>some (.inl w)
def wX(a:List Nat)(d:Int):Option (Tr×Int×Int):=bd ((if d<0 then some true else if 100<d then some true else some false:Option Bool)) fun f=>if f then some ((Tr.nil,(0:Int),(1:Int)))else if 4096<(a.length:Int)then some ((Tr.nil,(4096:Int),(2:Int)))else bd (zo fu<|(a,(0,(0,d)))) fun g=>match g with
 |.inl e=>(ck (e.1=37)<|ck (kV e.2)<|some (Tr.nil,e.2,2))
 |.inr (h,i)=>bd (zC fu i) fun(j,k,b)=>if b.2.1<(a.length:Int)then ck ((37,b.2.1).1=37)<|ck (kV (37,b.2.1).2)<|some ((Tr.nil,(37,b.2.1).2,2))else some ((h,(a.length:Int),(0:Int)))
def zI(fu:Nat)(a:(List Nat)×(Int×(Int×Bool)))(d:List Nat)(e:List Nat):Option (((List Nat)×(Int×(Int×Bool)))×List Nat):=ck ((d.length+e.length)*1<=140737488355328)<|nm (d++e) fun b=>if a.2.2.2=true then nm ((a.1,(a.2.1,(a.2.2.1,true)))) fun f=>some (f,b)else if 4096<(b.length:Int)then nm ((a.1,(a.2.1,(a.2.2.1,true)))) fun t3=>some (t3,b)else nm ((a.1,(a.2.1,(a.2.2.1,false)))) fun g=>some (g,b)
def qU(fu:Nat):((Int×Int×(List Nat))->Option (List Nat))->(Int×Int×(List Nat))->Option (List Nat):=fun L (b,d,a)=>if b<d then zy d (a.length) fun f=>nm ((a.getD f 0)) fun g=>zy b (a.length) fun h=>nm ((a.getD h 0)) fun i=>zy b (a.length) fun j=>nm (a.set j g) fun e=>zy d (e.length) fun k=>nm (e.set k i) fun t3=>zb (b+1) fun l=>zb (d-1) fun m=>L (l,m,t3)else some a
def yP(a:List Nat):Option (List Nat):=zb (((a.length:Int))-1) fun b=>bd (zn (qU fu) fu<|((0:Int),b,a)) fun d=>some d
def kB(fu:Nat)(f:Bool):((Nat×(List Nat))->Option (List Nat))->(Nat×(List Nat))->Option (List Nat):=fun L (b,a)=>if(((0:Nat):Nat):Int)<(b:Int)then ck ((10:Nat)≠0)<|nm (b%((10:Nat))) fun g=>nm ((((48:Nat))+g)%18446744073709551616) fun h=>nm (h%256) fun d=>ck ((a.length+([d]).length)*1<=140737488355328)<|nm (a++([d])) fun i=>ck ((10:Nat)≠0)<|nm (b/((10:Nat))) fun j=>L (j,i)else if f then if(a.length:Int)<19 then ck ((10:Nat)≠0)<|nm (b%((10:Nat))) fun k=>nm ((((48:Nat))+k)%18446744073709551616) fun l=>nm (l%256) fun e=>ck ((a.length+([e]).length)*1<=140737488355328)<|nm (a++([e])) fun t3=>ck ((10:Nat)≠0)<|nm (b/((10:Nat))) fun m=>L (m,t3)else some a else some a
def wZ(a:Nat)(b:Bool):Option (List Nat):=bd (zn (kB fu b) fu (a,[])) fun d=>bd (yP fu d) fun t5=>some t5
def xl(fu:Nat)(a:Nat):Option Int:=bd ((if 4294967296<=(a:Int)then nm (a/2^(min (32:Int).toNat 64)) fun g=>some (g,32)else some (a,0):Option (Nat×Int))) fun(b,e)=>bd ((if 65536<=(b:Int)then nm (b/2^(min (16:Int).toNat 64)) fun h=>zb (e+16) fun i=>some (h,i)else some (b,e):Option (Nat×Int))) fun(d,f)=>if 256<=(d:Int)then nm (d/2^(min (8:Int).toNat 64)) fun j=>zb (f+8) fun k=>nm (j%256) fun l=>nm (Ti l) fun m=>zb (k+((m:Int))) fun o=>some o else nm (d%256) fun p=>nm (Ti p) fun q=>zb (f+((q:Int))) fun r=>some r
def xk(a:Nat):Option Int:=bd (xl fu a) fun b=>zb ((64:Int)-b) fun d=>some d
def wv(fu:Nat)(l:Nat)(m:Nat)(g:Nat):((Nat×Nat)->Option Nat)->(Nat×Nat)->Option Nat:=fun L (a,h)=>if(((4294967296:Nat):Nat):Int)<=(a:Int)then nm ((a+18446744073709551616-((1:Nat)))%18446744073709551616) fun b=>nm ((h+l)%18446744073709551616) fun d=>if(((4294967296:Nat):Nat):Int)<=(d:Int)then some b else L (b,d)else nm ((a*m)%18446744073709551616) fun i=>nm ((((4294967296:Nat))*h)%18446744073709551616) fun j=>nm ((j+g)%18446744073709551616) fun k=>if(k:Int)<(i:Int)then nm ((a+18446744073709551616-((1:Nat)))%18446744073709551616) fun e=>nm ((h+l)%18446744073709551616) fun f=>if(((4294967296:Nat):Nat):Int)<=(f:Int)then some e else L (e,f)else some a
def wx(fu:Nat)(k:Nat)(l:Nat)(f:Nat):((Nat×Nat)->Option Nat)->(Nat×Nat)->Option Nat:=fun L (g,a)=>if(((4294967296:Nat):Nat):Int)<=(a:Int)then nm ((a+18446744073709551616-((1:Nat)))%18446744073709551616) fun b=>nm ((g+k)%18446744073709551616) fun EN=>if(((4294967296:Nat):Nat):Int)<=(EN:Int)then some b else L (EN,b)else nm ((a*l)%18446744073709551616) fun h=>nm ((((4294967296:Nat))*g)%18446744073709551616) fun i=>nm ((i+f)%18446744073709551616) fun j=>if(j:Int)<(h:Int)then nm ((a+18446744073709551616-((1:Nat)))%18446744073709551616) fun d=>nm ((g+k)%18446744073709551616) fun e=>if(((4294967296:Nat):Nat):Int)<=(e:Int)then some d else L (e,d)else some a
def vy(o:Nat)(l:Nat)(a:Nat):Option (Nat×Nat):=if(a:Int)=(((0:Nat):Nat):Int)then none else if(a:Int)<=(o:Int)then none else if(o:Int)=(((0:Nat):Nat):Int)then ck (a≠0)<|nm (l/a) fun J=>ck (a≠0)<|nm (l%a) fun K=>some (J,K)else bd (xk fu a) fun M=>nm (Jx M) fun f=>nm (a*2^(min (f:Int).toNat 64)%18446744073709551616) fun m=>nm (m/2^(min (((32:Nat)):Int).toNat 64)) fun b=>nm (m &&& ((4294967295:Nat))) fun G=>nm (o*2^(min (f:Int).toNat 64)%18446744073709551616) fun N=>nm ((((64:Nat))+18446744073709551616-f)%18446744073709551616) fun O=>nm (l/2^(min (O:Int).toNat 64)) fun m9=>nm (N|||m9) fun d=>nm (l*2^(min (f:Int).toNat 64)%18446744073709551616) fun g=>nm (g/2^(min (((32:Nat)):Int).toNat 64)) fun h=>nm (g &&& ((4294967295:Nat))) fun i=>ck (b≠0)<|nm (d/b) fun j=>nm ((j*b)%18446744073709551616) fun p=>nm ((d+18446744073709551616-p)%18446744073709551616) fun q=>bd (zn (wv fu b G h) fu (j,q)) fun H=>nm ((d*((4294967296:Nat)))%18446744073709551616) fun r=>nm ((r+h)%18446744073709551616) fun s=>nm ((H*m)%18446744073709551616) fun t=>nm ((s+18446744073709551616-t)%18446744073709551616) fun e=>ck (b≠0)<|nm (e/b) fun k=>nm ((k*b)%18446744073709551616) fun u=>nm ((e+18446744073709551616-u)%18446744073709551616) fun v=>bd (zn (wx fu b G i) fu (v,k)) fun I=>nm ((H*((4294967296:Nat)))%18446744073709551616) fun w=>nm ((w+I)%18446744073709551616) fun x=>nm ((e*((4294967296:Nat)))%18446744073709551616) fun y=>nm ((y+i)%18446744073709551616) fun A=>nm ((I*m)%18446744073709551616) fun B=>nm ((A+18446744073709551616-B)%18446744073709551616) fun C=>nm (C/2^(min (f:Int).toNat 64)) fun E=>some (x,E)
def uA(d:List Nat)(f:Nat):((Nat×Int×(List Nat))->Option (Nat×(List Nat)))->(Nat×Int×(List Nat))->Option (Nat×(List Nat)):=fun L (e,a,b)=>if 0<=a then zy a (d.length) fun g=>nm (d.getD g 0) fun h=>bd (vy fu e h f) fun(i,j)=>zy a (b.length) fun k=>nm (b.set k i) fun t3=>zb (a-1) fun l=>L (j,l,t3)else some (e,b)
def uo(a:List Nat)(d:Nat):Option ((List Nat)×Nat):=lK ((a.length:Int)) fun b=>ck (8*b<=281474976710656)<|nm (Pv b 0) fun e=>zb (((a.length:Int))-1) fun f=>bd (zn (uA fu a d) fu<|((0:Nat),f,e)) fun(g,h)=>bd (vk fu h) fun t5=>some (t5,g)
def ql(fu:Nat):((Int×Int×(List<|List Nat))->Option (List<|List Nat))->(Int×Int×(List<|List Nat))->Option (List<|List Nat):=fun L (b,d,a)=>if b<d then zy d (a.length) fun f=>nm ((a.getD f [])) fun g=>zy b (a.length) fun h=>nm ((a.getD h [])) fun t3=>zy b (a.length) fun i=>nm (a.set i g) fun e=>zy d (e.length) fun j=>nm (e.set j t3) fun t5=>zb (b+1) fun k=>zb (d-1) fun l=>L (k,l,t5)else some a
def yB(a:List (List Nat)):Option (List<|List Nat):=zb (((a.length:Int))-1) fun b=>bd (zn (ql fu) fu<|((0:Int),b,a)) fun d=>some d
def kG(fu:Nat)(a:List (List Nat))(b:List Nat):Option (List Nat):=ck (a.length<=140737488355328)<|ck ((b.intercalate a).length<=140737488355328)<|some (b.intercalate a)
def Zp:(((List Nat)×(List<|List Nat))->Option (List<|List Nat))->((List Nat)×(List<|List Nat))->Option (List<|List Nat):=fun L (b,t3)=>if 0<(b.length:Int)then bd (uo fu b (10000000000000000000:Nat)) fun(a,d)=>if 0<(a.length:Int)then bd (wZ fu d true) fun t5=>ck ((t3.length+([t5]).length)*16<=140737488355328)<|nm (t3++([t5])) fun f=>L (a,f)else bd (wZ fu d false) fun e=>ck ((t3.length+([e]).length)*16<=140737488355328)<|nm (t3++([e])) fun g=>L (a,g)else some t3
def ZB(e:List Nat):Option (List Nat):=bd (Ya fu e) fun f=>bd (zn (Zp fu) fu (f,[])) fun d=>if(d.length:Int)=0 then some [48]else bd (yB fu d) fun a=>bd (kG fu a []) fun b=>some b
def xc(a:(List Nat)×(Int×(Int×Bool)))(b:List Nat)(d:List Nat):Option (((List Nat)×(Int×(Int×Bool)))×List Nat):=if 4096<(d.length:Int)then nm ((a.1,(a.2.1,(a.2.2.1,true)))) fun e=>some (e,b)else bd (ZB fu d) fun f=>bd (zI fu a b f) fun(g,t3)=>some (g,t3)
def Zh(fu:Nat)(h:Tr):Option Int:=bd (Tr.opt h) fun a=>if(a.1:Int)=(((43:Nat):Nat):Int)then zb ((0:Int)+1) fun i=>zb (i+1) fun j=>zb (j+1) fun k=>some k else if(a.1:Int)=(((45:Nat):Nat):Int)then zb ((0:Int)+1) fun l=>zb (l+1) fun m=>zb (m+1) fun o=>some o else if(a.1:Int)=(((126:Nat):Nat):Int)then zb ((0:Int)+1) fun p=>zb (p+1) fun q=>zb (q+1) fun r=>some r else if(a.1:Int)=(((42:Nat):Nat):Int)then zb ((0:Int)+1) fun b=>zb (b+1) fun d=>some d else if(a.1:Int)=(((47:Nat):Nat):Int)then zb ((0:Int)+1) fun e=>zb (e+1) fun f=>some f else if(a.1:Int)=(((94:Nat):Nat):Int)then zb ((0:Int)+1) fun g=>some g else some (0:Int)
def zJ(R:((List Nat)×(Int×(Int×Bool)))->List Nat->Tr->Option (((List Nat)×(Int×(Int×Bool)))×List Nat))(fu:Nat)(a:(List Nat)×(Int×(Int×Bool)))(b:List Nat)(d:Tr)(i:Int):Option (((List Nat)×(Int×(Int×Bool)))×List Nat):=if a.2.2.2=true then bd (R a b d) fun(j,k)=>some (j,k)else bd (Zh fu d) fun l=>if l<=i then bd (R a b d) fun(m,o)=>some (m,o)else zb (a.2.2.1+1) fun p=>nm ((a.1,(a.2.1,(p,a.2.2.2)))) fun t3=>bd ((if t3.2.2.2=true then nm ((t3.1,(t3.2.1,(t3.2.2.1,true)))) fun q=>some (q,b)else if 100<t3.2.2.1 then nm ((t3.1,(t3.2.1,(t3.2.2.1,true)))) fun t5=>some (t5,b)else nm ((t3.1,(t3.2.1,(t3.2.2.1,false)))) fun r=>some (r,b):Option (((List Nat)×(Int×(Int×Bool)))×(List Nat)))) fun h=>bd (zI fu h.1 h.2 [40]) fun(s,t)=>bd (R s t d) fun(u,v)=>bd (zI fu u v [41]) fun(e,f)=>zb (e.2.2.1-1) fun w=>nm ((e.1,(e.2.1,(w,e.2.2.2)))) fun g=>some (g,f)
def va(fu:Nat)(a:Tr):Option Bool:=bd (Tr.opt a) fun d=>bd ((bd (Tr.opt a) fun e=>bd ((if(e.1:Int)=(((110:Nat):Nat):Int)then some (a,true)else some (a,false):Option (Tr×Bool))) fun(t1,b1)=>if b1 then bd (Tr.opt t1) fun y3=>nm ((d.1,(y3.2.1,(0,(0,(Tr.nil,Tr.nil)))))) fun t2=>some (.inl<|((0:Int),t2))else bd ((if(e.1:Int)=(((118:Nat):Nat):Int)then some true else some false:Option Bool)) fun b2=>if b2 then bd (Tr.opt t1) fun y4=>nm ((d.1,([],(y4.2.2.1,(0,(Tr.nil,Tr.nil)))))) fun t3=>some (.inl<|((0:Int),t3))else bd ((if(e.1:Int)=(((47:Nat):Nat):Int)then some true else some false:Option Bool)) fun b3=>if b3 then bd (Tr.opt t1) fun y5=>nm ((d.1,(y5.2.1,(0,(0,(Tr.nil,Tr.nil)))))) fun t4=>some (.inl<|((1:Int),t4))else bd ((if(e.1:Int)=(((94:Nat):Nat):Int)then some true else some false:Option Bool)) fun b4=>if b4 then bd (Tr.opt t1) fun y6=>nm ((d.1,([],(0,(y6.2.2.2.1,(Tr.nil,Tr.nil)))))) fun t5=>some (.inl<|((1:Int),t5))else if(e.1:Int)=(((126:Nat):Nat):Int)then some (.inl<|((1:Int),(d.1,([],(0,(0,(Tr.nil,Tr.nil)))))))else if(e.1:Int)=(((43:Nat):Nat):Int)then some (.inl<|((2:Int),(d.1,([],(0,(0,(Tr.nil,Tr.nil)))))))else if(e.1:Int)=(((45:Nat):Nat):Int)then some (.inl<|((2:Int),(d.1,([],(0,(0,(Tr.nil,Tr.nil)))))))else if(e.1:Int)=(((42:Nat):Nat):Int)then some (.inl<|((2:Int),(d.1,([],(0,(0,(Tr.nil,Tr.nil)))))))else some (.inr ()):Option ((Int×B4)⊕Unit))) fun s1=>match s1 with
 |.inl (b,t6)=>bd ((bd (Tr.opt a) fun y7=>if(t6.2.1.length:Int)=(y7.2.1.length:Int)then bd (Tr.opt a) fun y8=>if(t6.2.2.1:Int)=(y8.2.2.1:Int)then bd (Tr.opt a) fun y9=>if t6.2.2.2.1=y9.2.2.2.1 then some true else some false else some false else some false:Option Bool)) fun b5=>if b5 then bd (Tr.opt a) fun y10=>if Tr.isNil y10.2.2.2.2.1=true then if 0<b then nm (false==true) fun c1=>if c1 then bd (Tr.opt a) fun y11=>if Tr.isNil y11.2.2.2.2.2=true then if 1<b then nm (false==true) fun c2=>if c2 then bd (Tr.opt a) fun y12=>if(y12.1:Int)=(((118:Nat):Nat):Int)then bd (Tr.opt a) fun y13=>if(((97:Nat):Nat):Int)<=(y13.2.2.1:Int)then bd (Tr.opt a) fun y14=>if(y14.2.2.1:Int)<=(((122:Nat):Nat):Int)then nm (true==true) fun c3=>if c3 then bd (Tr.opt a) fun y15=>if 0<=y15.2.2.2.1 then bd (Tr.opt a) fun y16=>if y16.2.2.2.1<=1000 then bd (Tr.opt a) fun y17=>if(y17.2.1.length:Int)=0 then some true else bd (Tr.opt a) fun g8=>bd (Tr.opt a) fun y19=>zb (((y19.2.1.length:Int))-1) fun x1=>zy x1 (g8.2.1.length) fun j1=>nm (g8.2.1.getD j1 0) fun y20=>if(y20:Int)=(((0:Nat):Nat):Int)then some false else some true else some false else some false else some false else nm (true==false) fun c4=>if c4 then bd (Tr.opt a) fun y21=>if 0<=y21.2.2.2.1 then bd (Tr.opt a) fun y22=>if y22.2.2.2.1<=1000 then bd (Tr.opt a) fun y23=>if(y23.2.1.length:Int)=0 then some true else bd (Tr.opt a) fun g9=>bd (Tr.opt a) fun y25=>zb (((y25.2.1.length:Int))-1) fun x2=>zy x2 (g9.2.1.length) fun j2=>nm (g9.2.1.getD j2 0) fun y26=>if(y26:Int)=(((0:Nat):Nat):Int)then some false else some true else some false else some false else some false else nm (true==false) fun c5=>if c5 then bd (Tr.opt a) fun y27=>if 0<=y27.2.2.2.1 then bd (Tr.opt a) fun y28=>if y28.2.2.2.1<=1000 then bd (Tr.opt a) fun y29=>if(y29.2.1.length:Int)=0 then some true else bd (Tr.opt a) fun h0=>bd (Tr.opt a) fun y31=>zb (((y31.2.1.length:Int))-1) fun x3=>zy x3 (h0.2.1.length) fun j3=>nm (h0.2.1.getD j3 0) fun y32=>if(y32:Int)=(((0:Nat):Nat):Int)then some false else some true else some false else some false else some false else bd (Tr.opt a) fun y33=>if(((97:Nat):Nat):Int)<=(y33.2.2.1:Int)then bd (Tr.opt a) fun y34=>if(y34.2.2.1:Int)<=(((122:Nat):Nat):Int)then nm (false==true) fun c6=>if c6 then bd (Tr.opt a) fun y35=>if 0<=y35.2.2.2.1 then bd (Tr.opt a) fun y36=>if y36.2.2.2.1<=1000 then bd (Tr.opt a) fun y37=>if(y37.2.1.length:Int)=0 then some true else bd (Tr.opt a) fun h1=>bd (Tr.opt a) fun y39=>zb (((y39.2.1.length:Int))-1) fun x4=>zy x4 (h1.2.1.length) fun j4=>nm (h1.2.1.getD j4 0) fun y40=>if(y40:Int)=(((0:Nat):Nat):Int)then some false else some true else some false else some false else some false else nm (false==false) fun c7=>if c7 then bd (Tr.opt a) fun y41=>if 0<=y41.2.2.2.1 then bd (Tr.opt a) fun y42=>if y42.2.2.2.1<=1000 then bd (Tr.opt a) fun y43=>if(y43.2.1.length:Int)=0 then some true else bd (Tr.opt a) fun h2=>bd (Tr.opt a) fun y45=>zb (((y45.2.1.length:Int))-1) fun x5=>zy x5 (h2.2.1.length) fun j5=>nm (h2.2.1.getD j5 0) fun y46=>if(y46:Int)=(((0:Nat):Nat):Int)then some false else some true else some false else some false else some false else nm (false==false) fun c8=>if c8 then bd (Tr.opt a) fun y47=>if 0<=y47.2.2.2.1 then bd (Tr.opt a) fun y48=>if y48.2.2.2.1<=1000 then bd (Tr.opt a) fun y49=>if(y49.2.1.length:Int)=0 then some true else bd (Tr.opt a) fun h3=>bd (Tr.opt a) fun y51=>zb (((y51.2.1.length:Int))-1) fun x6=>zy x6 (h3.2.1.length) fun j6=>nm (h3.2.1.getD j6 0) fun y52=>if(y52:Int)=(((0:Nat):Nat):Int)then some false else some true else some false else some false else some false else some false else nm (false==false) fun c9=>if c9 then bd (Tr.opt a) fun y53=>if(y53.1:Int)=(((118:Nat):Nat):Int)then bd (Tr.opt a) fun y54=>if(((97:Nat):Nat):Int)<=(y54.2.2.1:Int)then bd (Tr.opt a) fun y55=>if(y55.2.2.1:Int)<=(((122:Nat):Nat):Int)then nm (true==true) fun c10=>if c10 then bd (Tr.opt a) fun y56=>if 0<=y56.2.2.2.1 then bd (Tr.opt a) fun y57=>if y57.2.2.2.1<=1000 then bd (Tr.opt a) fun y58=>if(y58.2.1.length:Int)=0 then some true else bd (Tr.opt a) fun h4=>bd (Tr.opt a) fun y60=>zb (((y60.2.1.length:Int))-1) fun x7=>zy x7 (h4.2.1.length) fun j7=>nm (h4.2.1.getD j7 0) fun y61=>if(y61:Int)=(((0:Nat):Nat):Int)then some false else some true else some false else some false else some false else nm (true==false) fun c11=>if c11 then bd (Tr.opt a) fun y62=>if 0<=y62.2.2.2.1 then bd (Tr.opt a) fun y63=>if y63.2.2.2.1<=1000 then bd (Tr.opt a) fun y64=>if(y64.2.1.length:Int)=0 then some true else bd (Tr.opt a) fun h5=>bd (Tr.opt a) fun y66=>zb (((y66.2.1.length:Int))-1) fun x8=>zy x8 (h5.2.1.length) fun j8=>nm (h5.2.1.getD j8 0) fun y67=>if(y67:Int)=(((0:Nat):Nat):Int)then some false else some true else some false else some false else some false else nm (true==false) fun c12=>if c12 then bd (Tr.opt a) fun y68=>if 0<=y68.2.2.2.1 then bd (Tr.opt a) fun y69=>if y69.2.2.2.1<=1000 then bd (Tr.opt a) fun y70=>if(y70.2.1.length:Int)=0 then some true else bd (Tr.opt a) fun h6=>bd (Tr.opt a) fun y72=>zb (((y72.2.1.length:Int))-1) fun x9=>zy x9 (h6.2.1.length) fun j9=>nm (h6.2.1.getD j9 0) fun y73=>if(y73:Int)=(((0:Nat):Nat):Int)then some false else some true else some false else some false else some false else bd (Tr.opt a) fun y74=>if(((97:Nat):Nat):Int)<=(y74.2.2.1:Int)then bd (Tr.opt a) fun y75=>if(y75.2.2.1:Int)<=(((122:Nat):Nat):Int)then nm (false==true) fun c13=>if c13 then bd (Tr.opt a) fun y76=>if 0<=y76.2.2.2.1 then bd (Tr.opt a) fun y77=>if y77.2.2.2.1<=1000 then bd (Tr.opt a) fun y78=>if(y78.2.1.length:Int)=0 then some true else bd (Tr.opt a) fun h7=>bd (Tr.opt a) fun y80=>zb (((y80.2.1.length:Int))-1) fun x10=>zy x10 (h7.2.1.length) fun j10=>nm (h7.2.1.getD j10 0) fun y81=>if(y81:Int)=(((0:Nat):Nat):Int)then some false else some true else some false else some false else some false else nm (false==false) fun c14=>if c14 then bd (Tr.opt a) fun y82=>if 0<=y82.2.2.2.1 then bd (Tr.opt a) fun y83=>if y83.2.2.2.1<=1000 then bd (Tr.opt a) fun y84=>if(y84.2.1.length:Int)=0 then some true else bd (Tr.opt a) fun h8=>bd (Tr.opt a) fun y86=>zb (((y86.2.1.length:Int))-1) fun x11=>zy x11 (h8.2.1.length) fun j11=>nm (h8.2.1.getD j11 0) fun y87=>if(y87:Int)=(((0:Nat):Nat):Int)then some false else some true else some false else some false else some false else nm (false==false) fun c15=>if c15 then bd (Tr.opt a) fun y88=>if 0<=y88.2.2.2.1 then bd (Tr.opt a) fun y89=>if y89.2.2.2.1<=1000 then bd (Tr.opt a) fun y90=>if(y90.2.1.length:Int)=0 then some true else bd (Tr.opt a) fun h9=>bd (Tr.opt a) fun y92=>zb (((y92.2.1.length:Int))-1) fun x12=>zy x12 (h9.2.1.length) fun j12=>nm (h9.2.1.getD j12 0) fun y93=>if(y93:Int)=(((0:Nat):Nat):Int)then some false else some true else some false else some false else some false else some false else if 1<b then nm (true==true) fun c16=>if c16 then bd (Tr.opt a) fun y94=>if(y94.1:Int)=(((118:Nat):Nat):Int)then bd (Tr.opt a) fun y95=>if(((97:Nat):Nat):Int)<=(y95.2.2.1:Int)then bd (Tr.opt a) fun y96=>if(y96.2.2.1:Int)<=(((122:Nat):Nat):Int)then nm (true==true) fun c17=>if c17 then bd (Tr.opt a) fun y97=>if 0<=y97.2.2.2.1 then bd (Tr.opt a) fun y98=>if y98.2.2.2.1<=1000 then bd (Tr.opt a) fun y99=>if(y99.2.1.length:Int)=0 then some true else bd (Tr.opt a) fun f=>bd (Tr.opt a) fun i0=>zb (((i0.2.1.length:Int))-1) fun x13=>zy x13 (f.2.1.length) fun j13=>nm (f.2.1.getD j13 0) fun i2=>if(i2:Int)=(((0:Nat):Nat):Int)then some false else some true else some false else some false else some false else nm (true==false) fun c18=>if c18 then bd (Tr.opt a) fun i3=>if 0<=i3.2.2.2.1 then bd (Tr.opt a) fun i4=>if i4.2.2.2.1<=1000 then bd (Tr.opt a) fun i5=>if(i5.2.1.length:Int)=0 then some true else bd (Tr.opt a) fun g=>bd (Tr.opt a) fun i6=>zb (((i6.2.1.length:Int))-1) fun x14=>zy x14 (g.2.1.length) fun j14=>nm (g.2.1.getD j14 0) fun i7=>if(i7:Int)=(((0:Nat):Nat):Int)then some false else some true else some false else some false else some false else nm (true==false) fun c19=>if c19 then bd (Tr.opt a) fun i8=>if 0<=i8.2.2.2.1 then bd (Tr.opt a) fun i9=>if i9.2.2.2.1<=1000 then bd (Tr.opt a) fun j0=>if(j0.2.1.length:Int)=0 then some true else bd (Tr.opt a) fun h=>bd (Tr.opt a) fun k1=>zb (((k1.2.1.length:Int))-1) fun x15=>zy x15 (h.2.1.length) fun j15=>nm (h.2.1.getD j15 0) fun k2=>if(k2:Int)=(((0:Nat):Nat):Int)then some false else some true else some false else some false else some false else bd (Tr.opt a) fun k6=>if(((97:Nat):Nat):Int)<=(k6.2.2.1:Int)then bd (Tr.opt a) fun k7=>if(k7.2.2.1:Int)<=(((122:Nat):Nat):Int)then nm (false==true) fun c20=>if c20 then bd (Tr.opt a) fun k8=>if 0<=k8.2.2.2.1 then bd (Tr.opt a) fun k9=>if k9.2.2.2.1<=1000 then bd (Tr.opt a) fun l0=>if(l0.2.1.length:Int)=0 then some true else bd (Tr.opt a) fun i=>bd (Tr.opt a) fun l1=>zb (((l1.2.1.length:Int))-1) fun x16=>zy x16 (i.2.1.length) fun j16=>nm (i.2.1.getD j16 0) fun l2=>if(l2:Int)=(((0:Nat):Nat):Int)then some false else some true else some false else some false else some false else nm (false==false) fun c21=>if c21 then bd (Tr.opt a) fun l3=>if 0<=l3.2.2.2.1 then bd (Tr.opt a) fun l4=>if l4.2.2.2.1<=1000 then bd (Tr.opt a) fun l5=>if(l5.2.1.length:Int)=0 then some true else bd (Tr.opt a) fun j=>bd (Tr.opt a) fun l6=>zb (((l6.2.1.length:Int))-1) fun x17=>zy x17 (j.2.1.length) fun j17=>nm (j.2.1.getD j17 0) fun l7=>if(l7:Int)=(((0:Nat):Nat):Int)then some false else some true else some false else some false else some false else nm (false==false) fun c22=>if c22 then bd (Tr.opt a) fun l8=>if 0<=l8.2.2.2.1 then bd (Tr.opt a) fun l9=>if l9.2.2.2.1<=1000 then bd (Tr.opt a) fun m0=>if(m0.2.1.length:Int)=0 then some true else bd (Tr.opt a) fun k=>bd (Tr.opt a) fun m1=>zb (((m1.2.1.length:Int))-1) fun x18=>zy x18 (k.2.1.length) fun j18=>nm (k.2.1.getD j18 0) fun m2=>if(m2:Int)=(((0:Nat):Nat):Int)then some false else some true else some false else some false else some false else some false else nm (true==false) fun c23=>if c23 then bd (Tr.opt a) fun m3=>if(m3.1:Int)=(((118:Nat):Nat):Int)then bd (Tr.opt a) fun m4=>if(((97:Nat):Nat):Int)<=(m4.2.2.1:Int)then bd (Tr.opt a) fun m5=>if(m5.2.2.1:Int)<=(((122:Nat):Nat):Int)then nm (true==true) fun c24=>if c24 then bd (Tr.opt a) fun m6=>if 0<=m6.2.2.2.1 then bd (Tr.opt a) fun m7=>if m7.2.2.2.1<=1000 then bd (Tr.opt a) fun m8=>if(m8.2.1.length:Int)=0 then some true else bd (Tr.opt a) fun l=>bd (Tr.opt a) fun m9=>zb (((m9.2.1.length:Int))-1) fun x19=>zy x19 (l.2.1.length) fun j19=>nm (l.2.1.getD j19 0) fun n0=>if(n0:Int)=(((0:Nat):Nat):Int)then some false else some true else some false else some false else some false else nm (true==false) fun c25=>if c25 then bd (Tr.opt a) fun n1=>if 0<=n1.2.2.2.1 then bd (Tr.opt a) fun n2=>if n2.2.2.2.1<=1000 then bd (Tr.opt a) fun n3=>if(n3.2.1.length:Int)=0 then some true else bd (Tr.opt a) fun m=>bd (Tr.opt a) fun n4=>zb (((n4.2.1.length:Int))-1) fun x20=>zy x20 (m.2.1.length) fun j20=>nm (m.2.1.getD j20 0) fun n5=>if(n5:Int)=(((0:Nat):Nat):Int)then some false else some true else some false else some false else some false else nm (true==false) fun c26=>if c26 then bd (Tr.opt a) fun n8=>if 0<=n8.2.2.2.1 then bd (Tr.opt a) fun n9=>if n9.2.2.2.1<=1000 then bd (Tr.opt a) fun o0=>if(o0.2.1.length:Int)=0 then some true else bd (Tr.opt a) fun o=>bd (Tr.opt a) fun o1=>zb (((o1.2.1.length:Int))-1) fun x21=>zy x21 (o.2.1.length) fun j21=>nm (o.2.1.getD j21 0) fun o2=>if(o2:Int)=(((0:Nat):Nat):Int)then some false else some true else some false else some false else some false else bd (Tr.opt a) fun o3=>if(((97:Nat):Nat):Int)<=(o3.2.2.1:Int)then bd (Tr.opt a) fun o4=>if(o4.2.2.1:Int)<=(((122:Nat):Nat):Int)then nm (false==true) fun c27=>if c27 then bd (Tr.opt a) fun o5=>if 0<=o5.2.2.2.1 then bd (Tr.opt a) fun o8=>if o8.2.2.2.1<=1000 then bd (Tr.opt a) fun o9=>if(o9.2.1.length:Int)=0 then some true else bd (Tr.opt a) fun p=>bd (Tr.opt a) fun p2=>zb (((p2.2.1.length:Int))-1) fun x22=>zy x22 (p.2.1.length) fun j22=>nm (p.2.1.getD j22 0) fun p5=>if(p5:Int)=(((0:Nat):Nat):Int)then some false else some true else some false else some false else some false else nm (false==false) fun c28=>if c28 then bd (Tr.opt a) fun p6=>if 0<=p6.2.2.2.1 then bd (Tr.opt a) fun p7=>if p7.2.2.2.1<=1000 then bd (Tr.opt a) fun p8=>if(p8.2.1.length:Int)=0 then some true else bd (Tr.opt a) fun q=>bd (Tr.opt a) fun p9=>zb (((p9.2.1.length:Int))-1) fun x23=>zy x23 (q.2.1.length) fun j23=>nm (q.2.1.getD j23 0) fun q0=>if(q0:Int)=(((0:Nat):Nat):Int)then some false else some true else some false else some false else some false else nm (false==false) fun c29=>if c29 then bd (Tr.opt a) fun q1=>if 0<=q1.2.2.2.1 then bd (Tr.opt a) fun q2=>if q2.2.2.2.1<=1000 then bd (Tr.opt a) fun q3=>if(q3.2.1.length:Int)=0 then some true else bd (Tr.opt a) fun r=>bd (Tr.opt a) fun q4=>zb (((q4.2.1.length:Int))-1) fun x24=>zy x24 (r.2.1.length) fun j24=>nm (r.2.1.getD j24 0) fun q5=>if(q5:Int)=(((0:Nat):Nat):Int)then some false else some true else some false else some false else some false else some false else some false else nm (false==false) fun c30=>if c30 then bd (Tr.opt a) fun q6=>if Tr.isNil q6.2.2.2.2.2=true then if 1<b then nm (false==true) fun c31=>if c31 then bd (Tr.opt a) fun q7=>if(q7.1:Int)=(((118:Nat):Nat):Int)then bd (Tr.opt a) fun q8=>if(((97:Nat):Nat):Int)<=(q8.2.2.1:Int)then bd (Tr.opt a) fun q9=>if(q9.2.2.1:Int)<=(((122:Nat):Nat):Int)then nm (true==true) fun c32=>if c32 then bd (Tr.opt a) fun r0=>if 0<=r0.2.2.2.1 then bd (Tr.opt a) fun r1=>if r1.2.2.2.1<=1000 then bd (Tr.opt a) fun r2=>if(r2.2.1.length:Int)=0 then some true else bd (Tr.opt a) fun s=>bd (Tr.opt a) fun r3=>zb (((r3.2.1.length:Int))-1) fun x25=>zy x25 (s.2.1.length) fun j25=>nm (s.2.1.getD j25 0) fun r4=>if(r4:Int)=(((0:Nat):Nat):Int)then some false else some true else some false else some false else some false else nm (true==false) fun c33=>if c33 then bd (Tr.opt a) fun r5=>if 0<=r5.2.2.2.1 then bd (Tr.opt a) fun r6=>if r6.2.2.2.1<=1000 then bd (Tr.opt a) fun r7=>if(r7.2.1.length:Int)=0 then some true else bd (Tr.opt a) fun t=>bd (Tr.opt a) fun r8=>zb (((r8.2.1.length:Int))-1) fun x26=>zy x26 (t.2.1.length) fun j26=>nm (t.2.1.getD j26 0) fun r9=>if(r9:Int)=(((0:Nat):Nat):Int)then some false else some true else some false else some false else some false else nm (true==false) fun c34=>if c34 then bd (Tr.opt a) fun s0=>if 0<=s0.2.2.2.1 then bd (Tr.opt a) fun s2=>if s2.2.2.2.1<=1000 then bd (Tr.opt a) fun s3=>if(s3.2.1.length:Int)=0 then some true else bd (Tr.opt a) fun u=>bd (Tr.opt a) fun s4=>zb (((s4.2.1.length:Int))-1) fun x27=>zy x27 (u.2.1.length) fun j27=>nm (u.2.1.getD j27 0) fun s5=>if(s5:Int)=(((0:Nat):Nat):Int)then some false else some true else some false else some false else some false else bd (Tr.opt a) fun s6=>if(((97:Nat):Nat):Int)<=(s6.2.2.1:Int)then bd (Tr.opt a) fun s7=>if(s7.2.2.1:Int)<=(((122:Nat):Nat):Int)then nm (false==true) fun c35=>if c35 then bd (Tr.opt a) fun s8=>if 0<=s8.2.2.2.1 then bd (Tr.opt a) fun s9=>if s9.2.2.2.1<=1000 then bd (Tr.opt a) fun t0=>if(t0.2.1.length:Int)=0 then some true else bd (Tr.opt a) fun v=>bd (Tr.opt a) fun t7=>zb (((t7.2.1.length:Int))-1) fun x28=>zy x28 (v.2.1.length) fun j28=>nm (v.2.1.getD j28 0) fun t8=>if(t8:Int)=(((0:Nat):Nat):Int)then some false else some true else some false else some false else some false else nm (false==false) fun c36=>if c36 then bd (Tr.opt a) fun t9=>if 0<=t9.2.2.2.1 then bd (Tr.opt a) fun u0=>if u0.2.2.2.1<=1000 then bd (Tr.opt a) fun u1=>if(u1.2.1.length:Int)=0 then some true else bd (Tr.opt a) fun w=>bd (Tr.opt a) fun u2=>zb (((u2.2.1.length:Int))-1) fun x29=>zy x29 (w.2.1.length) fun j29=>nm (w.2.1.getD j29 0) fun u3=>if(u3:Int)=(((0:Nat):Nat):Int)then some false else some true else some false else some false else some false else nm (false==false) fun c37=>if c37 then bd (Tr.opt a) fun u4=>if 0<=u4.2.2.2.1 then bd (Tr.opt a) fun u5=>if u5.2.2.2.1<=1000 then bd (Tr.opt a) fun u6=>if(u6.2.1.length:Int)=0 then some true else bd (Tr.opt a) fun x=>bd (Tr.opt a) fun u7=>zb (((u7.2.1.length:Int))-1) fun x30=>zy x30 (x.2.1.length) fun j30=>nm (x.2.1.getD j30 0) fun u8=>if(u8:Int)=(((0:Nat):Nat):Int)then some false else some true else some false else some false else some false else some false else nm (false==false) fun c38=>if c38 then bd (Tr.opt a) fun u9=>if(u9.1:Int)=(((118:Nat):Nat):Int)then bd (Tr.opt a) fun v0=>if(((97:Nat):Nat):Int)<=(v0.2.2.1:Int)then bd (Tr.opt a) fun v1=>if(v1.2.2.1:Int)<=(((122:Nat):Nat):Int)then nm (true==true) fun c39=>if c39 then bd (Tr.opt a) fun v2=>if 0<=v2.2.2.2.1 then bd (Tr.opt a) fun v3=>if v3.2.2.2.1<=1000 then bd (Tr.opt a) fun v4=>if(v4.2.1.length:Int)=0 then some true else bd (Tr.opt a) fun y=>bd (Tr.opt a) fun v5=>zb (((v5.2.1.length:Int))-1) fun x31=>zy x31 (y.2.1.length) fun j31=>nm (y.2.1.getD j31 0) fun v6=>if(v6:Int)=(((0:Nat):Nat):Int)then some false else some true else some false else some false else some false else nm (true==false) fun c40=>if c40 then bd (Tr.opt a) fun v7=>if 0<=v7.2.2.2.1 then bd (Tr.opt a) fun v8=>if v8.2.2.2.1<=1000 then bd (Tr.opt a) fun v9=>if(v9.2.1.length:Int)=0 then some true else bd (Tr.opt a) fun A=>bd (Tr.opt a) fun w3=>zb (((w3.2.1.length:Int))-1) fun x32=>zy x32 (A.2.1.length) fun j32=>nm (A.2.1.getD j32 0) fun w4=>if(w4:Int)=(((0:Nat):Nat):Int)then some false else some true else some false else some false else some false else nm (true==false) fun c41=>if c41 then bd (Tr.opt a) fun w5=>if 0<=w5.2.2.2.1 then bd (Tr.opt a) fun w6=>if w6.2.2.2.1<=1000 then bd (Tr.opt a) fun w7=>if(w7.2.1.length:Int)=0 then some true else bd (Tr.opt a) fun B=>bd (Tr.opt a) fun w8=>zb (((w8.2.1.length:Int))-1) fun x33=>zy x33 (B.2.1.length) fun j33=>nm (B.2.1.getD j33 0) fun w9=>if(w9:Int)=(((0:Nat):Nat):Int)then some false else some true else some false else some false else some false else bd (Tr.opt a) fun x0=>if(((97:Nat):Nat):Int)<=(x0.2.2.1:Int)then bd (Tr.opt a) fun y0=>if(y0.2.2.1:Int)<=(((122:Nat):Nat):Int)then nm (false==true) fun c42=>if c42 then bd (Tr.opt a) fun z0=>if 0<=z0.2.2.2.1 then bd (Tr.opt a) fun z1=>if z1.2.2.2.1<=1000 then bd (Tr.opt a) fun z9=>if(z9.2.1.length:Int)=0 then some true else bd (Tr.opt a) fun C=>bd (Tr.opt a) fun y245=>zb (((y245.2.1.length:Int))-1) fun x34=>zy x34 (C.2.1.length) fun j34=>nm (C.2.1.getD j34 0) fun y246=>if(y246:Int)=(((0:Nat):Nat):Int)then some false else some true else some false else some false else some false else nm (false==false) fun c43=>if c43 then bd (Tr.opt a) fun y247=>if 0<=y247.2.2.2.1 then bd (Tr.opt a) fun y248=>if y248.2.2.2.1<=1000 then bd (Tr.opt a) fun y249=>if(y249.2.1.length:Int)=0 then some true else bd (Tr.opt a) fun E=>bd (Tr.opt a) fun y251=>zb (((y251.2.1.length:Int))-1) fun x35=>zy x35 (E.2.1.length) fun j35=>nm (E.2.1.getD j35 0) fun y252=>if(y252:Int)=(((0:Nat):Nat):Int)then some false else some true else some false else some false else some false else nm (false==false) fun c44=>if c44 then bd (Tr.opt a) fun y253=>if 0<=y253.2.2.2.1 then bd (Tr.opt a) fun y254=>if y254.2.2.2.1<=1000 then bd (Tr.opt a) fun y255=>if(y255.2.1.length:Int)=0 then some true else bd (Tr.opt a) fun G=>bd (Tr.opt a) fun y257=>zb (((y257.2.1.length:Int))-1) fun x36=>zy x36 (G.2.1.length) fun j36=>nm (G.2.1.getD j36 0) fun y258=>if(y258:Int)=(((0:Nat):Nat):Int)then some false else some true else some false else some false else some false else some false else if 1<b then nm (true==true) fun c45=>if c45 then bd (Tr.opt a) fun y259=>if(y259.1:Int)=(((118:Nat):Nat):Int)then bd (Tr.opt a) fun y260=>if(((97:Nat):Nat):Int)<=(y260.2.2.1:Int)then bd (Tr.opt a) fun y261=>if(y261.2.2.1:Int)<=(((122:Nat):Nat):Int)then nm (true==true) fun c46=>if c46 then bd (Tr.opt a) fun y262=>if 0<=y262.2.2.2.1 then bd (Tr.opt a) fun y263=>if y263.2.2.2.1<=1000 then bd (Tr.opt a) fun y264=>if(y264.2.1.length:Int)=0 then some true else bd (Tr.opt a) fun H=>bd (Tr.opt a) fun y266=>zb (((y266.2.1.length:Int))-1) fun x37=>zy x37 (H.2.1.length) fun j37=>nm (H.2.1.getD j37 0) fun y267=>if(y267:Int)=(((0:Nat):Nat):Int)then some false else some true else some false else some false else some false else nm (true==false) fun c47=>if c47 then bd (Tr.opt a) fun y268=>if 0<=y268.2.2.2.1 then bd (Tr.opt a) fun y269=>if y269.2.2.2.1<=1000 then bd (Tr.opt a) fun y270=>if(y270.2.1.length:Int)=0 then some true else bd (Tr.opt a) fun I=>bd (Tr.opt a) fun y272=>zb (((y272.2.1.length:Int))-1) fun x38=>zy x38 (I.2.1.length) fun j38=>nm (I.2.1.getD j38 0) fun y273=>if(y273:Int)=(((0:Nat):Nat):Int)then some false else some true else some false else some false else some false else nm (true==false) fun c48=>if c48 then bd (Tr.opt a) fun y274=>if 0<=y274.2.2.2.1 then bd (Tr.opt a) fun y275=>if y275.2.2.2.1<=1000 then bd (Tr.opt a) fun y276=>if(y276.2.1.length:Int)=0 then some true else bd (Tr.opt a) fun J=>bd (Tr.opt a) fun y278=>zb (((y278.2.1.length:Int))-1) fun x39=>zy x39 (J.2.1.length) fun j39=>nm (J.2.1.getD j39 0) fun y279=>if(y279:Int)=(((0:Nat):Nat):Int)then some false else some true else some false else some false else some false else bd (Tr.opt a) fun y280=>if(((97:Nat):Nat):Int)<=(y280.2.2.1:Int)then bd (Tr.opt a) fun y281=>if(y281.2.2.1:Int)<=(((122:Nat):Nat):Int)then nm (false==true) fun c49=>if c49 then bd (Tr.opt a) fun y282=>if 0<=y282.2.2.2.1 then bd (Tr.opt a) fun y283=>if y283.2.2.2.1<=1000 then bd (Tr.opt a) fun y284=>if(y284.2.1.length:Int)=0 then some true else bd (Tr.opt a) fun K=>bd (Tr.opt a) fun y286=>zb (((y286.2.1.length:Int))-1) fun x40=>zy x40 (K.2.1.length) fun j40=>nm (K.2.1.getD j40 0) fun y287=>if(y287:Int)=(((0:Nat):Nat):Int)then some false else some true else some false else some false else some false else nm (false==false) fun c50=>if c50 then bd (Tr.opt a) fun y288=>if 0<=y288.2.2.2.1 then bd (Tr.opt a) fun y289=>if y289.2.2.2.1<=1000 then bd (Tr.opt a) fun y290=>if(y290.2.1.length:Int)=0 then some true else bd (Tr.opt a) fun M=>bd (Tr.opt a) fun y292=>zb (((y292.2.1.length:Int))-1) fun x41=>zy x41 (M.2.1.length) fun j41=>nm (M.2.1.getD j41 0) fun y293=>if(y293:Int)=(((0:Nat):Nat):Int)then some false else some true else some false else some false else some false else nm (false==false) fun c51=>if c51 then bd (Tr.opt a) fun y294=>if 0<=y294.2.2.2.1 then bd (Tr.opt a) fun y295=>if y295.2.2.2.1<=1000 then bd (Tr.opt a) fun y296=>if(y296.2.1.length:Int)=0 then some true else bd (Tr.opt a) fun N=>bd (Tr.opt a) fun y298=>zb (((y298.2.1.length:Int))-1) fun x42=>zy x42 (N.2.1.length) fun j42=>nm (N.2.1.getD j42 0) fun y299=>if(y299:Int)=(((0:Nat):Nat):Int)then some false else some true else some false else some false else some false else some false else nm (true==false) fun c52=>if c52 then bd (Tr.opt a) fun y300=>if(y300.1:Int)=(((118:Nat):Nat):Int)then bd (Tr.opt a) fun y301=>if(((97:Nat):Nat):Int)<=(y301.2.2.1:Int)then bd (Tr.opt a) fun y302=>if(y302.2.2.1:Int)<=(((122:Nat):Nat):Int)then nm (true==true) fun c53=>if c53 then bd (Tr.opt a) fun y303=>if 0<=y303.2.2.2.1 then bd (Tr.opt a) fun y304=>if y304.2.2.2.1<=1000 then bd (Tr.opt a) fun y305=>if(y305.2.1.length:Int)=0 then some true else bd (Tr.opt a) fun O=>bd (Tr.opt a) fun y307=>zb (((y307.2.1.length:Int))-1) fun x43=>zy x43 (O.2.1.length) fun j43=>nm (O.2.1.getD j43 0) fun y308=>if(y308:Int)=(((0:Nat):Nat):Int)then some false else some true else some false else some false else some false else nm (true==false) fun c54=>if c54 then bd (Tr.opt a) fun y309=>if 0<=y309.2.2.2.1 then bd (Tr.opt a) fun y310=>if y310.2.2.2.1<=1000 then bd (Tr.opt a) fun y311=>if(y311.2.1.length:Int)=0 then some true else bd (Tr.opt a) fun P=>bd (Tr.opt a) fun y313=>zb (((y313.2.1.length:Int))-1) fun x44=>zy x44 (P.2.1.length) fun j44=>nm (P.2.1.getD j44 0) fun y314=>if(y314:Int)=(((0:Nat):Nat):Int)then some false else some true else some false else some false else some false else nm (true==false) fun c55=>if c55 then bd (Tr.opt a) fun y315=>if 0<=y315.2.2.2.1 then bd (Tr.opt a) fun y316=>if y316.2.2.2.1<=1000 then bd (Tr.opt a) fun y317=>if(y317.2.1.length:Int)=0 then some true else bd (Tr.opt a) fun Q=>bd (Tr.opt a) fun y319=>zb (((y319.2.1.length:Int))-1) fun x45=>zy x45 (Q.2.1.length) fun j45=>nm (Q.2.1.getD j45 0) fun y320=>if(y320:Int)=(((0:Nat):Nat):Int)then some false else some true else some false else some false else some false else bd (Tr.opt a) fun y321=>if(((97:Nat):Nat):Int)<=(y321.2.2.1:Int)then bd (Tr.opt a) fun y322=>if(y322.2.2.1:Int)<=(((122:Nat):Nat):Int)then nm (false==true) fun c56=>if c56 then bd (Tr.opt a) fun y323=>if 0<=y323.2.2.2.1 then bd (Tr.opt a) fun y324=>if y324.2.2.2.1<=1000 then bd (Tr.opt a) fun y325=>if(y325.2.1.length:Int)=0 then some true else bd (Tr.opt a) fun R=>bd (Tr.opt a) fun y327=>zb (((y327.2.1.length:Int))-1) fun x46=>zy x46 (R.2.1.length) fun j46=>nm (R.2.1.getD j46 0) fun y328=>if(y328:Int)=(((0:Nat):Nat):Int)then some false else some true else some false else some false else some false else nm (false==false) fun c57=>if c57 then bd (Tr.opt a) fun y329=>if 0<=y329.2.2.2.1 then bd (Tr.opt a) fun y330=>if y330.2.2.2.1<=1000 then bd (Tr.opt a) fun y331=>if(y331.2.1.length:Int)=0 then some true else bd (Tr.opt a) fun S=>bd (Tr.opt a) fun y333=>zb (((y333.2.1.length:Int))-1) fun x47=>zy x47 (S.2.1.length) fun j47=>nm (S.2.1.getD j47 0) fun y334=>if(y334:Int)=(((0:Nat):Nat):Int)then some false else some true else some false else some false else some false else nm (false==false) fun c58=>if c58 then bd (Tr.opt a) fun y335=>if 0<=y335.2.2.2.1 then bd (Tr.opt a) fun y336=>if y336.2.2.2.1<=1000 then bd (Tr.opt a) fun y337=>if(y337.2.1.length:Int)=0 then some true else bd (Tr.opt a) fun U=>bd (Tr.opt a) fun y339=>zb (((y339.2.1.length:Int))-1) fun x48=>zy x48 (U.2.1.length) fun j48=>nm (U.2.1.getD j48 0) fun y340=>if(y340:Int)=(((0:Nat):Nat):Int)then some false else some true else some false else some false else some false else some false else some false else if 0<b then nm (true==true) fun c59=>if c59 then bd (Tr.opt a) fun y341=>if Tr.isNil y341.2.2.2.2.2=true then if 1<b then nm (false==true) fun c60=>if c60 then bd (Tr.opt a) fun y342=>if(y342.1:Int)=(((118:Nat):Nat):Int)then bd (Tr.opt a) fun y343=>if(((97:Nat):Nat):Int)<=(y343.2.2.1:Int)then bd (Tr.opt a) fun y344=>if(y344.2.2.1:Int)<=(((122:Nat):Nat):Int)then nm (true==true) fun c61=>if c61 then bd (Tr.opt a) fun y345=>if 0<=y345.2.2.2.1 then bd (Tr.opt a) fun y346=>if y346.2.2.2.1<=1000 then bd (Tr.opt a) fun y347=>if(y347.2.1.length:Int)=0 then some true else bd (Tr.opt a) fun V=>bd (Tr.opt a) fun y349=>zb (((y349.2.1.length:Int))-1) fun x49=>zy x49 (V.2.1.length) fun j49=>nm (V.2.1.getD j49 0) fun y350=>if(y350:Int)=(((0:Nat):Nat):Int)then some false else some true else some false else some false else some false else nm (true==false) fun c62=>if c62 then bd (Tr.opt a) fun y351=>if 0<=y351.2.2.2.1 then bd (Tr.opt a) fun y352=>if y352.2.2.2.1<=1000 then bd (Tr.opt a) fun y353=>if(y353.2.1.length:Int)=0 then some true else bd (Tr.opt a) fun W=>bd (Tr.opt a) fun y355=>zb (((y355.2.1.length:Int))-1) fun x50=>zy x50 (W.2.1.length) fun j50=>nm (W.2.1.getD j50 0) fun y356=>if(y356:Int)=(((0:Nat):Nat):Int)then some false else some true else some false else some false else some false else nm (true==false) fun c63=>if c63 then bd (Tr.opt a) fun y357=>if 0<=y357.2.2.2.1 then bd (Tr.opt a) fun y358=>if y358.2.2.2.1<=1000 then bd (Tr.opt a) fun y359=>if(y359.2.1.length:Int)=0 then some true else bd (Tr.opt a) fun X=>bd (Tr.opt a) fun y361=>zb (((y361.2.1.length:Int))-1) fun x51=>zy x51 (X.2.1.length) fun j51=>nm (X.2.1.getD j51 0) fun y362=>if(y362:Int)=(((0:Nat):Nat):Int)then some false else some true else some false else some false else some false else bd (Tr.opt a) fun y363=>if(((97:Nat):Nat):Int)<=(y363.2.2.1:Int)then bd (Tr.opt a) fun y364=>if(y364.2.2.1:Int)<=(((122:Nat):Nat):Int)then nm (false==true) fun c64=>if c64 then bd (Tr.opt a) fun y365=>if 0<=y365.2.2.2.1 then bd (Tr.opt a) fun y366=>if y366.2.2.2.1<=1000 then bd (Tr.opt a) fun y367=>if(y367.2.1.length:Int)=0 then some true else bd (Tr.opt a) fun Y=>bd (Tr.opt a) fun y369=>zb (((y369.2.1.length:Int))-1) fun x52=>zy x52 (Y.2.1.length) fun j52=>nm (Y.2.1.getD j52 0) fun y370=>if(y370:Int)=(((0:Nat):Nat):Int)then some false else some true else some false else some false else some false else nm (false==false) fun c65=>if c65 then bd (Tr.opt a) fun y371=>if 0<=y371.2.2.2.1 then bd (Tr.opt a) fun y372=>if y372.2.2.2.1<=1000 then bd (Tr.opt a) fun y373=>if(y373.2.1.length:Int)=0 then some true else bd (Tr.opt a) fun Z=>bd (Tr.opt a) fun y375=>zb (((y375.2.1.length:Int))-1) fun x53=>zy x53 (Z.2.1.length) fun j53=>nm (Z.2.1.getD j53 0) fun y376=>if(y376:Int)=(((0:Nat):Nat):Int)then some false else some true else some false else some false else some false else nm (false==false) fun c66=>if c66 then bd (Tr.opt a) fun y377=>if 0<=y377.2.2.2.1 then bd (Tr.opt a) fun y378=>if y378.2.2.2.1<=1000 then bd (Tr.opt a) fun y379=>if(y379.2.1.length:Int)=0 then some true else bd (Tr.opt a) fun a1=>bd (Tr.opt a) fun y381=>zb (((y381.2.1.length:Int))-1) fun x54=>zy x54 (a1.2.1.length) fun j54=>nm (a1.2.1.getD j54 0) fun y382=>if(y382:Int)=(((0:Nat):Nat):Int)then some false else some true else some false else some false else some false else some false else nm (false==false) fun c67=>if c67 then bd (Tr.opt a) fun y383=>if(y383.1:Int)=(((118:Nat):Nat):Int)then bd (Tr.opt a) fun y384=>if(((97:Nat):Nat):Int)<=(y384.2.2.1:Int)then bd (Tr.opt a) fun y385=>if(y385.2.2.1:Int)<=(((122:Nat):Nat):Int)then nm (true==true) fun c68=>if c68 then bd (Tr.opt a) fun y386=>if 0<=y386.2.2.2.1 then bd (Tr.opt a) fun y387=>if y387.2.2.2.1<=1000 then bd (Tr.opt a) fun y388=>if(y388.2.1.length:Int)=0 then some true else bd (Tr.opt a) fun a2=>bd (Tr.opt a) fun y390=>zb (((y390.2.1.length:Int))-1) fun x55=>zy x55 (a2.2.1.length) fun j55=>nm (a2.2.1.getD j55 0) fun y391=>if(y391:Int)=(((0:Nat):Nat):Int)then some false else some true else some false else some false else some false else nm (true==false) fun c69=>if c69 then bd (Tr.opt a) fun y392=>if 0<=y392.2.2.2.1 then bd (Tr.opt a) fun y393=>if y393.2.2.2.1<=1000 then bd (Tr.opt a) fun y394=>if(y394.2.1.length:Int)=0 then some true else bd (Tr.opt a) fun a3=>bd (Tr.opt a) fun y396=>zb (((y396.2.1.length:Int))-1) fun x56=>zy x56 (a3.2.1.length) fun j56=>nm (a3.2.1.getD j56 0) fun y397=>if(y397:Int)=(((0:Nat):Nat):Int)then some false else some true else some false else some false else some false else nm (true==false) fun c70=>if c70 then bd (Tr.opt a) fun y398=>if 0<=y398.2.2.2.1 then bd (Tr.opt a) fun y399=>if y399.2.2.2.1<=1000 then bd (Tr.opt a) fun y400=>if(y400.2.1.length:Int)=0 then some true else bd (Tr.opt a) fun a4=>bd (Tr.opt a) fun y402=>zb (((y402.2.1.length:Int))-1) fun x57=>zy x57 (a4.2.1.length) fun j57=>nm (a4.2.1.getD j57 0) fun y403=>if(y403:Int)=(((0:Nat):Nat):Int)then some false else some true else some false else some false else some false else bd (Tr.opt a) fun y404=>if(((97:Nat):Nat):Int)<=(y404.2.2.1:Int)then bd (Tr.opt a) fun y405=>if(y405.2.2.1:Int)<=(((122:Nat):Nat):Int)then nm (false==true) fun c71=>if c71 then bd (Tr.opt a) fun y406=>if 0<=y406.2.2.2.1 then bd (Tr.opt a) fun y407=>if y407.2.2.2.1<=1000 then bd (Tr.opt a) fun y408=>if(y408.2.1.length:Int)=0 then some true else bd (Tr.opt a) fun a5=>bd (Tr.opt a) fun y410=>zb (((y410.2.1.length:Int))-1) fun x58=>zy x58 (a5.2.1.length) fun j58=>nm (a5.2.1.getD j58 0) fun y411=>if(y411:Int)=(((0:Nat):Nat):Int)then some false else some true else some false else some false else some false else nm (false==false) fun c72=>if c72 then bd (Tr.opt a) fun y412=>if 0<=y412.2.2.2.1 then bd (Tr.opt a) fun y413=>if y413.2.2.2.1<=1000 then bd (Tr.opt a) fun y414=>if(y414.2.1.length:Int)=0 then some true else bd (Tr.opt a) fun a6=>bd (Tr.opt a) fun y416=>zb (((y416.2.1.length:Int))-1) fun x59=>zy x59 (a6.2.1.length) fun j59=>nm (a6.2.1.getD j59 0) fun y417=>if(y417:Int)=(((0:Nat):Nat):Int)then some false else some true else some false else some false else some false else nm (false==false) fun c73=>if c73 then bd (Tr.opt a) fun y418=>if 0<=y418.2.2.2.1 then bd (Tr.opt a) fun y419=>if y419.2.2.2.1<=1000 then bd (Tr.opt a) fun y420=>if(y420.2.1.length:Int)=0 then some true else bd (Tr.opt a) fun a7=>bd (Tr.opt a) fun y422=>zb (((y422.2.1.length:Int))-1) fun x60=>zy x60 (a7.2.1.length) fun j60=>nm (a7.2.1.getD j60 0) fun y423=>if(y423:Int)=(((0:Nat):Nat):Int)then some false else some true else some false else some false else some false else some false else if 1<b then nm (true==true) fun c74=>if c74 then bd (Tr.opt a) fun y424=>if(y424.1:Int)=(((118:Nat):Nat):Int)then bd (Tr.opt a) fun y425=>if(((97:Nat):Nat):Int)<=(y425.2.2.1:Int)then bd (Tr.opt a) fun y426=>if(y426.2.2.1:Int)<=(((122:Nat):Nat):Int)then nm (true==true) fun c75=>if c75 then bd (Tr.opt a) fun y427=>if 0<=y427.2.2.2.1 then bd (Tr.opt a) fun y428=>if y428.2.2.2.1<=1000 then bd (Tr.opt a) fun y429=>if(y429.2.1.length:Int)=0 then some true else bd (Tr.opt a) fun a8=>bd (Tr.opt a) fun y431=>zb (((y431.2.1.length:Int))-1) fun x61=>zy x61 (a8.2.1.length) fun j61=>nm (a8.2.1.getD j61 0) fun y432=>if(y432:Int)=(((0:Nat):Nat):Int)then some false else some true else some false else some false else some false else nm (true==false) fun c76=>if c76 then bd (Tr.opt a) fun y433=>if 0<=y433.2.2.2.1 then bd (Tr.opt a) fun y434=>if y434.2.2.2.1<=1000 then bd (Tr.opt a) fun y435=>if(y435.2.1.length:Int)=0 then some true else bd (Tr.opt a) fun a9=>bd (Tr.opt a) fun y437=>zb (((y437.2.1.length:Int))-1) fun x62=>zy x62 (a9.2.1.length) fun j62=>nm (a9.2.1.getD j62 0) fun y438=>if(y438:Int)=(((0:Nat):Nat):Int)then some false else some true else some false else some false else some false else nm (true==false) fun c77=>if c77 then bd (Tr.opt a) fun y439=>if 0<=y439.2.2.2.1 then bd (Tr.opt a) fun y440=>if y440.2.2.2.1<=1000 then bd (Tr.opt a) fun y441=>if(y441.2.1.length:Int)=0 then some true else bd (Tr.opt a) fun b0=>bd (Tr.opt a) fun y443=>zb (((y443.2.1.length:Int))-1) fun x63=>zy x63 (b0.2.1.length) fun j63=>nm (b0.2.1.getD j63 0) fun y444=>if(y444:Int)=(((0:Nat):Nat):Int)then some false else some true else some false else some false else some false else bd (Tr.opt a) fun y445=>if(((97:Nat):Nat):Int)<=(y445.2.2.1:Int)then bd (Tr.opt a) fun y446=>if(y446.2.2.1:Int)<=(((122:Nat):Nat):Int)then nm (false==true) fun c78=>if c78 then bd (Tr.opt a) fun y447=>if 0<=y447.2.2.2.1 then bd (Tr.opt a) fun y448=>if y448.2.2.2.1<=1000 then bd (Tr.opt a) fun y449=>if(y449.2.1.length:Int)=0 then some true else bd (Tr.opt a) fun b6=>bd (Tr.opt a) fun y451=>zb (((y451.2.1.length:Int))-1) fun x64=>zy x64 (b6.2.1.length) fun j64=>nm (b6.2.1.getD j64 0) fun y452=>if(y452:Int)=(((0:Nat):Nat):Int)then some false else some true else some false else some false else some false else nm (false==false) fun c79=>if c79 then bd (Tr.opt a) fun y453=>if 0<=y453.2.2.2.1 then bd (Tr.opt a) fun y454=>if y454.2.2.2.1<=1000 then bd (Tr.opt a) fun y455=>if(y455.2.1.length:Int)=0 then some true else bd (Tr.opt a) fun b7=>bd (Tr.opt a) fun y457=>zb (((y457.2.1.length:Int))-1) fun x65=>zy x65 (b7.2.1.length) fun j65=>nm (b7.2.1.getD j65 0) fun y458=>if(y458:Int)=(((0:Nat):Nat):Int)then some false else some true else some false else some false else some false else nm (false==false) fun c80=>if c80 then bd (Tr.opt a) fun y459=>if 0<=y459.2.2.2.1 then bd (Tr.opt a) fun y460=>if y460.2.2.2.1<=1000 then bd (Tr.opt a) fun y461=>if(y461.2.1.length:Int)=0 then some true else bd (Tr.opt a) fun b8=>bd (Tr.opt a) fun y463=>zb (((y463.2.1.length:Int))-1) fun x66=>zy x66 (b8.2.1.length) fun j66=>nm (b8.2.1.getD j66 0) fun y464=>if(y464:Int)=(((0:Nat):Nat):Int)then some false else some true else some false else some false else some false else some false else nm (true==false) fun c81=>if c81 then bd (Tr.opt a) fun y465=>if(y465.1:Int)=(((118:Nat):Nat):Int)then bd (Tr.opt a) fun y466=>if(((97:Nat):Nat):Int)<=(y466.2.2.1:Int)then bd (Tr.opt a) fun y467=>if(y467.2.2.1:Int)<=(((122:Nat):Nat):Int)then nm (true==true) fun c82=>if c82 then bd (Tr.opt a) fun y468=>if 0<=y468.2.2.2.1 then bd (Tr.opt a) fun y469=>if y469.2.2.2.1<=1000 then bd (Tr.opt a) fun y470=>if(y470.2.1.length:Int)=0 then some true else bd (Tr.opt a) fun b9=>bd (Tr.opt a) fun y472=>zb (((y472.2.1.length:Int))-1) fun x67=>zy x67 (b9.2.1.length) fun j67=>nm (b9.2.1.getD j67 0) fun y473=>if(y473:Int)=(((0:Nat):Nat):Int)then some false else some true else some false else some false else some false else nm (true==false) fun c83=>if c83 then bd (Tr.opt a) fun y474=>if 0<=y474.2.2.2.1 then bd (Tr.opt a) fun y475=>if y475.2.2.2.1<=1000 then bd (Tr.opt a) fun y476=>if(y476.2.1.length:Int)=0 then some true else bd (Tr.opt a) fun c0=>bd (Tr.opt a) fun y478=>zb (((y478.2.1.length:Int))-1) fun x68=>zy x68 (c0.2.1.length) fun j68=>nm (c0.2.1.getD j68 0) fun y479=>if(y479:Int)=(((0:Nat):Nat):Int)then some false else some true else some false else some false else some false else nm (true==false) fun c84=>if c84 then bd (Tr.opt a) fun y480=>if 0<=y480.2.2.2.1 then bd (Tr.opt a) fun y481=>if y481.2.2.2.1<=1000 then bd (Tr.opt a) fun y482=>if(y482.2.1.length:Int)=0 then some true else bd (Tr.opt a) fun d0=>bd (Tr.opt a) fun y484=>zb (((y484.2.1.length:Int))-1) fun x69=>zy x69 (d0.2.1.length) fun j69=>nm (d0.2.1.getD j69 0) fun y485=>if(y485:Int)=(((0:Nat):Nat):Int)then some false else some true else some false else some false else some false else bd (Tr.opt a) fun y486=>if(((97:Nat):Nat):Int)<=(y486.2.2.1:Int)then bd (Tr.opt a) fun y487=>if(y487.2.2.1:Int)<=(((122:Nat):Nat):Int)then nm (false==true) fun c85=>if c85 then bd (Tr.opt a) fun y488=>if 0<=y488.2.2.2.1 then bd (Tr.opt a) fun y489=>if y489.2.2.2.1<=1000 then bd (Tr.opt a) fun y490=>if(y490.2.1.length:Int)=0 then some true else bd (Tr.opt a) fun d1=>bd (Tr.opt a) fun y492=>zb (((y492.2.1.length:Int))-1) fun x70=>zy x70 (d1.2.1.length) fun j70=>nm (d1.2.1.getD j70 0) fun y493=>if(y493:Int)=(((0:Nat):Nat):Int)then some false else some true else some false else some false else some false else nm (false==false) fun c86=>if c86 then bd (Tr.opt a) fun y494=>if 0<=y494.2.2.2.1 then bd (Tr.opt a) fun y495=>if y495.2.2.2.1<=1000 then bd (Tr.opt a) fun y496=>if(y496.2.1.length:Int)=0 then some true else bd (Tr.opt a) fun d2=>bd (Tr.opt a) fun y498=>zb (((y498.2.1.length:Int))-1) fun x71=>zy x71 (d2.2.1.length) fun j71=>nm (d2.2.1.getD j71 0) fun y499=>if(y499:Int)=(((0:Nat):Nat):Int)then some false else some true else some false else some false else some false else nm (false==false) fun c87=>if c87 then bd (Tr.opt a) fun y500=>if 0<=y500.2.2.2.1 then bd (Tr.opt a) fun y501=>if y501.2.2.2.1<=1000 then bd (Tr.opt a) fun y502=>if(y502.2.1.length:Int)=0 then some true else bd (Tr.opt a) fun d3=>bd (Tr.opt a) fun y504=>zb (((y504.2.1.length:Int))-1) fun x72=>zy x72 (d3.2.1.length) fun j72=>nm (d3.2.1.getD j72 0) fun y505=>if(y505:Int)=(((0:Nat):Nat):Int)then some false else some true else some false else some false else some false else some false else some false else nm (true==false) fun c88=>if c88 then bd (Tr.opt a) fun y506=>if Tr.isNil y506.2.2.2.2.2=true then if 1<b then nm (false==true) fun c89=>if c89 then bd (Tr.opt a) fun y507=>if(y507.1:Int)=(((118:Nat):Nat):Int)then bd (Tr.opt a) fun y508=>if(((97:Nat):Nat):Int)<=(y508.2.2.1:Int)then bd (Tr.opt a) fun y509=>if(y509.2.2.1:Int)<=(((122:Nat):Nat):Int)then nm (true==true) fun c90=>if c90 then bd (Tr.opt a) fun y510=>if 0<=y510.2.2.2.1 then bd (Tr.opt a) fun y511=>if y511.2.2.2.1<=1000 then bd (Tr.opt a) fun y512=>if(y512.2.1.length:Int)=0 then some true else bd (Tr.opt a) fun d4=>bd (Tr.opt a) fun y514=>zb (((y514.2.1.length:Int))-1) fun x73=>zy x73 (d4.2.1.length) fun j73=>nm (d4.2.1.getD j73 0) fun y515=>if(y515:Int)=(((0:Nat):Nat):Int)then some false else some true else some false else some false else some false else nm (true==false) fun c91=>if c91 then bd (Tr.opt a) fun y516=>if 0<=y516.2.2.2.1 then bd (Tr.opt a) fun y517=>if y517.2.2.2.1<=1000 then bd (Tr.opt a) fun y518=>if(y518.2.1.length:Int)=0 then some true else bd (Tr.opt a) fun d5=>bd (Tr.opt a) fun y520=>zb (((y520.2.1.length:Int))-1) fun x74=>zy x74 (d5.2.1.length) fun j74=>nm (d5.2.1.getD j74 0) fun y521=>if(y521:Int)=(((0:Nat):Nat):Int)then some false else some true else some false else some false else some false else nm (true==false) fun c92=>if c92 then bd (Tr.opt a) fun y522=>if 0<=y522.2.2.2.1 then bd (Tr.opt a) fun y523=>if y523.2.2.2.1<=1000 then bd (Tr.opt a) fun y524=>if(y524.2.1.length:Int)=0 then some true else bd (Tr.opt a) fun d6=>bd (Tr.opt a) fun y526=>zb (((y526.2.1.length:Int))-1) fun x75=>zy x75 (d6.2.1.length) fun j75=>nm (d6.2.1.getD j75 0) fun y527=>if(y527:Int)=(((0:Nat):Nat):Int)then some false else some true else some false else some false else some false else bd (Tr.opt a) fun y528=>if(((97:Nat):Nat):Int)<=(y528.2.2.1:Int)then bd (Tr.opt a) fun y529=>if(y529.2.2.1:Int)<=(((122:Nat):Nat):Int)then nm (false==true) fun c93=>if c93 then bd (Tr.opt a) fun y530=>if 0<=y530.2.2.2.1 then bd (Tr.opt a) fun y531=>if y531.2.2.2.1<=1000 then bd (Tr.opt a) fun y532=>if(y532.2.1.length:Int)=0 then some true else bd (Tr.opt a) fun d7=>bd (Tr.opt a) fun y534=>zb (((y534.2.1.length:Int))-1) fun x76=>zy x76 (d7.2.1.length) fun j76=>nm (d7.2.1.getD j76 0) fun y535=>if(y535:Int)=(((0:Nat):Nat):Int)then some false else some true else some false else some false else some false else nm (false==false) fun c94=>if c94 then bd (Tr.opt a) fun y536=>if 0<=y536.2.2.2.1 then bd (Tr.opt a) fun y537=>if y537.2.2.2.1<=1000 then bd (Tr.opt a) fun y538=>if(y538.2.1.length:Int)=0 then some true else bd (Tr.opt a) fun d8=>bd (Tr.opt a) fun y540=>zb (((y540.2.1.length:Int))-1) fun x77=>zy x77 (d8.2.1.length) fun j77=>nm (d8.2.1.getD j77 0) fun y541=>if(y541:Int)=(((0:Nat):Nat):Int)then some false else some true else some false else some false else some false else nm (false==false) fun c95=>if c95 then bd (Tr.opt a) fun y542=>if 0<=y542.2.2.2.1 then bd (Tr.opt a) fun y543=>if y543.2.2.2.1<=1000 then bd (Tr.opt a) fun y544=>if(y544.2.1.length:Int)=0 then some true else bd (Tr.opt a) fun d9=>bd (Tr.opt a) fun y546=>zb (((y546.2.1.length:Int))-1) fun x78=>zy x78 (d9.2.1.length) fun j78=>nm (d9.2.1.getD j78 0) fun y547=>if(y547:Int)=(((0:Nat):Nat):Int)then some false else some true else some false else some false else some false else some false else nm (false==false) fun c96=>if c96 then bd (Tr.opt a) fun y548=>if(y548.1:Int)=(((118:Nat):Nat):Int)then bd (Tr.opt a) fun y549=>if(((97:Nat):Nat):Int)<=(y549.2.2.1:Int)then bd (Tr.opt a) fun y550=>if(y550.2.2.1:Int)<=(((122:Nat):Nat):Int)then nm (true==true) fun c97=>if c97 then bd (Tr.opt a) fun y551=>if 0<=y551.2.2.2.1 then bd (Tr.opt a) fun y552=>if y552.2.2.2.1<=1000 then bd (Tr.opt a) fun y553=>if(y553.2.1.length:Int)=0 then some true else bd (Tr.opt a) fun e0=>bd (Tr.opt a) fun y555=>zb (((y555.2.1.length:Int))-1) fun x79=>zy x79 (e0.2.1.length) fun j79=>nm (e0.2.1.getD j79 0) fun y556=>if(y556:Int)=(((0:Nat):Nat):Int)then some false else some true else some false else some false else some false else nm (true==false) fun c98=>if c98 then bd (Tr.opt a) fun y557=>if 0<=y557.2.2.2.1 then bd (Tr.opt a) fun y558=>if y558.2.2.2.1<=1000 then bd (Tr.opt a) fun y559=>if(y559.2.1.length:Int)=0 then some true else bd (Tr.opt a) fun e1=>bd (Tr.opt a) fun y561=>zb (((y561.2.1.length:Int))-1) fun x80=>zy x80 (e1.2.1.length) fun j80=>nm (e1.2.1.getD j80 0) fun y562=>if(y562:Int)=(((0:Nat):Nat):Int)then some false else some true else some false else some false else some false else nm (true==false) fun c99=>if c99 then bd (Tr.opt a) fun y563=>if 0<=y563.2.2.2.1 then bd (Tr.opt a) fun y564=>if y564.2.2.2.1<=1000 then bd (Tr.opt a) fun y565=>if(y565.2.1.length:Int)=0 then some true else bd (Tr.opt a) fun e2=>bd (Tr.opt a) fun y567=>zb (((y567.2.1.length:Int))-1) fun x81=>zy x81 (e2.2.1.length) fun j81=>nm (e2.2.1.getD j81 0) fun y568=>if(y568:Int)=(((0:Nat):Nat):Int)then some false else some true else some false else some false else some false else bd (Tr.opt a) fun y569=>if(((97:Nat):Nat):Int)<=(y569.2.2.1:Int)then bd (Tr.opt a) fun y570=>if(y570.2.2.1:Int)<=(((122:Nat):Nat):Int)then nm (false==true) fun c100=>if c100 then bd (Tr.opt a) fun y571=>if 0<=y571.2.2.2.1 then bd (Tr.opt a) fun y572=>if y572.2.2.2.1<=1000 then bd (Tr.opt a) fun y573=>if(y573.2.1.length:Int)=0 then some true else bd (Tr.opt a) fun e3=>bd (Tr.opt a) fun y575=>zb (((y575.2.1.length:Int))-1) fun x82=>zy x82 (e3.2.1.length) fun j82=>nm (e3.2.1.getD j82 0) fun y576=>if(y576:Int)=(((0:Nat):Nat):Int)then some false else some true else some false else some false else some false else nm (false==false) fun c101=>if c101 then bd (Tr.opt a) fun y577=>if 0<=y577.2.2.2.1 then bd (Tr.opt a) fun y578=>if y578.2.2.2.1<=1000 then bd (Tr.opt a) fun y579=>if(y579.2.1.length:Int)=0 then some true else bd (Tr.opt a) fun e4=>bd (Tr.opt a) fun y581=>zb (((y581.2.1.length:Int))-1) fun x83=>zy x83 (e4.2.1.length) fun j83=>nm (e4.2.1.getD j83 0) fun y582=>if(y582:Int)=(((0:Nat):Nat):Int)then some false else some true else some false else some false else some false else nm (false==false) fun c102=>if c102 then bd (Tr.opt a) fun y583=>if 0<=y583.2.2.2.1 then bd (Tr.opt a) fun y584=>if y584.2.2.2.1<=1000 then bd (Tr.opt a) fun y585=>if(y585.2.1.length:Int)=0 then some true else bd (Tr.opt a) fun e5=>bd (Tr.opt a) fun y587=>zb (((y587.2.1.length:Int))-1) fun x84=>zy x84 (e5.2.1.length) fun j84=>nm (e5.2.1.getD j84 0) fun y588=>if(y588:Int)=(((0:Nat):Nat):Int)then some false else some true else some false else some false else some false else some false else if 1<b then nm (true==true) fun c103=>if c103 then bd (Tr.opt a) fun y589=>if(y589.1:Int)=(((118:Nat):Nat):Int)then bd (Tr.opt a) fun y590=>if(((97:Nat):Nat):Int)<=(y590.2.2.1:Int)then bd (Tr.opt a) fun y591=>if(y591.2.2.1:Int)<=(((122:Nat):Nat):Int)then nm (true==true) fun c104=>if c104 then bd (Tr.opt a) fun y592=>if 0<=y592.2.2.2.1 then bd (Tr.opt a) fun y593=>if y593.2.2.2.1<=1000 then bd (Tr.opt a) fun y594=>if(y594.2.1.length:Int)=0 then some true else bd (Tr.opt a) fun e6=>bd (Tr.opt a) fun y596=>zb (((y596.2.1.length:Int))-1) fun x85=>zy x85 (e6.2.1.length) fun j85=>nm (e6.2.1.getD j85 0) fun y597=>if(y597:Int)=(((0:Nat):Nat):Int)then some false else some true else some false else some false else some false else nm (true==false) fun c105=>if c105 then bd (Tr.opt a) fun y598=>if 0<=y598.2.2.2.1 then bd (Tr.opt a) fun y599=>if y599.2.2.2.1<=1000 then bd (Tr.opt a) fun y600=>if(y600.2.1.length:Int)=0 then some true else bd (Tr.opt a) fun e7=>bd (Tr.opt a) fun y602=>zb (((y602.2.1.length:Int))-1) fun x86=>zy x86 (e7.2.1.length) fun j86=>nm (e7.2.1.getD j86 0) fun y603=>if(y603:Int)=(((0:Nat):Nat):Int)then some false else some true else some false else some false else some false else nm (true==false) fun c106=>if c106 then bd (Tr.opt a) fun y604=>if 0<=y604.2.2.2.1 then bd (Tr.opt a) fun y605=>if y605.2.2.2.1<=1000 then bd (Tr.opt a) fun y606=>if(y606.2.1.length:Int)=0 then some true else bd (Tr.opt a) fun e8=>bd (Tr.opt a) fun y608=>zb (((y608.2.1.length:Int))-1) fun x87=>zy x87 (e8.2.1.length) fun j87=>nm (e8.2.1.getD j87 0) fun y609=>if(y609:Int)=(((0:Nat):Nat):Int)then some false else some true else some false else some false else some false else bd (Tr.opt a) fun y610=>if(((97:Nat):Nat):Int)<=(y610.2.2.1:Int)then bd (Tr.opt a) fun y611=>if(y611.2.2.1:Int)<=(((122:Nat):Nat):Int)then nm (false==true) fun c107=>if c107 then bd (Tr.opt a) fun y612=>if 0<=y612.2.2.2.1 then bd (Tr.opt a) fun y613=>if y613.2.2.2.1<=1000 then bd (Tr.opt a) fun y614=>if(y614.2.1.length:Int)=0 then some true else bd (Tr.opt a) fun e9=>bd (Tr.opt a) fun y616=>zb (((y616.2.1.length:Int))-1) fun x88=>zy x88 (e9.2.1.length) fun j88=>nm (e9.2.1.getD j88 0) fun y617=>if(y617:Int)=(((0:Nat):Nat):Int)then some false else some true else some false else some false else some false else nm (false==false) fun c108=>if c108 then bd (Tr.opt a) fun y618=>if 0<=y618.2.2.2.1 then bd (Tr.opt a) fun y619=>if y619.2.2.2.1<=1000 then bd (Tr.opt a) fun y620=>if(y620.2.1.length:Int)=0 then some true else bd (Tr.opt a) fun g0=>bd (Tr.opt a) fun y622=>zb (((y622.2.1.length:Int))-1) fun x89=>zy x89 (g0.2.1.length) fun j89=>nm (g0.2.1.getD j89 0) fun y623=>if(y623:Int)=(((0:Nat):Nat):Int)then some false else some true else some false else some false else some false else nm (false==false) fun c109=>if c109 then bd (Tr.opt a) fun y624=>if 0<=y624.2.2.2.1 then bd (Tr.opt a) fun y625=>if y625.2.2.2.1<=1000 then bd (Tr.opt a) fun y626=>if(y626.2.1.length:Int)=0 then some true else bd (Tr.opt a) fun g1=>bd (Tr.opt a) fun y628=>zb (((y628.2.1.length:Int))-1) fun x90=>zy x90 (g1.2.1.length) fun j90=>nm (g1.2.1.getD j90 0) fun y629=>if(y629:Int)=(((0:Nat):Nat):Int)then some false else some true else some false else some false else some false else some false else nm (true==false) fun c110=>if c110 then bd (Tr.opt a) fun y630=>if(y630.1:Int)=(((118:Nat):Nat):Int)then bd (Tr.opt a) fun y631=>if(((97:Nat):Nat):Int)<=(y631.2.2.1:Int)then bd (Tr.opt a) fun y632=>if(y632.2.2.1:Int)<=(((122:Nat):Nat):Int)then nm (true==true) fun c111=>if c111 then bd (Tr.opt a) fun y633=>if 0<=y633.2.2.2.1 then bd (Tr.opt a) fun y634=>if y634.2.2.2.1<=1000 then bd (Tr.opt a) fun y635=>if(y635.2.1.length:Int)=0 then some true else bd (Tr.opt a) fun g2=>bd (Tr.opt a) fun y637=>zb (((y637.2.1.length:Int))-1) fun x91=>zy x91 (g2.2.1.length) fun j91=>nm (g2.2.1.getD j91 0) fun y638=>if(y638:Int)=(((0:Nat):Nat):Int)then some false else some true else some false else some false else some false else nm (true==false) fun c112=>if c112 then bd (Tr.opt a) fun y639=>if 0<=y639.2.2.2.1 then bd (Tr.opt a) fun y640=>if y640.2.2.2.1<=1000 then bd (Tr.opt a) fun y641=>if(y641.2.1.length:Int)=0 then some true else bd (Tr.opt a) fun g3=>bd (Tr.opt a) fun y643=>zb (((y643.2.1.length:Int))-1) fun x92=>zy x92 (g3.2.1.length) fun j92=>nm (g3.2.1.getD j92 0) fun y644=>if(y644:Int)=(((0:Nat):Nat):Int)then some false else some true else some false else some false else some false else nm (true==false) fun c113=>if c113 then bd (Tr.opt a) fun y645=>if 0<=y645.2.2.2.1 then bd (Tr.opt a) fun y646=>if y646.2.2.2.1<=1000 then bd (Tr.opt a) fun y647=>if(y647.2.1.length:Int)=0 then some true else bd (Tr.opt a) fun g4=>bd (Tr.opt a) fun y649=>zb (((y649.2.1.length:Int))-1) fun x93=>zy x93 (g4.2.1.length) fun j93=>nm (g4.2.1.getD j93 0) fun y650=>if(y650:Int)=(((0:Nat):Nat):Int)then some false else some true else some false else some false else some false else bd (Tr.opt a) fun y651=>if(((97:Nat):Nat):Int)<=(y651.2.2.1:Int)then bd (Tr.opt a) fun y652=>if(y652.2.2.1:Int)<=(((122:Nat):Nat):Int)then nm (false==true) fun c114=>if c114 then bd (Tr.opt a) fun y653=>if 0<=y653.2.2.2.1 then bd (Tr.opt a) fun y654=>if y654.2.2.2.1<=1000 then bd (Tr.opt a) fun y655=>if(y655.2.1.length:Int)=0 then some true else bd (Tr.opt a) fun g5=>bd (Tr.opt a) fun y657=>zb (((y657.2.1.length:Int))-1) fun x94=>zy x94 (g5.2.1.length) fun j94=>nm (g5.2.1.getD j94 0) fun y658=>if(y658:Int)=(((0:Nat):Nat):Int)then some false else some true else some false else some false else some false else nm (false==false) fun c115=>if c115 then bd (Tr.opt a) fun y659=>if 0<=y659.2.2.2.1 then bd (Tr.opt a) fun y660=>if y660.2.2.2.1<=1000 then bd (Tr.opt a) fun y661=>if(y661.2.1.length:Int)=0 then some true else bd (Tr.opt a) fun g6=>bd (Tr.opt a) fun y663=>zb (((y663.2.1.length:Int))-1) fun x95=>zy x95 (g6.2.1.length) fun j95=>nm (g6.2.1.getD j95 0) fun y664=>if(y664:Int)=(((0:Nat):Nat):Int)then some false else some true else some false else some false else some false else nm (false==false) fun c116=>if c116 then bd (Tr.opt a) fun y665=>if 0<=y665.2.2.2.1 then bd (Tr.opt a) fun y666=>if y666.2.2.2.1<=1000 then bd (Tr.opt a) fun y667=>if(y667.2.1.length:Int)=0 then some true else bd (Tr.opt a) fun g7=>bd (Tr.opt a) fun y669=>zb (((y669.2.1.length:Int))-1) fun x96=>zy x96 (g7.2.1.length) fun j96=>nm (g7.2.1.getD j96 0) fun y670=>if(y670:Int)=(((0:Nat):Nat):Int)then some false else some true else some false else some false else some false else some false else some false else some false
 |.inr _=>some false
def kC(fu:Nat)(a:Int):Option (List Nat):=Kh a
def zB:Nat->((List Nat)×(Int×(Int×Bool)))->List Nat->Tr->Option (((List Nat)×(Int×(Int×Bool)))×List Nat)
 |0,_,_,_=>none
 |fu+1,g,d,a=>zb (g.2.1-1) fun U=>nm ((g.1,(U,g.2.2))) fun b=>bd ((if b.2.2.2=true then nm ((b.1,(b.2.1,(b.2.2.1,true)))) fun h=>if h.2.2.2=true then some (.inr (h,d))else some (.inl (h,d))else if b.2.1<0 then nm ((b.1,(b.2.1,(b.2.2.1,true)))) fun t3=>if t3.2.2.2=true then some (.inr (t3,d))else some (.inl (t3,d))else bd (va fu a) fun V=>nm ((b.1,(b.2.1,(b.2.2.1,(!V))))) fun i=>if i.2.2.2=true then some (.inr (i,d))else some (.inl (i,d)):Option ((((List Nat)×(Int×(Int×Bool)))×(List Nat))⊕(((List Nat)×(Int×(Int×Bool)))×(List Nat))))) fun W=>match W with
  |.inl t5=>bd (Tr.opt a) fun e=>bd ((if(e.1:Int)=(((110:Nat):Nat):Int)then some true else some false:Option Bool)) fun X=>if X then bd (Tr.opt a) fun Y=>bd (xc fu t5.1 t5.2 Y.2.1) fun(Z,t6)=>some (Z,t6)else bd ((if(e.1:Int)=(((118:Nat):Nat):Int)then some true else some false:Option Bool)) fun b2=>if b2 then bd (Tr.opt a) fun y4=>bd (zI fu t5.1 t5.2 [y4.2.2.1]) fun(y5,t7)=>some (y5,t7)else bd ((if(e.1:Int)=(((126:Nat):Nat):Int)then some true else some false:Option Bool)) fun b3=>if b3 then bd (zI fu t5.1 t5.2 [45]) fun(y6,t8)=>bd (Tr.opt a) fun y7=>bd (zJ (zB fu) fu y6 t8 y7.2.2.2.2.1 (2:Int)) fun(y8,t9)=>some (y8,t9)else bd ((if(e.1:Int)=(((94:Nat):Nat):Int)then some true else some false:Option Bool)) fun b4=>if b4 then bd (Tr.opt a) fun y9=>bd (zJ (zB fu) fu t5.1 t5.2 y9.2.2.2.2.1 (0:Int)) fun(j,k)=>bd (Tr.opt a) fun l=>bd (kC fu l.2.2.2.1) fun f=>ck (([94]).length+f.length<=9223372036854775807)<|nm (([94])++f) fun m=>bd (zI fu j k m) fun(o,p)=>some (o,p)else bd ((if(e.1:Int)=(((47:Nat):Nat):Int)then some true else some false:Option Bool)) fun b5=>if b5 then bd (Tr.opt a) fun q=>bd (zJ (zB fu) fu t5.1 t5.2 q.2.2.2.2.1 (2:Int)) fun(r,s)=>bd (zI fu r s [47]) fun(t,u)=>bd (Tr.opt a) fun v=>bd (xc fu t u v.2.1) fun(w,x)=>some (w,x)else bd ((if(e.1:Int)=(((42:Nat):Nat):Int)then some true else some false:Option Bool)) fun b6=>if b6 then bd (Tr.opt a) fun y=>bd (zJ (zB fu) fu t5.1 t5.2 y.2.2.2.2.1 (2:Int)) fun(A,B)=>bd (zI fu A B [42]) fun(C,E)=>bd (Tr.opt a) fun G=>bd (zJ (zB fu) fu C E G.2.2.2.2.2 (1:Int)) fun(H,I)=>some (H,I)else bd (Tr.opt a) fun J=>bd (zJ (zB fu) fu t5.1 t5.2 J.2.2.2.2.1 (3:Int)) fun(K,M)=>bd (Tr.opt a) fun N=>bd (zI fu K M [N.1]) fun(O,P)=>bd (Tr.opt a) fun Q=>bd (zJ (zB fu) fu O P Q.2.2.2.2.2 (2:Int)) fun(R,S)=>some (R,S)
  |.inr gM=>some (gM.1,gM.2)
def vT(a:Tr):Option (List Nat):=if Tr.isNil a=true then some []else bd (zB fu (([],((4096:Int),(0,false)))) ([]:List Nat) a) fun(b,d)=>if b.2.2.2=true then some []else some d
def jl:Option Bool:=bd (wX fu [32,40,32,120,43,49,32,41,32,94,50,42,121,32] (1:Int)) fun(a,b,d)=>bd (wX fu [120,47,121] (3:Int)) fun(h,e,f)=>if d=0 then if b=14 then bd (vT fu a) fun g=>if g=[40,120,43,49,41,94,50,42,121]then if f=2 then if e=2 then some true else some false else some false else some false else some false else some false
def xP:Nat->Tr->Int->Option Tr
 |0,_,_=>none
 |fu+1,a,b=>if Tr.isNil a=true then some Tr.nil else if b<=0 then some Tr.nil else bd (Tr.opt a) fun d=>bd (Tr.opt a) fun e=>bd (Tr.opt a) fun f=>bd (Tr.opt a) fun g=>bd (Tr.opt a) fun h=>zb (b-1) fun i=>bd (xP fu h.2.2.2.2.1 i) fun j=>bd (Tr.opt a) fun k=>zb (b-1) fun l=>bd (xP fu k.2.2.2.2.2 l) fun m=>some<|(Tr.un (d.1,e.2.1,f.2.2.1,g.2.2.2.1,j,m))
def Z6(fu:Nat)(b:List Nat)(d:List Nat):(Int->Option (Unit⊕Unit))->Int->Option (Unit⊕Unit):=fun L a=>if a<(b.length:Int)then zy a (b.length) fun e=>nm (b.getD e 0) fun f=>zy a (d.length) fun g=>nm (d.getD g 0) fun h=>if(f:Int)=(h:Int)then zb (a+1) fun i=>L i else some (.inr ())else some (.inl ())
def ke(a:List Nat)(b:List Nat):Option Bool:=if(a.length:Int)=(b.length:Int)then bd (zn (Z6 fu a b) fu (0:Int)) fun d=>match d with
 |.inl _=>some true
 |.inr _=>some false else some false
def vX:Nat->Tr->Tr->Option Bool
 |0,_,_=>none
 |fu+1,a,b=>if Tr.isNil a=true then if Tr.isNil a=true then if Tr.isNil b=true then some true else some false else some false else if Tr.isNil b=true then if Tr.isNil a=true then if Tr.isNil b=true then some true else some false else some false else bd (Tr.opt a) fun g=>bd (Tr.opt b) fun h=>if(g.1:Int)=(h.1:Int)then bd (Tr.opt a) fun i=>bd (Tr.opt b) fun j=>if(i.2.2.1:Int)=(j.2.2.1:Int)then bd (Tr.opt a) fun k=>bd (Tr.opt b) fun l=>if k.2.2.2.1=l.2.2.2.1 then bd (Tr.opt a) fun m=>bd (Tr.opt b) fun o=>bd (ke fu m.2.1 o.2.1) fun p=>if p then bd (Tr.opt a) fun q=>bd (Tr.opt b) fun d=>bd (vX fu q.2.2.2.2.1 d.2.2.2.2.1) fun r=>if r then bd (Tr.opt a) fun e=>bd (Tr.opt b) fun f=>bd (vX fu e.2.2.2.2.2 f.2.2.2.2.2) fun s=>some s else some false else some false else some false else some false else some false
def vm(a:Nat):Option Int:=bd (xl fu a) fun b=>some b
def vW(fu:Nat)(a:Nat):Option Bool:=if(a:Int)=(a:Int)then some false else some true
def zp(a:Nat)(b:Nat):Option Bool:=bd (vW fu a) fun d=>if d then bd (vW fu b) fun e=>if !e then some true else if(a:Int)<(b:Int)then some true else some false else if(a:Int)<(b:Int)then some true else some false
def xU(fu:Nat)(a:Nat):Option (Nat×Nat):=nm (a*2^(min (((13:Nat)):Int).toNat 64)%18446744073709551616) fun f=>nm (a^^^f) fun b=>nm (b/2^(min (((7:Nat)):Int).toNat 64)) fun g=>nm (b^^^g) fun d=>nm (d*2^(min (((17:Nat)):Int).toNat 64)%18446744073709551616) fun h=>nm (d^^^h) fun e=>some (e,e)
def xC(b:Int):Option Nat:=nm (Jx b) fun d=>bd (vm fu d) fun a=>ck (0<=a)<|nm (((1:Nat))*2^(min (a:Int).toNat 64)%18446744073709551616) fun e=>some e
def yg(f:Int)(d:Int)(g:Nat):((Int×(List Nat)×Nat)->Option (List Nat))->(Int×(List Nat)×Nat)->Option (List Nat):=fun L (e,a,o)=>ck ((4:Int)≠0)<|zb (SW d (4:Int)) fun p=>zb (p*(2:Int)) fun q=>zb (f+q) fun r=>zb (r+1) fun s=>if e<=s then bd (xU fu o) fun(t,u)=>nm ((g+18446744073709551616-((1:Nat)))%18446744073709551616) fun v=>nm (t &&& v) fun w=>nm (Ak w) fun b=>bd ((if d<=b then zb (b-d) fun h=>some (f,d,g,h)else some (f,d,g,b):Option (Int×Int×Nat×Int))) fun(l,H,I,m)=>zb (l+m) fun i=>zb (l+m) fun j=>zy j (a.length) fun x=>nm ((a.getD x 0)) fun y=>zy e (a.length) fun A=>nm ((a.getD A 0)) fun B=>zy e (a.length) fun C=>nm (a.set C y) fun t3=>zy i (t3.length) fun E=>nm (t3.set E B) fun G=>zb (e+1) fun k=>L (k,G,u)else some a
def zU(d:List Nat)(b:Int)(e:Int):Option (List Nat):=zb (e-b) fun a=>bd ((if 8<=a then some true else some false:Option Bool)) fun f=>if f then nm (Jx a) fun g=>bd (xC fu a) fun h=>ck ((4:Int)≠0)<|zb (SW a (4:Int)) fun i=>zb (i*(2:Int)) fun j=>zb (b+j) fun k=>zb (k-1) fun l=>bd (zn (yg fu b a h) fu (l,d,g)) fun t5=>some t5 else some d
def z6(a:List Nat)(b:Int)(d:Int)(e:Int):Option (Int×Int×(List Nat)×Int):=zy d (a.length) fun f=>nm ((a.getD f 0)) fun g=>zy b (a.length) fun h=>nm ((a.getD h 0)) fun i=>bd (zp fu g i) fun j=>if j then zb (e+1) fun k=>some (d,b,a,k)else some (b,d,a,e)
def zZ(a:List Nat)(b:Int)(d:Int)(e:Int)(f:Int):Option (Int×(List Nat)×Int):=bd (z6 fu a b d f) fun(g,h,i,j)=>bd (z6 fu i h e j) fun(k,q,l,m)=>bd (z6 fu l g k m) fun(r,o,t3,p)=>some (o,t3,p)
def ym(b:List Nat)(a:Int)(d:Int):Option (Int×(List Nat)×Int):=zb (a-1) fun e=>zb (a+1) fun f=>bd (zZ fu b e a f d) fun(g,h,i)=>some (g,h,i)
def zK(d:List Nat)(j:Int)(t:Int):Option (Int×Int×(List Nat)):=zb (t-j) fun e=>ck ((4:Int)≠0)<|zb (SW e (4:Int)) fun u=>zb (u*(1:Int)) fun v=>zb (j+v) fun s=>ck ((4:Int)≠0)<|zb (SW e (4:Int)) fun w=>zb (w*(2:Int)) fun x=>zb (j+x) fun f=>ck ((4:Int)≠0)<|zb (SW e (4:Int)) fun y=>zb (y*(3:Int)) fun A=>zb (j+A) fun g=>if 8<=e then if 50<=e then bd (ym fu d s 0) fun(k,B,l)=>bd (ym fu B f l) fun(m,C,o)=>bd (ym fu C g o) fun(p,t3,q)=>bd (zZ fu t3 k m p q) fun(a,r,h)=>if h=0 then some ((a,(1:Int),r))else if h=12 then some ((a,(2:Int),r))else some ((a,(0:Int),r))else bd (zZ fu d s f g 0) fun(b,t5,i)=>if i=0 then some ((b,(1:Int),t5))else if i=12 then some ((b,(2:Int),t5))else some ((b,(0:Int),t5))else if 0=0 then some ((f,(1:Int),d))else if 0=12 then some ((f,(2:Int),d))else some ((f,(0:Int),d))
def z8(e:Int)(f:Int):((Int×(List Nat))->Option ((List Nat)⊕(List Nat)))->(Int×(List Nat))->Option ((List Nat)⊕(List Nat)):=fun L (g,a)=>zb ((2:Int)*g) fun o=>zb (o+1) fun b=>if e<=b then some (.inl a)else bd ((zb (b+1) fun p=>if p<e then zb (f+b) fun q=>zy q (a.length) fun r=>nm ((a.getD r 0)) fun s=>zb (f+b) fun t=>zb (t+1) fun u=>zy u (a.length) fun v=>nm ((a.getD v 0)) fun w=>bd (zp fu s w) fun x=>if x then zb (b+1) fun y=>some (e,f,y)else some (e,f,b)else some (e,f,b):Option (Int×Int×Int))) fun(Q,d,h)=>zb (d+g) fun A=>zy A (a.length) fun B=>nm ((a.getD B 0)) fun C=>zb (d+h) fun E=>zy E (a.length) fun G=>nm ((a.getD G 0)) fun H=>bd (zp fu C H) fun I=>if !I then some (.inr a)else zb (d+g) fun i=>zb (d+h) fun j=>zb (d+h) fun k=>zy k (a.length) fun J=>nm ((a.getD J 0)) fun K=>zb (d+g) fun l=>zy l (a.length) fun M=>nm ((a.getD M 0)) fun N=>zy i (a.length) fun O=>nm (a.set O K) fun m=>zy j (m.length) fun P=>nm (m.set P N) fun t3=>L (h,t3)
def yn(a:List Nat)(b:Int)(d:Int)(e:Int):Option (List Nat):=bd (zn (z8 fu d e) fu (b,a)) fun f=>match f with
 |.inl g=>some g
 |.inr t5=>some t5
def yw(d:Int)(e:Int):((Int×(List Nat))->Option (List Nat))->(Int×(List Nat))->Option (List Nat):=fun L (a,b)=>if 0<=a then bd (yn fu b a e d) fun f=>zb (a-1) fun g=>L (g,f)else some b
def yv(b:Int):((Int×(List Nat))->Option (List Nat))->(Int×(List Nat))->Option (List Nat):=fun L (d,a)=>if 0<=d then zb (b+d) fun e=>zb (b+d) fun f=>zy f (a.length) fun g=>nm ((a.getD g 0)) fun h=>zy b (a.length) fun i=>nm ((a.getD i 0)) fun j=>zy b (a.length) fun k=>nm (a.set k h) fun t5=>zy e (t5.length) fun l=>nm (t5.set l j) fun m=>bd (yn fu m (0:Int) d b) fun o=>zb (d-1) fun p=>L (p,o)else some a
def yj(d:List Nat)(a:Int)(e:Int):Option (List Nat):=zb (e-a) fun b=>zb (b-1) fun f=>ck ((2:Int)≠0)<|zb (SW f (2:Int)) fun g=>bd (zn (yw fu a b) fu (g,d)) fun t3=>zb (b-1) fun h=>bd (zn (yv fu a) fu (h,t3)) fun i=>some i
def yh:((Int×Int×Int×(List Nat))->Option (Int×Int×(List Nat)))->(Int×Int×Int×(List Nat))->Option (Int×Int×(List Nat)):=fun L (d,e,b,a)=>if d<b then zy b (a.length) fun f=>nm ((a.getD f 0)) fun g=>zb (b-1) fun h=>zy h (a.length) fun i=>nm ((a.getD i 0)) fun j=>bd (zp fu g j) fun k=>if k then zb (b-1) fun l=>zb (b-1) fun m=>zy m (a.length) fun o=>nm ((a.getD o 0)) fun p=>zy b (a.length) fun q=>nm ((a.getD q 0)) fun r=>zy b (a.length) fun s=>nm (a.set s p) fun t3=>zy l (t3.length) fun t=>nm (t3.set t r) fun u=>zb (b-1) fun v=>L (d,e,v,u)else some (d,e,a)else some (d,e,a)
def yF(e:Int)(b:Int):((Int×(List Nat))->Option (List Nat))->(Int×(List Nat))->Option (List Nat):=fun L (a,d)=>if a<b then bd (zn (yh fu) fu (e,b,a,d)) fun(g,h,t5)=>zb (a+1) fun f=>L (f,t5)else some d
def zT(b:List Nat)(a:Int)(d:Int):Option (List Nat):=zb (a+1) fun e=>bd (zn (yF fu a d) fu (e,b)) fun f=>some f
def yo(b:List Nat):((Int×Int×Int)->Option (Int×Int×Int))->(Int×Int×Int)->Option (Int×Int×Int):=fun L (e,d,a)=>if a<d then zy a (b.length) fun f=>nm ((b.getD f 0)) fun g=>zb (a-1) fun h=>zy h (b.length) fun i=>nm ((b.getD i 0)) fun j=>bd (zp fu g j) fun k=>if !k then zb (a+1) fun l=>L (e,d,l)else some (e,d,a)else some (e,d,a)
def wj:((Int×(List Nat))->Option (List Nat))->(Int×(List Nat))->Option (List Nat):=fun L (a,b)=>if 1<=a then zy a (b.length) fun j=>nm ((b.getD j 0)) fun k=>zb (a-1) fun l=>zy l (b.length) fun m=>nm ((b.getD m 0)) fun o=>bd (zp fu k o) fun p=>if !p then some b else zb (a-1) fun d=>zb (a-1) fun e=>zy e (b.length) fun q=>nm ((b.getD q 0)) fun r=>zy a (b.length) fun f=>nm ((b.getD f 0)) fun s=>zy a (b.length) fun g=>nm (b.set g r) fun t5=>zy d (t5.length) fun h=>nm (t5.set h s) fun t=>zb (a-1) fun i=>L (i,t)else some b
def wo(t:Int):((Int×(List Nat))->Option (List Nat))->(Int×(List Nat))->Option (List Nat):=fun L (a,b)=>if a<t then zy a (b.length) fun e=>nm ((b.getD e 0)) fun u=>zb (a-1) fun f=>zy f (b.length) fun g=>nm ((b.getD g 0)) fun h=>bd (zp fu u h) fun v=>if !v then some b else zb (a-1) fun i=>zb (a-1) fun j=>zy j (b.length) fun k=>nm ((b.getD k 0)) fun l=>zy a (b.length) fun m=>nm ((b.getD m 0)) fun o=>zy a (b.length) fun p=>nm (b.set p l) fun d=>zy i (d.length) fun q=>nm (d.set q o) fun r=>zb (a+1) fun s=>L (s,r)else some b
def yT(p:Int)(q:Int):((Int×Int×(List Nat))->Option ((List Nat)⊕(Bool×(List Nat))))->(Int×Int×(List Nat))->Option ((List Nat)⊕(Bool×(List Nat))):=fun L (r,e,b)=>if e<5 then bd (zn (yo fu b) fu (p,q,r)) fun(f,d,a)=>if a=d then some (.inr (true,b))else zb (d-f) fun s=>if s<50 then some (.inr (false,b))else zb (a-1) fun t=>zb (a-1) fun u=>zy u (b.length) fun v=>nm ((b.getD v 0)) fun w=>zy a (b.length) fun x=>nm ((b.getD x 0)) fun y=>zy a (b.length) fun A=>nm (b.set A w) fun m=>zy t (m.length) fun B=>nm (m.set B y) fun t3=>bd ((bd ((zb (a-f) fun C=>if(2:Int)<=C then some (f,d,a,e,true)else some (f,d,a,e,false):Option (Int×Int×Int×Int×Bool))) fun(M,E,g,G,H)=>if H then zb (g-1) fun I=>bd (zn (wj fu) fu (I,t3)) fun J=>some J else some t3:Option (List Nat))) fun o=>bd ((zb (d-a) fun h=>if 2<=h then some true else some false:Option Bool)) fun K=>if K then zb (a+1) fun i=>bd (zn (wo fu d) fu (i,o)) fun j=>zb (e+1) fun k=>L (a,k,j)else zb (e+1) fun l=>L (a,l,o)else some (.inl b)
def zi(e:List Nat)(d:Int)(f:Int):Option (Bool×(List Nat)):=zb (d+1) fun g=>bd (zn (yT fu d f) fu<|(g,(0:Int),e)) fun h=>match h with
 |.inl a=>some (false,a)
 |.inr (i,b)=>some (i,b)
def yD(d:Int)(t3:List Nat):((Int×Int)->Option (Int×Int))->(Int×Int)->Option (Int×Int):=fun L (b,a)=>if a<=d then zy b (t3.length) fun e=>nm ((t3.getD e 0)) fun f=>zy a (t3.length) fun g=>nm ((t3.getD g 0)) fun h=>bd (zp fu f h) fun i=>if !i then zb (a+1) fun j=>L (b,j)else some (b,a)else some (b,a)
def yc(t3:List Nat)(b:Int)(d:Int):(Int->Option Int)->Int->Option Int:=fun L a=>if d<=a then zy b (t3.length) fun e=>nm ((t3.getD e 0)) fun f=>zy a (t3.length) fun g=>nm ((t3.getD g 0)) fun h=>bd (zp fu f h) fun i=>if i then zb (a-1) fun j=>L j else some a else some a
def yC(i:Int):((Int×Int×(List Nat))->Option (Int×(List Nat)))->(Int×Int×(List Nat))->Option (Int×(List Nat)):=fun L (j,g,t3)=>bd (zn (yD fu g t3) fu (i,j)) fun(k,a)=>bd (zn (yc fu t3 k a) fu g) fun b=>if b<a then some (a,t3)else zy b (t3.length) fun l=>nm ((t3.getD l 0)) fun m=>zy a (t3.length) fun d=>nm ((t3.getD d 0)) fun o=>zy a (t3.length) fun e=>nm (t3.set e m) fun h=>zy b (h.length) fun f=>nm (h.set f o) fun t5=>zb (a+1) fun p=>zb (b-1) fun q=>L (p,q,t5)
def zz(a:List Nat)(b:Int)(f:Int)(d:Int):Option (Int×(List Nat)):=zy d (a.length) fun g=>nm ((a.getD g 0)) fun h=>zy b (a.length) fun i=>nm ((a.getD i 0)) fun j=>zy b (a.length) fun k=>nm (a.set k h) fun e=>zy d (e.length) fun l=>nm (e.set l j) fun m=>zb (b+1) fun o=>zb (f-1) fun p=>bd (zn (yC fu b) fu (o,p,m)) fun(q,r)=>some (q,r)
def yS(d:Int)(b:List Nat)(e:Int):(Int->Option Int)->Int->Option Int:=fun L a=>if a<=e then zy a (b.length) fun f=>nm ((b.getD f 0)) fun g=>zy d (b.length) fun h=>nm ((b.getD h 0)) fun i=>bd (zp fu g i) fun j=>if j then zb (a+1) fun k=>L k else some a else some a
def yu(d:Int)(b:List Nat)(e:Int):(Int->Option Int)->Int->Option Int:=fun L a=>if e<=a then zy a (b.length) fun f=>nm ((b.getD f 0)) fun g=>zy d (b.length) fun h=>nm ((b.getD h 0)) fun i=>bd (zp fu g i) fun j=>if !j then zb (a-1) fun k=>L k else some a else some a
def yQ(i:Int)(b:List Nat):((Int×Int)->Option (Int×Int))->(Int×Int)->Option (Int×Int):=fun L (d,a)=>if a<=i then zy a (b.length) fun e=>nm ((b.getD e 0)) fun f=>zy d (b.length) fun g=>nm ((b.getD g 0)) fun h=>bd (zp fu f h) fun j=>if j then zb (a+1) fun k=>L (d,k)else some (d,a)else some (d,a)
def yr(b:List Nat)(i:Int)(d:Int):(Int->Option Int)->Int->Option Int:=fun L a=>if d<=a then zy a (b.length) fun e=>nm ((b.getD e 0)) fun f=>zy i (b.length) fun g=>nm ((b.getD g 0)) fun h=>bd (zp fu f h) fun j=>if !j then zb (a-1) fun k=>L k else some a else some a
def yR(o:Int):((Int×Int×(List Nat))->Option (Int×(List Nat)))->(Int×Int×(List Nat))->Option (Int×(List Nat)):=fun L (p,l,d)=>bd (zn (yQ fu l d) fu (o,p)) fun(q,a)=>bd (zn (yr fu d q a) fu l) fun b=>if b<a then some (b,d)else zy b (d.length) fun e=>nm ((d.getD e 0)) fun f=>zy a (d.length) fun g=>nm ((d.getD g 0)) fun h=>zy a (d.length) fun i=>nm (d.set i f) fun m=>zy b (m.length) fun j=>nm (m.set j h) fun r=>zb (a+1) fun s=>zb (b-1) fun k=>L (s,k,r)
def zA(g:List Nat)(d:Int)(E:Int)(A:Int):Option (Int×Bool×(List Nat)):=zy A (g.length) fun G=>nm ((g.getD G 0)) fun H=>zy d (g.length) fun I=>nm ((g.getD I 0)) fun J=>zy d (g.length) fun K=>nm (g.set K H) fun B=>zy A (B.length) fun M=>nm (B.set M J) fun a=>zb (d+1) fun N=>zb (E-1) fun C=>bd (zn (yS fu d a C) fu N) fun h=>bd (zn (yu fu d a h) fu C) fun e=>bd ((if e<h then some true else some false:Option Bool)) fun O=>if O then zy d (a.length) fun P=>nm ((a.getD P 0)) fun Q=>zy e (a.length) fun j=>nm ((a.getD j 0)) fun R=>zy e (a.length) fun k=>nm (a.set k Q) fun t3=>zy d (t3.length) fun l=>nm (t3.set l R) fun S=>some (e,true,S)else zy e (a.length) fun m=>nm ((a.getD m 0)) fun U=>zy h (a.length) fun o=>nm ((a.getD o 0)) fun p=>zy h (a.length) fun q=>nm (a.set q U) fun t5=>zy e (t5.length) fun r=>nm (t5.set r p) fun V=>zb (h+1) fun W=>zb (e-1) fun X=>bd (zn (yR fu d) fu (W,X,V)) fun(f,b)=>zy d (b.length) fun s=>nm ((b.getD s 0)) fun t=>zy f (b.length) fun u=>nm ((b.getD u 0)) fun v=>zy f (b.length) fun w=>nm (b.set w t) fun i=>zy d (i.length) fun x=>nm (i.set x v) fun y=>some (f,false,y)
def yH(fu:Nat):((Int×Int×(List Nat))->Option (List Nat))->(Int×Int×(List Nat))->Option (List Nat):=fun L (b,d,a)=>if b<d then zy d (a.length) fun f=>nm ((a.getD f 0)) fun g=>zy b (a.length) fun h=>nm ((a.getD h 0)) fun i=>zy b (a.length) fun j=>nm (a.set j g) fun e=>zy d (e.length) fun k=>nm (e.set k i) fun t3=>zb (b+1) fun l=>zb (d-1) fun m=>L (l,m,t3)else some a
def zE(a:List Nat)(b:Int)(d:Int):Option (List Nat):=zb (d-1) fun e=>bd (zn (yH fu) fu (b,e,a)) fun f=>some f
end
end
section
set_option maxRecDepth 100000
section
variable(fu:Nat)
def yA(self:(List Nat)->Int->Int->Int->Option (List Nat)):((Int×Int×Int×Bool×Bool×(List Nat))->Option (List Nat))->(Int×Int×Int×Bool×Bool×(List Nat))->Option (List Nat):=fun L (b,a,h,p,C,E)=>zb (a-b) fun K=>if K<=12 then bd (zT fu E b a) fun t2=>some t2 else if h=0 then bd (yj fu E b a) fun t3=>some t3 else if !p then bd (zU fu E b a) fun t4=>zb (h-1) fun i=>bd (zK fu t4 b a) fun(x3,x4,t5)=>bd ((if x4=2 then bd (zE fu t5 b a) fun t6=>zb (a-1) fun x5=>zb (x3-b) fun x6=>zb (x5-x6) fun x7=>some ((x7,(1:Int),t6))else some (x3,x4,t5):Option (Int×Int×(List Nat)))) fun(G,i5,H)=>bd ((if p then if C then if i5=1 then bd (zi fu H b a) fun(c1,t8)=>if c1 then some (.inr t8)else some (.inl t8)else some (.inl H)else some (.inl H)else some (.inl H):Option ((List Nat)⊕(List Nat)))) fun s1=>match s1 with
 |.inl m=>(bd ((if 0<b then zb (b-1) fun x8=>zy x8 (m.length) fun j1=>nm ((m.getD j1 0)) fun m1=>zy G (m.length) fun j2=>nm ((m.getD j2 0)) fun m2=>bd (zp fu m1 m2) fun M=>if !M then bd (zz fu m b a G) fun(x9,N)=>some (.inr<|(x9,b,x8,m1,G,m2,M,(!M),N))else some (.inl (b,m))else some (.inl (b,m)):Option ((Int×(List Nat))⊕(Int×Int×Int×Nat×Int×Nat×Bool×Bool×(List Nat))))) fun s2=>match s2 with
 |.inl (o,O)=>bd (zA fu O o a G) fun(d,I,j)=>zb (d-o) fun q=>zb (a-d) fun r=>ck ((8:Int)≠0)<|zb (SW K (8:Int)) fun s=>if q<r then if s<=q then bd (self j o d i) fun P=>zb (d+1) fun Q=>L (Q,a,i,true,I,P)else bd (self j o d i) fun R=>zb (d+1) fun S=>L (S,a,i,false,I,R)else if s<=r then zb (d+1) fun U=>bd (self j U a i) fun V=>L (o,d,i,true,I,V)else zb (d+1) fun W=>bd (self j W a i) fun X=>L (o,d,i,false,I,X)
 |.inr (i7,i8,i9,g4,g5,g6,b3,b4,Y)=>L (i7,a,i,p,C,Y))
 |.inr Z=>some Z else bd (zK fu E b a) fun(t,u,v)=>bd ((if u=2 then bd (zE fu v b a) fun a0=>zb (a-1) fun a1=>zb (t-b) fun a2=>zb (a1-a2) fun a3=>some ((a3,(1:Int),a0))else some (t,u,v):Option (Int×Int×(List Nat)))) fun(k,a4,gM)=>bd ((if p then if C then if a4=1 then bd (zi fu gM b a) fun(c4,w)=>if c4 then some (.inr w)else some (.inl w)else some (.inl gM)else some (.inl gM)else some (.inl gM):Option ((List Nat)⊕(List Nat)))) fun s3=>match s3 with
 |.inl f=>(bd ((if 0<b then zb (b-1) fun x=>zy x (f.length) fun j3=>nm ((f.getD j3 0)) fun m3=>zy k (f.length) fun j4=>nm ((f.getD j4 0)) fun m4=>bd (zp fu m3 m4) fun c5=>if !c5 then bd (zz fu f b a k) fun(a6,a7)=>some (.inr<|(a6,b,x,m3,k,m4,c5,(!c5),a7))else some (.inl (b,f))else some (.inl (b,f)):Option ((Int×(List Nat))⊕(Int×Int×Int×Nat×Int×Nat×Bool×Bool×(List Nat))))) fun s4=>match s4 with
 |.inl (g,a8)=>bd (zA fu a8 g a k) fun(e,J,l)=>zb (e-g) fun y=>zb (a-e) fun A=>ck ((8:Int)≠0)<|zb (SW K (8:Int)) fun B=>if y<A then if B<=y then bd (self l g e h) fun a9=>zb (e+1) fun b0=>L (b0,a,h,true,J,a9)else bd (self l g e h) fun b7=>zb (e+1) fun b8=>L (b8,a,h,false,J,b7)else if B<=A then zb (e+1) fun b9=>bd (self l b9 a h) fun c0=>L (g,e,h,true,J,c0)else zb (e+1) fun c7=>bd (self l c7 a h) fun c8=>L (g,e,h,false,J,c8)
 |.inr (c9,h2,h3,h4,h5,h6,b5,b6,d0)=>L (c9,a,h,p,C,d0))
 |.inr d1=>some d1
def zW:Nat->(List Nat)->Int->Int->Int->Option (List Nat)
 |0,_,_,_,_=>none
 |fu+1,b,d,e,f=>bd (zn (yA fu<|zW fu) fu (d,e,f,true,true,b)) fun a=>some a
def yG(a:List Nat):Option (List Nat):=nm (Jx<|(a.length:Int)) fun b=>bd (vm fu b) fun d=>bd (zW fu a (0:Int) ((a.length:Int)) d) fun e=>some e
def vZ(a:Tr):Option (List Nat):=bd (vT fu a) fun t=>if t=[]then some []else fO fu a
def xZ(fu:Nat)(a:List Nat):(((List Nat)×Int)->Option (List Nat))->((List Nat)×Int)->Option (List Nat):=fun L (d,b)=>if b<(a.length:Int)then if 0<b then zy b (a.length) fun r=>nm (a.getD r 0) fun s=>if(((48:Nat):Nat):Int)<=(s:Int)then zy b (a.length) fun t=>nm (a.getD t 0) fun u=>if(u:Int)<=(((57:Nat):Nat):Int)then zb (b-1) fun v=>zy v (a.length) fun w=>nm (a.getD w 0) fun x=>if(((48:Nat):Nat):Int)<=(x:Int)then zb (b-1) fun y=>zy y (a.length) fun A=>nm (a.getD A 0) fun B=>if(B:Int)<=(((57:Nat):Nat):Int)then zy b (a.length) fun C=>nm (a.getD C 0) fun j=>ck ((d.length+([j]).length)*1<=140737488355328)<|nm (d++([j])) fun E=>zb (b+1) fun G=>L (E,G)else ck ((d.length+([(32:Nat)]).length)*1<=140737488355328)<|nm (d++([(32:Nat)])) fun t3=>zy b (a.length) fun H=>nm (a.getD H 0) fun k=>ck ((t3.length+([k]).length)*1<=140737488355328)<|nm (t3++([k])) fun I=>zb (b+1) fun J=>L (I,J)else ck ((d.length+([(32:Nat)]).length)*1<=140737488355328)<|nm (d++([(32:Nat)])) fun t5=>zy b (a.length) fun K=>nm (a.getD K 0) fun l=>ck ((t5.length+([l]).length)*1<=140737488355328)<|nm (t5++([l])) fun M=>zb (b+1) fun N=>L (M,N)else ck ((d.length+([(32:Nat)]).length)*1<=140737488355328)<|nm (d++([(32:Nat)])) fun m=>zy b (a.length) fun O=>nm (a.getD O 0) fun o=>ck ((m.length+([o]).length)*1<=140737488355328)<|nm (m++([o])) fun P=>zb (b+1) fun Q=>L (P,Q)else ck ((d.length+([(32:Nat)]).length)*1<=140737488355328)<|nm (d++([(32:Nat)])) fun p=>zy b (a.length) fun R=>nm (a.getD R 0) fun q=>ck ((p.length+([q]).length)*1<=140737488355328)<|nm (p++([q])) fun g=>zb (b+1) fun S=>L (g,S)else ck ((d.length+([(32:Nat)]).length)*1<=140737488355328)<|nm (d++([(32:Nat)])) fun e=>zy b (a.length) fun h=>nm (a.getD h 0) fun f=>ck ((e.length+([f]).length)*1<=140737488355328)<|nm (e++([f])) fun i=>zb (b+1) fun U=>L (i,U)else some d
def vK(fu:Nat)(l:Int)(a:List Nat)(b:List Nat):((Bool×Int)->Option Bool)->(Bool×Int)->Option Bool:=fun L (k,d)=>if d<(a.length:Int)then if k then zb (d+1) fun e=>L (true,e)else zy d (a.length) fun f=>nm (a.getD f 0) fun g=>zy l (b.length) fun h=>nm (b.getD h 0) fun m=>if(g:Int)=(m:Int)then zb (d+1) fun i=>L (true,i)else zb (d+1) fun j=>L (false,j)else some k
def vJ(k:List Nat)(l:Bool)(m:Tr)(o:Tr)(a:List Nat):((Int×Int)->Option (Int⊕Unit))->(Int×Int)->Option (Int⊕Unit):=fun L (p,b)=>if b<(a.length:Int)then bd ((if 0<b then zb (b-1) fun d=>zy d (a.length) fun e=>nm (a.getD e 0) fun q=>zy b (a.length) fun f=>nm (a.getD f 0) fun r=>if(r:Int)<=(q:Int)then some (.inr ())else some (.inl (k,l,m,o,a))else some (.inl (k,l,m,o,a)):Option (((List Nat)×Bool×Tr×Tr×(List Nat))⊕Unit))) fun s=>match s with
 |.inl (g,w,t,u,h)=>bd (zn (vK fu b g h) fu<|(false,(0:Int))) fun v=>if !v then some (.inr ())else zb (p+1) fun i=>zb (b+1) fun j=>L (i,j)
 |.inr _=>some (.inr ())else some (.inl p)
def vS(fu:Nat)(d:Nat):(((List Nat)×Bool×Tr×Tr×Int×Int×Int)->Option ((List Nat)×Bool×Tr×Tr×Int×Int))->((List Nat)×Bool×Tr×Tr×Int×Int×Int)->Option ((List Nat)×Bool×Tr×Tr×Int×Int):=fun L (a,e,b,gM,f,g,h)=>if h<(a.length:Int)then zy h (a.length) fun i=>nm (a.getD i 0) fun j=>if(j:Int)=(d:Int)then zb (g+1) fun k=>some (a,e,b,gM,f,k)else zb (h+1) fun l=>L (a,e,b,gM,f,g,l)else some (a,e,b,gM,f,g)
def vQ(f:List Nat)(g:Bool)(h:Tr)(i:Tr)(j:Int):((Int×Nat)->Option Int)->(Int×Nat)->Option Int:=fun L (e,a)=>if(a:Int)<=(((122:Nat):Nat):Int)then bd (zn (vS fu a) fu<|(f,g,h,i,j,e,(0:Int))) fun(k,p,l,m,o,b)=>nm ((a+((1:Nat)))%256) fun d=>L (b,d)else some e
def vb(b:List Nat)(m:Int):Option Bool:=bd (jl fu) fun d=>if 300<(b.length:Int)then some d else bd (zn (xZ fu b) fu<|([],(0:Int))) fun e=>bd (wX fu b m) fun(f,v,a)=>ck ((e.length+([(32:Nat)]).length)*1<=140737488355328)<|nm (e++([(32:Nat)])) fun g=>bd (wX fu g m) fun(h,p,i)=>bd ((if a=i then some (.inl ())else if a=2 then if(b.length:Int)=0 then some (.inl ())else some (.inr ())else some (.inr ()):Option (Unit⊕Unit))) fun q=>match q with
 |.inl _=>(if a=0 then bd (vZ fu f) fun j=>bd (zn (vJ fu b d f h j) fu<|((0:Int),(0:Int))) fun r=>match r with
 |.inl o=>bd (zn (vQ fu b d f h o) fu<|((0:Int),(97:Nat))) fun k=>if d then bd (xP fu f (4200:Int)) fun s=>bd (xP fu h (4200:Int)) fun t=>bd (vX fu s t) fun u=>if u then if o=k then bd (vZ fu Tr.nil) fun l=>if(l.length:Int)=0 then some true else some false else some false else some false else some false
 |.inr _=>some false else some d)
 |.inr _=>some false
end
end
section
set_option maxRecDepth 100000
def sL:Code->Code|.seq a _=>a|c=>c
def sR:Code->Code|.seq _ b=>b|c=>c
def sB:Code->Code|.block _ c=>c|.loop c=>c|c=>c
def cT:Code->Code|.cond _ a _=>a|c=>c
def cF:Code->Code|.cond _ _ b=>b|c=>c
def ro:Code->List Oper|.region _ ops _=>ops.toList|_=>[]
def rd:Code->Nat|.region i _ _=>i|_=>0
noncomputable def tB:Code:=match Tryz.f12.body with|some c=>c|none=> .skip
noncomputable def t3:Code:=sL<|sB<|sR tB
noncomputable def tc:Code:=sR<|sB<|sR tB
noncomputable def t5:Code:=sL<|cF tc
noncomputable def L6:Code:=sR<|cF tc
noncomputable def FW:Code:=cT L6
theorem DP:Tryz.f12.body=some (.seq (.region 0 (ro<|sL tB).toArray false) (.block 0 (.seq (.region 3 (ro t3).toArray false) (.cond (.tmp 8) (cT tc) (.seq (.region 5 (ro t5).toArray false) (.cond (.tmp 10) FW<|cF L6)))))):=by kernel_rfl
def dj(l:List Oper):List (Option Tmp×Op×Option (Nat×Bool)):=l.map fun o=>(o.dst,o.op,o.guard)
theorem k0:dj (ro<|sL tB)=[(some 6,.call ⟨.builtin .recover,#[],#[]⟩,none)]:=by kernel_rfl
theorem k3:dj (ro t3)=[(some 8,.binOp .eql 20 (.tmp 6) (.const .nilIface) 20,none)]:=by kernel_rfl
theorem k5:dj (ro t5)=[(some 9,.typeAssert (.tmp 6) 20 37 true,none),(some 10,.extract (.tmp 9) 1,none),(some 11,.extract (.tmp 9) 0,none)]:=by kernel_rfl
theorem k4:cT tc=.region 4 (ro<|cT tc).toArray false:=by kernel_rfl
theorem N0:dj (ro<|cT tc)=[(some 3,.assign (.tmp 6),none)]:=by kernel_rfl
def Ox:An:=⟨[],[],[],[(7,[])],[],[],[]⟩
noncomputable def Mg:Cf:=⟨tt,[],Ox,9,ex,[],[],[],[],[]⟩
noncomputable def o6:List Oper:=ro<|sL FW
noncomputable def o7:List Oper:=ro<|sR FW
theorem Oa:FW=.seq (.region 6 o6.toArray false) (.region 7 o7.toArray true):=by kernel_rfl
abbrev Cx:Sg:=⟨0,[(0,0,.vs 0 .tr),(1,0,.vs 1 .i),(2,0,.vs 2 .i)],[]⟩
abbrev KE:=TypeId×Tr×TypeId×Int×TypeId×Int
def kE(σ:Sg):Option KE:=match yE σ.ob 0 with
 |some (.var .tr E0 y0)=>(match yE (zD σ.ob 0) 1 with
  |some (.var .i E1 y1)=>(match yE (zD (zD σ.ob 0) 1) 2 with
   |some (.var .i E2 y2)=>some (E0,y0,E1,y1,E2,y2)
   |_=>none)
  |_=>none)
 |_=>none
abbrev Ng(z0:Tr)(z1 z2:Int)(E0 E1 E2:TypeId):List (Nat×Od):=[(0,.var .tr E0 z0),(1,.var .i E1 z1),(2,.var .i E2 z2)]
theorem N2(x z1 z2:Int)(z0:Tr)(E0 E1 E2:TypeId):oQ Mg Cx 6 o6 false ⟨3,[(11,0,.d (.w1 .i) x),(0,0,.vs 0 .tr),(1,0,.vs 1 .i),(2,0,.vs 2 .i)],Ng z0 z1 z2 E0 E1 E2⟩ (fun _ _=>none) (fun σ=>oQ Mg Cx 7 o7 true σ (fun _ _=>none) kE)=some (E0,Tr.nil,E1,x,E2,2):=by kernel_rfl
theorem n6:(o6.all fun o=>xr 14 o.dst)=true:=by kernel_rfl
theorem n7:(o7.all fun o=>xr 14 o.dst)=true:=by kernel_rfl
theorem N7:∃fs,Tryz.prog.underlying 37=some (.struct fs):=by
 obtain⟨_,_,⟨fs,h,_⟩,_⟩:=(UU 37 ⟨.w1 .i,.st 0,8⟩<|by kernel_rfl).2.2.2;exact⟨fs,h⟩
theorem iV{l:List Oper}{d:Option Tmp}{op:Op}{g:Option (Nat×Bool)}(h:dj l=[(d,op,g)]):∃o,l=[o]/\o.dst=d/\o.op=op/\o.guard=g:=by
 unfold dj at h;rcases l with _|⟨o,_|⟨_,_⟩⟩<;>simp only[PA,RR,Tp,Tj,and_true,reduceCtorEq,and_false]at h;exact⟨o,rfl,h.1,h.2.1,h.2.2⟩
theorem HA{l:List Oper}{d d2 d3:Option Tmp}{op op2 op3:Op}{g g2 g3:Option (Nat×Bool)}(h:dj l=[(d,op,g),(d2,op2,g2),(d3,op3,g3)]):∃o o2 o3,l=[o,o2,o3]/\(o.dst=d/\o.op=op/\o.guard=g)/\(o2.dst=d2/\o2.op=op2/\o2.guard=g2)/\o3.dst=d3/\o3.op=op3/\o3.guard=g3:=by
 unfold dj at h;rcases l with _|⟨o,_|⟨o2,_|⟨o3,_|⟨_,_⟩⟩⟩⟩<;>simp only[PA,RR,Tp,Tj,and_true,reduceCtorEq,and_false]at h;exact⟨o,o2,o3,rfl,h.1,h.2.1,h.2.2⟩
theorem H2:Tryz.prog.underlying 20=some (.interface<|Tryz.prog.methodsAt 20):=by kernel_rfl
theorem wu{ops:Array Oper}{env:yb}{o:Oper}(h:o.guard=none):zG ops env o=true:=by unfold zG;rw[h]
section
variable{we:World}{Se:Nat->Prop}{F:List MF}{G:List FF}{env:yb}
abbrev QT(we:World)(Se:Nat->Prop)(F:List MF)(G:List FF):Qs:=fun e _ w=>e=.normal/\St we Se F G w
theorem rL(h5:env 6=.nilIface):T Tryz.prog (Nd.of 14) we Se F G (.block 0 (.seq (.region 3 (ro t3).toArray false) (.cond (.tmp 8) (cT tc) (.seq (.region 5 (ro t5).toArray false) (.cond (.tmp 10) FW<|cF L6))))) (QT we Se F G) env:=by
 refine VL<|xq ?_;obtain⟨o,hl,hd,ha,hg⟩:=iV k3;rw[hl];refine zR<|jS (wu hg) (by rw[hd];rfl) fun w hw=>xX.of_value (v:=.bool true) (w':=w) ?_ ?_
 ·simp[execOp,ha,ev,h5,eqGuard,run_eql_nil_nil (w:=w) 20 H2]
 ·refine Ub ?_ w hw;rw[hd];refine xY rfl ?_;rw[k4];obtain⟨o,hl,hd,ha,hg⟩:=iV N0;rw[hl];refine zR<|jS (wu hg) (by rw[hd];rfl) fun w hw=>xX.of_value (w':=w) (by simp[execOp,ha];rfl) ?_;exact yz (fun w hw=>⟨rfl,hw⟩) w hw
theorem FB{v0 v1 v2:Value}{E0 E1 E2:TypeId}{z0:Tr}{x z1 z2:Int}(h0:env 0=v0)(h1:env 1=v1)(h2:env 2=v2)(hx:kV x)(hm:env 11=.agg #[.int .i64 x]){w:World}(hw:St we Se (mP (Ty.tr).rep.c E0 v0 z0::mP (Ty.i).rep.c E1 v1 z1::mP (Ty.i).rep.c E2 v2 z2::F) G w):Wp Tryz.prog (Nd.of 14) FW (QT we Se (mP (Ty.tr).rep.c E0 v0 Tr.nil::mP (Ty.i).rep.c E1 v1 x::mP (Ty.i).rep.c E2 v2 (2:Int)::F) G) env w:=by
 have hC:∀s∈Mg.cs,zQ Tryz.prog s:=fun _ h=>absurd h UV;have hX:Vd Tryz.prog Mg:=.of pg rfl;obtain⟨b0,hi,_⟩:=hw.openP 0 rfl;obtain⟨b1,hj,_⟩:=hw.openP 1 rfl;obtain⟨b2,hl,_⟩:=hw.openP 2 rfl;have hR:vD Tryz.prog ⟨we,Se,F,G⟩ Cx ⟨3,[(11,0,.d (.w1 .i) x),(0,0,.vs 0 .tr),(1,0,.vs 1 .i),(2,0,.vs 2 .i)],Ng z0 z1 z2 E0 E1 E2⟩ env w:=by
  refine⟨⟨fun e he=> ?_,fun _ h=>absurd h UV,fun e he o ho=> ?_,fun e he o ho=> ?_⟩,fun o=>if o=0 then v0 else if o=1 then v1 else v2,?_⟩
  ·simp only[Ng,OY,UV,or_false]at he;rcases he with rfl|rfl|rfl
   ·exact(by decide:(0:Nat)<3)
   ·exact(by decide:(1:Nat)<3)
   ·exact(by decide:(2:Nat)<3)
  ·simp only[OY,UV,or_false]at he;rcases he with rfl|rfl|rfl|rfl
   ·cases ho
   ·cases ho;exact(by decide:(0:Nat)<3)
   ·cases ho;exact(by decide:(1:Nat)<3)
   ·cases ho;exact(by decide:(2:Nat)<3)
  ·simp only[Cx,OY,UV,or_false]at he;rcases he with rfl|rfl|rfl
   ·cases ho;exact(by decide:(0:Nat)<3)
   ·cases ho;exact(by decide:(1:Nat)<3)
   ·cases ho;exact(by decide:(2:Nat)<3)
  refine hw.weak fun S w ha=>⟨?_,⟨h0,b0,hi⟩,⟨h1,b1,hj⟩,⟨h2,b2,hl⟩,?_,?_,?_,ha⟩
  ·show(fV (eW eI) x<|env 11).p S w;rw[hm];exact⟨[.int .i64 x],rfl,rfl,hx.1,hx.2⟩
  ·exact⟨h0,b0,hi⟩
  ·exact⟨h1,b1,hj⟩
  ·exact⟨h2,b2,hl⟩
 rw[Oa];intro a g1 g2 g3;refine wpIn_seq<|wpIn_mono (VZ (N:=Nd.of 14) (Q:=fun e env w=>e=.normal/\Wp Tryz.prog (Nd.of 14) (.region 7 o7.toArray true) (QT we Se (mP (Ty.tr).rep.c E0 v0 Tr.nil::mP (Ty.i).rep.c E1 v1 x::mP (Ty.i).rep.c E2 v2 (2:Int)::F) G) env w) cd UU dC hC hX (fun _ _ h=>by cases h) (fun σ1 hk env1 w1 hf hn=>⟨rfl,?_⟩) n6 (N2 x z1 z2 z0 E0 E1 E2) hR a g1 g2 g3) ?_
 ·refine VZ (N:=Nd.of 14) cd UU dC hC hX (fun _ _ h=>by cases h) (fun σ2 hb env2 w2 hg hp=>⟨rfl,?_⟩) n7 hk hn;unfold kE at hb;split at hb
  ·next E0' y0 hq=>
   split at hb
   ·next E1' y1 hr=>
    split at hb
    ·next E2' y2 hs=>
     cases hb;obtain⟨hB,vs,ht⟩:=hp;have hd:St we Se ([mP (Ty.tr).rep.c E0 (vs 0) Tr.nil,mP (Ty.i).rep.c E1 (vs 1) x,mP (Ty.i).rep.c E2 (vs 2) (2:Int)]++(MS vs (zD (zD (zD σ2.ob 0) 1) 2)++F)) (RS Tryz.prog vs env2 σ2.rg++(RS Tryz.prog vs env2 Cx.rg++G)) w2:=ht.perm<|(xo hq).trans<|((xo hr).trans<|(xo hs).cons _).cons _;obtain⟨S,_,hΓ⟩:=hd.ex;have hc:=ze.left<|ze.right (Γ:=RS Tryz.prog vs env2 σ2.rg) hΓ;have e0:vs 0=v0:=(hc.1.1).symm.trans<|((hg _<|Nm).trans<|hf _<|Nm).trans h0;have e1:vs 1=v1:=(hc.2.1.1).symm.trans<|((hg (1,0,.vs 1 .i)<|by simp[Cx]).trans<|hf (1,0,.vs 1 .i)<|by simp[Cx]).trans h1;have e2:vs 2=v2:=(hc.2.2.1.1).symm.trans<|((hg (2,0,.vs 2 .i)<|by simp[Cx]).trans<|hf (2,0,.vs 2 .i)<|by simp[Cx]).trans h2;rw[e0,e1,e2]at hd;exact(St.dropM hd).weak fun S w ha=>ze.right<|ze.right ha
    ·cases hb
   ·cases hb
  ·cases hb
 ·rintro e a' w' ⟨q1,q2,rfl,q3⟩;exact q3 a' q1 q2 rfl
theorem nw{v0 v1 v2:Value}{E0 E1 E2:TypeId}{z0:Tr}{x z1 z2:Int}(h0:env 0=v0)(h1:env 1=v1)(h2:env 2=v2)(hx:kV x)(h5:env 6=.iface 37 (.agg #[.int .i64 x])):T Tryz.prog (Nd.of 14) we Se (mP (Ty.tr).rep.c E0 v0 z0::mP (Ty.i).rep.c E1 v1 z1::mP (Ty.i).rep.c E2 v2 z2::F) G (.block 0 (.seq (.region 3 (ro t3).toArray false) (.cond (.tmp 8) (cT tc) (.seq (.region 5 (ro t5).toArray false) (.cond (.tmp 10) FW<|cF L6))))) (QT we Se (mP (Ty.tr).rep.c E0 v0 Tr.nil::mP (Ty.i).rep.c E1 v1 x::mP (Ty.i).rep.c E2 v2 (2:Int)::F) G) env:=by
 refine VL<|xq ?_;obtain⟨o,hl,hd,hj,hg⟩:=iV k3;rw[hl];refine zR<|jS (wu hg) (by rw[hd];rfl) fun w hw=>xX.of_value (v:=.bool false) (w':=w) ?_ ?_
 ·simp[execOp,hj,ev,h5,eqGuard,run_eql_held_nil (w:=w) 20 37 _ H2]
 ·refine Ub ?_ w hw;rw[hd];refine wc rfl<|xq ?_;obtain⟨o1,o2,o3,hl,⟨ha,hb,hk⟩,⟨hc,he,hm⟩,hf,hi,hn⟩:=HA k5;obtain⟨fs,hu⟩:=N7;rw[hl];have e5:put env (some 8) (.bool false) 6=.iface 37 (.agg #[.int .i64 x]):=h5;refine zR<|jS (wu hk) (by rw[ha];rfl) fun w hw=>xX.of_value (v:=.tuple #[.agg #[.int .i64 x],.bool true]) (w':=w) (by simp[execOp,hb,ev,e5,Instr.typeAssert,run_underlying hu]) ?_;rw[ha];refine jS (wu hm) (by rw[hc];rfl) (fun w hw=>xX.of_value (v:=.bool true) (w':=w) (by simp[execOp,he,ev,Instr.extract,put,L]) ?_) w hw;rw[hc];have e8:put (put (put env (some 8) (.bool false)) (some 9) (.tuple #[.agg #[.int .i64 x],.bool true])) (some 10) (.bool true) 9=.tuple #[.agg #[.int .i64 x],.bool true]:=rfl;refine jS (wu hn) (by rw[hf];rfl) (fun w hw=>xX.of_value (v:=.agg #[.int .i64 x]) (w':=w) (by simp[execOp,hi,ev,e8,Instr.extract]) ?_) w hw;rw[hf];refine Ub ?_ w hw;refine xY rfl ?_;intro w hw a g1 g2 g3;refine wpIn_mono (FB (env:=zg a) (by rw[g3];exact h0) (by rw[g3];exact h1) (by rw[g3];exact h2) hx (by rw[g3];rfl) hw a g1 g2 rfl) ?_;rintro e a' w' ⟨q1,q2,rfl,q3⟩;exact⟨q1,q2,rfl,q3⟩
end
theorem bK{o:Oper}(ha:o.op=.call ⟨.builtin .recover,#[],#[]⟩)(a:Act)(w:World):(execOp a.eval o).run Tryz.prog w=.ok .recover w:=by simp[execOp,ha,resolve,invoke,builtin]
theorem cK{u v w y:Value}{a:Act}(ha:a=(⟨#[u,v,w]++RE (14- #[u,v,w].size) undef,[]⟩:Act).put (some 6) y):a.tmps.size=14/\a.defers=[]/\zg a 6=y/\zg a 0=u/\zg a 1=v/\zg a 2=w:=by
 subst ha;refine⟨by simp[Act.put],rfl,?_,?_,?_,?_⟩<;>simp[Act.put,zg]
theorem Vb:MW Tryz.prog 12 37 2:=by
 have hn:Tryz.f12.ntmps=14:=by kernel_rfl
 have hm:Tryz.f12.results= #[]:=by kernel_rfl
 have hc:∀(a:Act) (w:World),(results Tryz.f12 a.tmps).run Tryz.prog w=.ok (.tuple #[]) w:=fun a w=>by simp[results]
 obtain⟨o,hl,hd,hf,hg⟩:=iV k0;refine⟨by kernel_rfl,fun v0 v1 v2 we Se F G w he=> ?_,fun v0 v1 v2 E0 E1 E2 z0 z1 z2 x we Se F G w hx he=> ?_⟩
 ·refine callsDIn_of_wpSIn (n:=0) Tryz.func12 DP trivial fun c₀ cs hu=>wpSIn_seq ?_;rw[hl];refine wpSIn_region ?_;have hb:recoverD (c₀::cs)=none:=by simp[recoverD,hu]
  show wpOpsSIn _ _ _ [o].toArray _ [0] _ _ _;unfold wpOpsSIn;simp only[SS,PE];refine⟨fun _ _=>trivial,?_⟩;rw[iq (by simp[Region.wanted,hg]),bK hf];simp only[hb,hd,hn];unfold wpOpsSIn;generalize ha:Act.put _ _ _=a;obtain⟨h1,h2,h5,hi,hj,hk⟩:=cK ha.symm;refine wpSIn_of_wpIn rfl ?_;refine wpIn_mono (rL (F:=F) (G:=G) (we:=we) (Se:=Se) (env:=zg a) h5 w he a h1 h2 rfl) ?_;rintro e a' w' ⟨q1,q2,rfl,q3⟩;exact⟨q2,_,by rw[<-hu],_,hc _ _,⟨_,rfl⟩,rfl,q3⟩
 ·refine callsDIn_of_wpSIn (n:=0) Tryz.func12 DP trivial fun c₀ cs hu=>wpSIn_seq ?_;rw[hl];refine wpSIn_region ?_;have hb:recoverD (c₀::cs)=some (.iface 37 (.agg #[.int .i64 x]),{c₀ with mode:=.panicking [{v:=.iface 37 (.agg #[.int .i64 x]),recovered:=true}]}::cs):=by simp[recoverD,hu,XU]
  show wpOpsSIn _ _ _ [o].toArray _ [0] _ _ _;unfold wpOpsSIn;simp only[SS,PE];refine⟨fun _ _=>trivial,?_⟩;rw[iq (by simp[Region.wanted,hg]),bK hf];simp only[hb,hd,hn];unfold wpOpsSIn;generalize ha:Act.put _ _ _=a;obtain⟨h1,h2,h5,hi,hj,hk⟩:=cK ha.symm;refine wpSIn_of_wpIn rfl ?_;refine wpIn_mono (nw (F:=F) (G:=G) (we:=we) (Se:=Se) (env:=zg a) hi hj hk hx h5 w he a h1 h2 rfl) ?_;rintro e a' w' ⟨q1,q2,rfl,q3⟩;exact⟨q2,_,rfl,_,hc _ _,⟨_,rfl⟩,rfl,q3⟩
end
section
def kU(c:Nat):Value:=.int .u8 (c:Int)
theorem Uv{c d:Nat}(h:kU c=kU d):c=d:=by unfold kU at h;injection h with _ h;lia
structure KM(ks:List Nat)(es:Array MapEntry)(clock:Nat):Prop where
 st:MapKept.Stamped es clock
 keys:es.toList.map (·.key)=ks.map kU
 vals:∀e∈es.toList,∃z:Int,e.val=.int .i64 z
def de(ks:List Nat)(c:Nat):List Nat:=if c∈ks then ks else ks++[c]
def Xd(b:Nat)(ks:List Nat):MF where
 blk k:=some b=some k
 p _ w:=∃es clock,w.heap[b]? =some (.map es clock)/\KM ks es clock
 keep:=fun⟨es,c,h,g⟩ _ hb=>⟨es,c,(hb b rfl).trans h,g⟩
 sub h _:=h
 lt:=fun⟨es,c,h,_⟩ k hk=>by cases hk;exact(Ph.1 h).1
section
variable{P:Program}{t k e:TypeId}{b:Nat}{w:World}{es:Array MapEntry}{clock:Nat}{ks:List Nat}
theorem KM.isKey(h:KM ks es clock):∀x∈es.toList,MapKept.IsKey (.int .u8) x.key:=fun x hx=>by
 have:x.key∈es.toList.map (·.key):=O8.2 ⟨x,hx,rfl⟩;rw[h.keys]at this;obtain⟨c,_,hc⟩:=O8.1 this;rw[<-hc];rfl
theorem rf(ht:P.underlying t=some (.map k e))(hk:P.underlying k=some (.int .u8))(hz:∀w,(zeroValue e).run P w=.ok (.int .i64 0) w)(hb:w.heap[b]? =some (.map es clock))(h:KM ks es clock)(c:Nat):
 ∃z:Int,(Instr.lookup t (.map<|some b) (kU c) false).run P w=.ok (.int .i64 z) w:=by
 have hc:MapKept.IsKey (.int .u8) (kU c):=rfl;rcases MapKept.findNow_spec hc es.toList 0 h.isKey with⟨h1,h2⟩|⟨j,e0,h1,h2,h3⟩
 ·exact⟨0,by simp[Instr.lookup,run_underlying ht,SK hb,S3 hk hc,Te hk h1,hz,SH]⟩
 ·obtain⟨z,ha⟩:=h.vals e0<|Pq h2;exact⟨z,by simp[Instr.lookup,run_underlying ht,SK hb,S3 hk hc,Te hk h1,ha,SH]⟩
theorem JS{w:World}{r:Nat}{o o':Obj}(hb:w.heap[r]? =some o):zH (fun k=>k≠r) w {w with heap:=w.heap.setIfInBounds r o'}:=
 ⟨rfl,rfl,rfl,by simp,fun k _ hk=>(S9 hb).2 k hk⟩
theorem CP(ht:P.underlying t=some (.map k e))(hk:P.underlying k=some (.int .u8))(hb:w.heap[b]? =some (.map es clock))(h:KM ks es clock)(c:Nat)(z:Int):
 ∃w',(Instr.mapUpdate t (.map<|some b) (kU c) (.int .i64 z)).run P w=.ok () w'/\zH (fun k=>k≠b) w w'/\∃es' clock',w'.heap[b]? =some (.map es' clock')/\KM (de ks c) es' clock':=by
 have hc:MapKept.IsKey (.int .u8) (kU c):=rfl;rcases MapKept.findNow_spec hc es.toList 0 h.isKey with⟨h1,h2⟩|⟨j,e0,h1,h2,h3⟩
 ·refine⟨_,by simp[Instr.mapUpdate,run_underlying ht,SK hb,S3 hk hc,Te hk h1,MapKept.run_setObj_map _ hb,SH];rfl,JS hb,_,_,(S9 hb).1,MapKept.stamped_push h.st h2,?_,?_⟩
  ·have hn:c∉ks:=fun hm=>by
    have:kU c∈es.toList.map (·.key):=by rw[h.keys];exact O8.2 ⟨c,hm,rfl⟩
    obtain⟨x,hx,hg⟩:=O8.1 this;exact h2 x hx hg
   unfold de;rw[ir hn];simp[h.keys]
  ·intro x hx;simp only[Array.toList_push,OX,OZ]at hx;rcases hx with hx|rfl
   ·exact h.vals x hx
   ·exact⟨z,rfl⟩
 ·have hj:es[j]? =some e0:=by simpa using h2
  have he:∀e',es[j]? =some e'->({e' with key:=kU c,val:=.int .i64 z}:MapEntry).key=e'.key:=fun e' ha=>by rw[hj]at ha;cases ha;exact h3.symm
  refine⟨{w with heap:=w.heap.setIfInBounds b (.map (es.modify j fun e=>{e with key:=kU c,val:=.int .i64 z}) clock)},by simp[Instr.mapUpdate,run_underlying ht,SK hb,S3 hk hc,Te hk h1,hj,h3,MapKept.run_keyThatStays hc,MapKept.run_setObj_map _ hb,SH],JS hb,_,_,(S9 hb).1,
   MapKept.stamped_modify h.st _ _ (fun _ _=>rfl) (fun e' _ ha=>he e' ha),?_,?_⟩
  ·have hm:c∈ks:=by
    have:e0.key∈es.toList.map (·.key):=O8.2 ⟨e0,Pq h2,rfl⟩;rw[h.keys]at this;obtain⟨d,hd,hf⟩:=O8.1 this;rw[h3]at hf;rw[<-Uv hf];exact hd
   unfold de;rw[iq hm,MapKept.modify_keys _ _ he];exact h.keys
  ·intro x hx;obtain⟨i,hi,rfl⟩:=Rr hx;simp only[Array.getElem_toList,Array.getElem_modify];split
   ·exact⟨z,rfl⟩
   ·exact h.vals _<|by simp
end
def KD(b:Nat)(o:Obj):MF where
 blk k:=some b=some k
 p _ w:=w.heap[b]? =some o
 keep:=fun h _ hb=>(hb b rfl).trans h
 sub h _:=h
 lt:=fun h k hk=>by cases hk;exact(Ph.1 h).1
theorem St.mapX{we w:World}{Se:Nat->Prop}{ms:List MF}{Γ:List FF}{b:Nat}{ks:List Nat}(h:St we Se (Xd b ks::ms) Γ w):∃es clock,KM ks es clock/\St we Se (KD b (.map es clock)::ms) Γ w:=by
 obtain⟨h1,h2,h3,S,h4,h5,h6,⟨⟨es,clock,h7,h8⟩,h9⟩,ha⟩:=h;refine⟨es,clock,h8,h1,h2,h3,S,h4,h5,fun m hm k hk=> ?_,⟨h7,h9⟩,ha⟩;rcases OY.1 hm with rfl|hm
 ·exact h6 _ (Nm) k hk
 ·exact h6 m (H1 _ hm) k hk
section
variable{P:Program}{ty:TypeId}{w:World}{i bm clock:Nat}{seen:Array Nat}{es:Array MapEntry}
theorem nz(hi:w.heap[i]? =some (.mapIter (some bm) clock seen clock))(hb:w.heap[bm]? =some (.map es clock))(yW:∀x∈es.toList,x.born<clock):
 ((leftOf es seen).size=0/\(Instr.next (.pointer<|some ⟨i,0,none⟩) false ty).run P w=.ok (.tuple #[.bool false]) w)\/
 ∃e∈(leftOf es seen).toList,∃w':World,(Instr.next (.pointer<|some ⟨i,0,none⟩) false ty).run P w=.ok (.tuple #[.bool true,e.key,e.val]) w'/\zH (fun k=>k≠i) w w'/\w'.heap[i]? =some (.mapIter (some bm) clock (seen.push e.born) clock):=by
 simp only[Instr.next,getObj,O5,Sem.run,hi,hb,SH,next_test_false seen es clock clock yW<|O3 _,Pd,if_false];unfold leftOf;have ha:∀x∈(Array.filter (fun e=> !seen.contains e.born) es).toList,x.born<clock:=fun x hx=>yW x (by simp at hx⊢;exact hx.1);generalize Array.filter (fun e=> !seen.contains e.born) es=L at ha⊢;have e1:L.filter (fun x=>decide<|x.born<clock)=L:=Array.filter_eq_self.2 (fun x hx=>by simpa using ha x (by simpa using hx));have e2:L.filter (fun x=>decide<|x.born≥clock)= #[]:=by
  rw[Array.filter_eq_empty_iff];intro x hx;have:=ha x (by simpa using hx);simp;lia
 simp only[e1,e2,Array.append_empty];by_cases h0:L.size=0
 ·left;have:L= #[]:=Array.eq_empty_of_size_eq_zero h0;subst this;refine⟨rfl,?_⟩;simp[choose,Sem.run,Tn]
 ·right;have he:L.isEmpty=false:=by simp[Array.isEmpty,h0]
  simp only[he,Pd,if_false,Array.empty_append,Array.size_map];have hg:∃(j:Nat) (w1:World),j<L.size/\w1.Alike w/\(choose<|Question.mapNext L.size).run P w=.ok j w1:=by
   by_cases hf:L.size<=1
   ·exact⟨0,w,by lia,⟨rfl,rfl,rfl⟩,by simp[choose,Sem.run,Tn,hf]⟩
   ·exact⟨_,w.drew,RN _ (by lia),⟨rfl,rfl,rfl⟩,by
     simp only[choose,Sem.run,Tn,decide_eq_true_eq,hf,if_false,Question.cut];rfl⟩
  obtain⟨j,w1,hj,⟨a1,a2,a3⟩,hd⟩:=hg;have hc:w1.heap[i]? =some (.mapIter (some bm) clock seen clock):=by rw[a1];exact hi
  refine⟨L[j],by simp,{w1 with heap:=w1.heap.setIfInBounds i (.mapIter (some bm) clock (seen.push L[j].born) clock)},?_,⟨a2,a2,a3,by simp[a1],fun k _ hk=> ?_⟩,(S9 hc).1⟩
  ·simp only[hd,Array.getElem?_map,RF hj,xaa,O5,setObj,Sem.run,hc,SH];rfl
  ·exact((S9 hc).2 k hk).trans<|by rw[a1]
theorem lB{e:MapEntry}(hi:w.heap[i]? =some (.mapIter (some bm) clock (seen.push e.born) clock))(hb:w.heap[bm]? =some (.map es clock))(he:e∈es.toList)(hn:(es.toList.map (·.born)).Nodup):
 (Instr.entry (.pointer<|some ⟨i,0,none⟩)).run P w=.ok (.tuple #[e.key,e.val]) w:=by
 have hf:es.find? (·.born==e.born)=some e:=by rw[<-Array.find?_toList];exact find_born e es.toList hn he
 simp only[Instr.entry,getObj,O5,Sem.run,hi,hb,SH,Array.back?_push,bne_self_eq_false,Pd,if_false,hf];rfl
end
section
variable{P:Program}{N:Nd}{we:World}{Se:Nat->Prop}{ms:List MF}{Γ:List FF}{env:yb}{ops:Array Oper}{rest:List Oper}{d:Option Tmp}{ty:TypeId}{pos:String}{aft:Array Edge}{g:Option (Nat×Bool)}{Q:Qs}{t k e:TypeId}
theorem St.at0{w:World}{m:MF}(h:St we Se (m::ms) Γ w):∃S,m.p S w:=let⟨S,a,_⟩:=h.muts (i:=0) rfl;⟨S,a⟩
theorem St.at1{w:World}{m m':MF}(h:St we Se (m'::m::ms) Γ w):∃S,m.p S w:=let⟨S,a,_⟩:=h.muts (i:=1) rfl;⟨S,a⟩
theorem fB(hw:zG ops env ⟨d,.makeMap t none,ty,pos,aft,g⟩=true)(hd:xr N.n d=true)
 (c:∀b,TL P N we Se (Xd b []::ms) Γ ops rest Q<|put env d (.map<|some b)):TL P N we Se ms Γ ops (⟨d,.makeMap t none,ty,pos,aft,g⟩::rest) Q env:=
 jS hw hd fun w hw=>xX.of_value (v:=.map<|some w.heap.size) (w':=w.alloc (.map #[] 0)) (by simp[execOp,Instr.makeMap])<|c _ _<|hw.fresh (jA.alloc w _) rfl (by simp) fun S _ _=>⟨_,_,heap_alloc_new w _,MapKept.stamped_empty 0,rfl,fun _ h=>absurd h<|by simp⟩
theorem mj{x y:Operand}{b c:Nat}{ks:List Nat}(hw:zG ops env ⟨d,.lookup t x y false,ty,pos,aft,g⟩=true)(hd:xr N.n d=true)(ht:P.underlying t=some (.map k e))(hk:P.underlying k=some (.int .u8))(hz:∀w,(zeroValue e).run P w=.ok (.int .i64 0) w)
 (hx:ev env x=.map (some b)) (hy:ev env y=kU c) (n:∀z:Int,TL P N we Se (Xd b ks::ms) Γ ops rest Q<|put env d (.int .i64 z)):TL P N we Se (Xd b ks::ms) Γ ops (⟨d,.lookup t x y false,ty,pos,aft,g⟩::rest) Q env:=
 jS hw hd fun w hw=>by
  obtain⟨S,es,clock,hb,h⟩:=hw.at0;obtain⟨z,hz⟩:=rf ht hk hz hb h c;exact xX.of_value (by simp[execOp,hx,hy,hz])<|n z w hw
theorem Uk{x y u:Operand}{b c:Nat}{z:Int}{ks:List Nat}(hw:zG ops env ⟨d,.mapUpdate t x y u,ty,pos,aft,g⟩=true)(hd:xr N.n d=true)(ht:P.underlying t=some (.map k e))(hk:P.underlying k=some (.int .u8))
 (hx:ev env x=.map (some b)) (hy:ev env y=kU c) (hu:ev env u=.int .i64 z) (n:TL P N we Se (Xd b (de ks c)::ms) Γ ops rest Q (put env d undef)):TL P N we Se (Xd b ks::ms) Γ ops (⟨d,.mapUpdate t x y u,ty,pos,aft,g⟩::rest) Q env:=
 jS hw hd fun w hw=>by
  obtain⟨S,es,clock,hb,h⟩:=hw.at0;obtain⟨w',hr,hk,h2⟩:=CP ht hk hb h c z;exact xX.of_skip (w':=w') (by simp[execOp,hx,hy,hu,hr])<|n w'<|hw.write (i:=0) (m':=Xd b<|de ks c) rfl rfl rfl hk fun _ _ _ _=>h2
theorem mo{x:Operand}{b clock:Nat}{es:Array MapEntry}(hw:zG ops env ⟨d,.range t x,ty,pos,aft,g⟩=true)(hd:xr N.n d=true)(ht:P.underlying t=some (.map k e))(hx:ev env x=.map (some b))
 (n:∀i,TL P N we Se (KD i (.mapIter (some b) clock #[] clock)::KD b (.map es clock)::ms) Γ ops rest Q<|put env d (.pointer<|some ⟨i,0,none⟩)):TL P N we Se (KD b (.map es clock)::ms) Γ ops (⟨d,.range t x,ty,pos,aft,g⟩::rest) Q env:=
 jS hw hd fun w hw=>by
  obtain⟨S,hb⟩:=hw.at0;exact xX.of_value (by simp[execOp,hx,run_range_map w t k e b es clock ht hb])<|n w.heap.size _<|hw.fresh (jA.alloc w _) rfl (by simp) fun S _ _=>heap_alloc_new w _
theorem sY{x:Operand}{i b clock:Nat}{seen:Array Nat}{es:Array MapEntry}(hw:zG ops env ⟨d,.next x false,ty,pos,aft,g⟩=true)(hd:xr N.n d=true)(yW:∀x∈es.toList,x.born<clock)(hx:ev env x=.pointer (some ⟨i,0,none⟩))
 (h0:(leftOf es seen).size=0->TL P N we Se (KD i (.mapIter (some b) clock seen clock)::KD b (.map es clock)::ms) Γ ops rest Q (put env d (.tuple #[.bool false])))
 (h1:∀e∈(leftOf es seen).toList,TL P N we Se (KD i (.mapIter (some b) clock (seen.push e.born) clock)::KD b (.map es clock)::ms) Γ ops rest Q<|put env d (.tuple #[.bool true,e.key,e.val])):
 TL P N we Se (KD i (.mapIter (some b) clock seen clock)::KD b (.map es clock)::ms) Γ ops (⟨d,.next x false,ty,pos,aft,g⟩::rest) Q env:=
 jS hw hd fun w hw=>by
  obtain⟨_,hi⟩:=hw.at0;obtain⟨_,hb⟩:=hw.at1;rcases nz (P:=P) (ty:=ty) hi hb yW with⟨e0,hr⟩|⟨e,he,w',hr,hk,h2⟩
  ·exact xX.of_value (by simp[execOp,hx,hr])<|h0 e0 w hw
  ·exact xX.of_value (by simp[execOp,hx,hr])<|h1 e he w'<|hw.write (i:=0) (m':=KD i (.mapIter (some b) clock (seen.push e.born) clock)) rfl rfl rfl hk fun _ _ _ _=>h2
theorem mV{x:Operand}{i b clock:Nat}{seen:Array Nat}{es:Array MapEntry}{e:MapEntry}(hw:zG ops env ⟨d,.entry x,ty,pos,aft,g⟩=true)(hd:xr N.n d=true)(he:e∈es.toList)(hn:(es.toList.map (·.born)).Nodup)(hx:ev env x=.pointer (some ⟨i,0,none⟩))
 (h1:TL P N we Se (KD i (.mapIter (some b) clock (seen.push e.born) clock)::KD b (.map es clock)::ms) Γ ops rest Q (put env d (.tuple #[e.key,e.val]))):
 TL P N we Se (KD i (.mapIter (some b) clock (seen.push e.born) clock)::KD b (.map es clock)::ms) Γ ops (⟨d,.entry x,ty,pos,aft,g⟩::rest) Q env:=
 jS hw hd fun w hw=>by
  obtain⟨_,hi⟩:=hw.at0;obtain⟨_,hb⟩:=hw.at1;exact xX.of_value (by simp[execOp,hx,lB hi hb he hn])<|h1 w hw
end
end
section
variable{x k:Nat}{r a b:List Nat}
def nv:List Nat->Nat
 |[]=>0
 |x::r=>x+18446744073709551616*nv r
def ur:Nat->Nat->List Nat
 |0,_=>[]
 |k+1,n=>n%18446744073709551616::ur k (n/18446744073709551616)
def X4:Nat->Nat->List Nat
 |0,_=>[]
 |f+1,n=>if n=0 then[]else n%18446744073709551616::X4 f (n/18446744073709551616)
def kn(n:Nat):List Nat:=X4 n n
def Kv:List Nat->List Nat
 |[]=>[]
 |x::r=>match Kv r with
  |[]=>if x=0 then[]else[x]
  |y::s=>x::y::s
theorem zY.nil:zY []:=fun x hx=>absurd hx UV
theorem zY.cons(h:x<18446744073709551616)(hr:zY r):zY (x::r):=fun y hy=>by
 rcases OY.1 hy with rfl|hy
 ·exact h
 ·exact hr y hy
theorem zY.head(h:zY (x::r)):x<18446744073709551616:=h x<|Nm
theorem zY.tail(h:zY (x::r)):zY r:=fun y hy=>h y<|H1 _ hy
theorem zY.append(ha:zY a)(hb:zY b):zY (a++b):=fun x hx=>by
 rcases OX.1 hx with h|h
 ·exact ha x h
 ·exact hb x h
theorem zY.take{a:List Nat}(h:zY a)(k:Nat):zY (a.take k):=fun x hx=>h x<|List.mem_of_mem_take hx
theorem zY.getD{a:List Nat}(h:zY a)(k:Nat):a.getD k 0<18446744073709551616:=by
 rw[PY];by_cases hk:k<a.length
 ·rw[Pb hk];exact h _<|Rm hk
 ·simp_all
theorem eC:nv []=0:=rfl
theorem qd(x:Nat)(r:List Nat):nv (x::r)=x+18446744073709551616*nv r:=rfl
theorem JX:∀(a b:List Nat),nv (a++b)=nv a+18446744073709551616^a.length*nv b
 |[],b=>by simp[nv]
 |x::a,b=>by
  rw[PZ,qd,JX a b,qd];grind
theorem UR:∀k,nv (Pv k 0)=0
 |0=>rfl
 |k+1=>by rw[List.replicate_succ,qd,UR k]
theorem C6:∀{l:List Nat},zY l->nv l<18446744073709551616^l.length
 |[],_=>by simp[nv]
 |x::r,h=>by
  have h1:=h.head;have h2:=C6 h.tail;rw[qd,FS];lia
theorem XP(l:List Nat)(x:Nat):nv (l++[x])=nv l+18446744073709551616^l.length*x:=by
 rw[JX,qd,eC];simp
theorem jC:∀k n,(ur k n).length=k
 |0,_=>rfl
 |k+1,n=>by rw[ur,FS,jC]
theorem Xf:∀k n,zY (ur k n)
 |0,_=>zY.nil
 |k+1,n=>zY.cons (RN _<|by decide)<|Xf k _
theorem KS:∀k n,nv (ur k n)=n%18446744073709551616^k
 |0,n=>by simp[ur,nv,Nat.mod_one]
 |k+1,n=>by rw[ur,qd,KS k,Rh,RQ<|18446744073709551616^k,Nat.mod_mul]
theorem UM:∀{l:List Nat},zY l->ur l.length (nv l)=l
 |[],_=>rfl
 |x::r,h=>by
  have h1:=h.head;rw[FS,ur,qd,Nat.add_mul_mod_self_left,PT h1,TT _ _ (by decide),TR h1,Pk,UM h.tail]
theorem Kp:∀k n,ur (k+1) n=ur k n++[n/18446744073709551616^k%18446744073709551616]
 |0,n=>by simp[ur]
 |k+1,n=>by rw[ur,Kp k,ur,PZ,Sk,<-Nat.pow_succ']
theorem VU:∀f n,zY (X4 f n)
 |0,_=>zY.nil
 |f+1,n=>by
  rw[X4];split
  ·exact zY.nil
  ·exact zY.cons (RN _<|by decide)<|VU f _
theorem YV(n:Nat):zY (kn n):=VU n n
theorem fW:∀f n,n<=f->nv (X4 f n)=n
 |0,n,h=>by rw[X4,eC];lia
 |f+1,n,h=>by
  rw[X4];split
  ·rename_i h0;rw[eC,h0]
  ·rename_i h0;have ha:n/18446744073709551616<=f:=by lia
   rw[qd,fW f _ ha,Nat.mod_add_div]
theorem ZZ(n:Nat):nv (kn n)=n:=fW n n<|O3 _
theorem iR:∀f f' n,n<=f->n<=f'->X4 f n=X4 f' n
 |0,f',n,h,h'=>by
  have:n=0:=by lia
  subst this;cases f'<;>simp[X4]
 |f+1,0,n,h,h'=>by
  have:n=0:=by lia
  subst this;rfl
 |f+1,f'+1,n,h,h'=>by
  rw[X4,X4];split
  ·rfl
  ·rename_i h0;rw[iR f f' _ (by lia)<|by lia]
theorem jz:kn 0=[]:=rfl
theorem X6{n:Nat}(h:0<n):kn n=n%18446744073709551616::kn (n/18446744073709551616):=by
 have e:kn n=X4 ((n-1)+1) n:=by unfold kn;congr 1;lia
 rw[e,X4,xb];congr 1;exact iR _ _ _ (by lia)<|by lia
theorem lF{n:Nat}(h0:0<n)(h:n<18446744073709551616):kn n=[n]:=by grind [X6,jz]
theorem Cy{n:Nat}:kn n=[]↔n=0:=by
 constructor
 ·intro h;rw[<-ZZ n,h];rfl
 ·rintro rfl;rfl
theorem kY{n:Nat}(h:0<n):0<(kn n).length:=by rw[X6 h,FS];lia
theorem qu:∀(k n:Nat),(kn n).length<=k↔n<18446744073709551616^k
 |0,n=>by rw[Nat.le_zero,Rl,Cy];simp
 |k+1,n=>by
  by_cases h:n=0
  ·subst h;simp[jz];exact Tf<|by decide
  ·rw[X6 (by lia),FS,Nat.add_le_add_iff_right,qu k,Rs (by decide),Rh]
theorem nD{n:Nat}(h:0<n):(kn n).getD ((kn n).length-1) 0≠0:=by
 intro h0;have hp:=kY h;have e:=UM<|YV n;rw[ZZ]at e;obtain⟨k,hk⟩:∃k,(kn n).length=k+1:=⟨(kn n).length-1,by lia⟩;have h1:=(qu k n).2;rw[hk,Kp]at e;rw[<-e]at h0;simp at h0;have h2:=(qu (k+1) n).1 (by lia);have h3:n/18446744073709551616^k<18446744073709551616:=by rw[Rs<|Tf<|by decide];rwa[Rh,RQ]at h2
 rw[PT h3]at h0;have h4:n<18446744073709551616^k:=by
  rcases Nat.div_eq_zero_iff.1 h0 with h|h
  ·lia
  ·exact h
 lia
theorem Xc:∀(l:List Nat) (k:Nat),k+1=l.length->l.getD k 0≠0->Kv l=l
 |[],_,h,_=>by simp at h
 |[x],0,_,h=>by simp at h;simp[Kv,h]
 |[x],k+1,h,_=>by simp at h
 |x::y::r,0,h,_=>by simp at h
 |x::y::r,k+1,h,h0=>by
  have:=Xc (y::r) k (by simpa using h) (by simpa using h0);simp only[Kv]at this⊢;rw[this]
theorem az:∀{l:List Nat},zY l->Kv l=kn (nv l)
 |[],_=>rfl
 |x::r,h=>by
  have ih:=az h.tail;have hx:=h.head;rw[Kv,ih,qd];by_cases hr:nv r=0
  ·rw[hr,jz];by_cases h0:x=0
   ·simp[h0,jz]
   ·simp only[h0,if_false,Nat.mul_zero,Sl];rw[lF (by lia) hx]
  ·have e1:=X6 (n:=nv r) (by lia);have e2:=X6 (n:=x+18446744073709551616*nv r) (by lia);grind
theorem aO{l:List Nat}(hl:zY l)(h:l=[]\/l.getD (l.length-1) 0≠0):kn (nv l)=l:=by
 rw[<-az hl];rcases h with rfl|h
 ·rfl
 ·cases hn:l.length with
  |zero=>rw[Pn hn];rfl
  |succ k=>exact Xc l k hn.symm<|by rw[hn]at h;exact h
theorem iK:∀{l:List Nat},zY l->∀k,l.getD k 0=nv l/18446744073709551616^k%18446744073709551616
 |[],_,k=>by simp[nv]
 |x::r,h,0=>by rw[List.getD_cons_zero,qd,Nat.div_one,Nat.add_mul_mod_self_left,PT h.head]
 |x::r,h,k+1=>by rw[List.getD_cons_succ,iK h.tail k,qd,Nat.pow_succ',<-Sk,TT _ _ (by decide),TR h.head,Pk]
theorem CG{α:Type}{l:List α}{n:Nat}{z x:α}(hl:l.length=k)(hk:k<n):(l++Pv (n-k) z).set k x=(l++[x])++Pv (n-(k+1)) z:=by
 obtain⟨m,hm⟩:∃m,n-k=m+1:=⟨n-k-1,by lia⟩;rw[TE _ _ (by lia),hl];grind
def wJ(step:Nat->Nat->Nat×Nat):Nat->List Nat×Nat
 |0=>([],0)
 |k+1=>((wJ step k).1++[(step k (wJ step k).2).1],(step k (wJ step k).2).2)
theorem xL(step:Nat->Nat->Nat×Nat):∀k,(wJ step k).1.length=k
 |0=>rfl
 |k+1=>by rw[wJ,O1,xL step k];rfl
def Vw(a b:List Nat)(k c:Nat):Nat×Nat:=((a.getD k 0+b.getD k 0+c)%18446744073709551616,(a.getD k 0+b.getD k 0+c)/18446744073709551616)
theorem eJ{c:Nat}(ha:zY a)(hb:zY b)(hc:c<=1):(Vw a b k c).2<=1:=by grind [Vw,zY.getD]
theorem qc(l:List Nat):∀k,nv (l.take<|k+1)=nv (l.take k)+18446744073709551616^k*l.getD k 0:=by
 induction l with
 |nil=>intro k;simp[nv]
 |cons x r ih=>
  intro k
  cases k with
  |zero=>simp[nv]
  |succ k=>
   rw[Si,qd,ih k,Si,qd,List.getD_cons_succ,Rh,Nat.mul_add];rw[RQ (18446744073709551616^k) 18446744073709551616,Nat.mul_assoc,R9]
theorem VX(a b:List Nat):∀k,nv (wJ (Vw a b) k).1+18446744073709551616^k*(wJ (Vw a b) k).2=nv (a.take k)+nv (b.take k)/\zY (wJ (Vw a b) k).1
 |0=>⟨by simp[wJ,nv],zY.nil⟩
 |k+1=>by
  obtain⟨ih,il⟩:=VX a b k;rw[wJ,qc,qc,XP,xL];refine⟨?_,il.append<|zY.cons (RN _<|by decide) zY.nil⟩;generalize hc:(wJ (Vw a b) k).2=c at*
  simp only[Vw];have e:=Nat.mod_add_div (a.getD k 0+b.getD k 0+c) 18446744073709551616;grind
theorem tn{n:Nat}(ha:a.length<=n)(hb:b.length<=n):nv ((wJ (Vw a b) n).1++[(wJ (Vw a b) n).2])=nv a+nv b:=by grind [XP,xL,VX,P3]
end
theorem sN(x B k:Nat)(hB:0<B):x/B^k=B*(x/B^(k+1))+x/B^k%B:=by grind [Tt,Sk]
def bb(a b:List Nat)(k c:Nat):Nat×Nat:=((a.getD k 0+18446744073709551616-b.getD k 0-c)%18446744073709551616,if a.getD k 0<b.getD k 0+c then 1 else 0)
theorem eK(a b:List Nat)(k c:Nat):(bb a b k c).2<=1:=by
 simp only[bb];split<;>lia
theorem rI{a b:List Nat}(ha:zY a)(hb:zY b):∀k,nv (wJ (bb a b) k).1+nv (b.take k)=nv (a.take k)+18446744073709551616^k*(wJ (bb a b) k).2/\zY (wJ (bb a b) k).1/\(wJ (bb a b) k).2<=1
 |0=>⟨by simp[wJ,nv],zY.nil,PF _⟩
 |k+1=>by
  obtain⟨ih,il,ic⟩:=rI ha hb k;rw[wJ,qc,qc,XP,xL];refine⟨?_,il.append<|zY.cons (RN _<|by decide) zY.nil,eK a b k _⟩;generalize hc:(wJ (bb a b) k).2=c at*
  simp only[bb];have h1:=ha.getD k;have h2:=hb.getD k;generalize a.getD k 0=x at*
  generalize b.getD k 0=y at*
  have e:(x+18446744073709551616-y-c)%18446744073709551616+y+c=x+18446744073709551616*(if x<y+c then 1 else 0):=by grind
  grind
def WA(a:List Nat)(x:Nat)(k c:Nat):Nat×Nat:=((a.getD k 0*x+c)%18446744073709551616,(a.getD k 0*x+c)/18446744073709551616)
theorem XM{a x c:Nat}(ha:a<18446744073709551616)(hx:x<18446744073709551616)(hc:c<18446744073709551616):(a*x+c)/18446744073709551616<18446744073709551616:=by
 have:a*x<=18446744073709551615*18446744073709551615:=Nat.mul_le_mul (by lia) (by lia);lia
theorem fb{a:List Nat}{x k c:Nat}(ha:zY a)(hx:x<18446744073709551616)(hc:c<18446744073709551616):(WA a x k c).2<18446744073709551616:=XM (ha.getD k) hx hc
theorem cr(a:List Nat)(x:Nat):∀k,nv (wJ (WA a x) k).1+18446744073709551616^k*(wJ (WA a x) k).2=nv (a.take k)*x/\zY (wJ (WA a x) k).1
 |0=>⟨by simp[wJ,nv],zY.nil⟩
 |k+1=>by
  obtain⟨ih,il⟩:=cr a x k;rw[wJ,qc,XP,xL];refine⟨?_,il.append<|zY.cons (RN _<|by decide) zY.nil⟩;generalize hc:(wJ (WA a x) k).2=c at*
  simp only[WA];have e:=Nat.mod_add_div (a.getD k 0*x+c) 18446744073709551616;grind
theorem te{a:List Nat}{x:Nat}(hc:(wJ (WA a x) a.length).2<18446744073709551616):(wJ (WA a x) a.length).1++[(wJ (WA a x) a.length).2]=ur (a.length+1) (nv a*x):=by
 obtain⟨h1,h2⟩:=cr a x a.length;have hl:=h2.append<|zY.cons hc zY.nil;have hn:nv ((wJ (WA a x) a.length).1++[(wJ (WA a x) a.length).2])=nv a*x:=by rw[XP,xL,h1,P3<|O3 _]
 have:=UM hl;rw[O1,xL]at this;simp_all
theorem EN{a b:Nat}(ha:a<4294967296)(hb:b<4294967296):a*b<=18446744065119617025:=Nat.mul_le_mul (show a<=4294967295 by lia) (show b<=4294967295 by lia)
theorem Bk{x y:Nat}(hx:x<18446744073709551616)(hy:y<18446744073709551616):(x%4294967296)*(y%4294967296)<=18446744065119617025/\(x/2^32)*(y%4294967296)<=18446744065119617025/\
 (x%4294967296)*(y/2^32)<=18446744065119617025/\(x/2^32)*(y/2^32)<=18446744065119617025:=
 ⟨EN (by lia) (by lia),EN (by lia) (by lia),EN (by lia) (by lia),EN (by lia)<|by lia⟩
theorem rz(x y:Nat):x*y=18446744073709551616*((x/2^32)*(y/2^32))+4294967296*((x/2^32)*(y%4294967296))+4294967296*((x%4294967296)*(y/2^32))+(x%4294967296)*(y%4294967296):=by
 have h1:x=4294967296*(x/2^32)+x%4294967296:=by lia
 have h2:y=4294967296*(y/2^32)+y%4294967296:=by lia
 grind
section
abbrev Tx:=List Nat
abbrev Rd(α:Type):=Tx⊕(α×Tx)
def yU(c:Nat):Bool:=decide (48<=c) && decide (c<=57)
def je(c:Nat):Bool:=decide (97<=c) && decide (c<=122)
def skp:Tx->Tx
 |[]=>[]
 |c::r=>if c=32 then skp r else c::r
def Xw:Tx->Tx
 |[]=>[]
 |c::r=>if yU c then Xw r else c::r
def ZH:Tx->Tx
 |[]=>[]
 |c::r=>if c=48 then r else if yU c then Xw r else c::r
def dv(ds:Tx):Nat:=ds.foldl (fun n c=>10*n+(c-48)) 0
def qw(l:Tx):Rd Tx:=if(ZH<|skp l).length=(skp l).length then .inl (skp l)else .inr ((skp l).take<|(skp l).length-(ZH<|skp l).length,ZH<|skp l)
def XL(l:Tx):Rd Int:=match qw l with
 |.inl b=> .inl b
 |.inr (d,r)=>if dv d<=1000 then .inr ((dv d:Int),r)else .inl (skp l)
def Hz(m:List Nat):Tr:=.mk 110 m 0 0 .nil .nil
def Y0(S:Tx->Rd Tr)(can:Bool)(l:Tx):Rd Tr:=match skp l with
 |[]=> .inl []
 |c::r=>if yU c then(match qw (c::r)with
  |.inl b=> .inl b
  |.inr (d,r)=> .inr (Hz<|kn<|dv d,r))
  else if je c then .inr (.mk 118 [] c 0 .nil .nil,r)
  else if c=40/\can=true then(match S r with
   |.inl b=> .inl b
   |.inr (t,r2)=>(match skp r2 with
    |[]=> .inl []
    |c2::r3=>if c2=41 then .inr (t,r3)else .inl (c2::r3)))
  else .inl (c::r)
def ZC(S:Tx->Rd Tr)(can:Bool)(l:Tx):Rd Tr:=match Y0 S can l with
 |.inl b=> .inl b
 |.inr (t,r)=>(match skp r with
  |[]=> .inr (t,[])
  |c::r2=>if c=94 then(match XL r2 with
   |.inl b=> .inl b
   |.inr (n,r3)=> .inr (.mk 94 [] 0 n t .nil,r3))
   else .inr (t,c::r2))
def qF(S:Tx->Rd Tr)(can:Bool):Nat->Tr->Tx->Rd Tr
 |0,t,l=> .inr (t,l)
 |n+1,t,l=>match skp l with
  |[]=> .inr (t,[])
  |c::r=>if c=42 then(match ZC S can r with
   |.inl b=> .inl b
   |.inr (u,r2)=>qF S can n (.mk 42 [] 0 0 t u) r2)
   else if c=47 then(match qw r with
    |.inl b=> .inl b
    |.inr (d,r2)=>qF S can n (.mk 47 (kn<|dv d) 0 0 t .nil) r2)
   else .inr (t,c::r)
def wU(S:Tx->Rd Tr)(can:Bool)(l:Tx):Rd Tr:=match ZC S can l with
 |.inl b=> .inl b
 |.inr (t,r)=>qF S can (r.length+1) t r
def qW(S:Tx->Rd Tr)(can:Bool):Nat->Tr->Tx->Rd Tr
 |0,t,l=> .inr (t,l)
 |n+1,t,l=>match skp l with
  |[]=> .inr (t,[])
  |c::r=>if c=43\/c=45 then(match wU S can r with
   |.inl b=> .inl b
   |.inr (u,r2)=>qW S can n (.mk c [] 0 0 t u) r2)
   else .inr (t,c::r)
def Xg(S:Tx->Rd Tr)(can:Bool)(l:Tx):Rd Tr:=match skp l with
 |[]=>(match wU S can []with
  |.inl b=> .inl b
  |.inr (t,r)=>qW S can (r.length+1) t r)
 |c::r=>if c=45 then(match wU S can r with
  |.inl b=> .inl b
  |.inr (t,r2)=>qW S can (r2.length+1) (.mk 126 [] 0 0 t .nil) r2)
  else(match wU S can (c::r)with
   |.inl b=> .inl b
   |.inr (t,r2)=>qW S can (r2.length+1) t r2)
def JC:Nat->Tx->Rd Tr
 |0=>Xg (fun _=> .inl []) false
 |r+1=>Xg (JC r) true
def qx(s:Tx)(depth:Int):Tr×Int×Int:=
 if depth<0 then(.nil,0,1)else if 100<depth then(.nil,0,1)else if 4096<s.length then(.nil,4096,2)
 else match JC depth.toNat s with
  |.inl b=>(.nil,((s.length-b.length:Nat):Int),2)
  |.inr (t,r)=>(match skp r with
   |[]=>(t,(s.length:Int),0)
   |c::r2=>(.nil,((s.length-(r2.length+1):Nat):Int),2))
theorem zS:∀l:Tx,skp l<:+l
 |[]=>RU _
 |c::r=>by
  unfold skp;split
  ·exact(zS r).trans<|Rv c r
  ·exact RU _
theorem Wh:∀l:Tx,Xw l<:+l
 |[]=>RU _
 |c::r=>by
  unfold Xw;split
  ·exact(Wh r).trans<|Rv c r
  ·exact RU _
theorem YD:∀l:Tx,ZH l<:+l
 |[]=>RU _
 |c::r=>by
  by_cases h1:c=48
  ·rw[ZH,iq h1];exact Rv c r
  ·by_cases h2:yU c=true
   ·rw[ZH,ir h1,iq h2];exact(Wh r).trans<|Rv c r
   ·rw[ZH,ir h1,ir h2];exact RU _
theorem VC:∀l:Tx,skp (skp l)=skp l
 |[]=>rfl
 |c::r=>by
  by_cases h:c=32
  ·have:skp (c::r)=skp r:=by rw[skp,iq h]
   rw[this];exact VC r
  ·have:skp (c::r)=c::r:=by rw[skp,ir h]
   rw[this,this]
def ZS{α:Type}(l:Tx)(z:Rd α):Prop:=match z with
 |.inl b=>b<:+l
 |.inr (_,r)=>r<:+l/\r.length<l.length
theorem ZS.of{α:Type}{l l':Tx}{z:Rd α}(h:ZS l' z)(k:l'<:+l):ZS l z:=by
 unfold ZS at h⊢;have hl:=k.length_le;split at h
 ·exact h.trans k
 ·exact⟨h.1.trans k,by lia⟩
theorem Yk(l:Tx):ZS l (qw l):=by
 unfold qw;have h1:=zS l;have h2:=YD<|skp l;have h3:=h1.length_le;have h4:=h2.length_le;split
 ·exact h1
 ·exact⟨h2.trans h1,by lia⟩
theorem gb(l:Tx):ZS l (XL l):=by
 unfold XL;have h:=Yk l;split
 ·next b e=>rw[e]at h;exact h
 ·next d r e=>
  rw[e]at h;split
  ·exact h
  ·exact zS l
section
variable{S:Tx->Rd Tr}{can:Bool}
theorem UJ(hS:can=true->∀l,ZS l<|S l)(l:Tx):ZS l (Y0 S can l):=by
 have h0:=zS l;unfold Y0;split
 ·next e=>rw[e]at h0;exact h0
 ·next c r e=>
  rw[e]at h0;have hl:=h0.length_le;rw[FS]at hl;have hr:r<:+l:=(Rv c r).trans h0;split
  ·have h:=(Yk (c::r)).of h0;split
   ·next b e=>rw[e]at h;exact h
   ·next d r2 e=>rw[e]at h;exact h
  ·split
   ·exact⟨hr,by lia⟩
   ·split
    ·next hc=>
     have h:=(hS hc.2 r).of hr;split
     ·next b e=>rw[e]at h;exact h
     ·next t r2 e=>
      rw[e]at h;have h2:=zS r2;have h3:=h2.length_le;have h4:=h.2;split
      ·next e2=>rw[e2]at h2;exact h2.trans h.1
      ·next c2 r3 e2=>
       rw[e2]at h2 h3;rw[FS]at h3;split
       ·exact⟨((Rv c2 r3).trans h2).trans h.1,by lia⟩
       ·exact h2.trans h.1
    ·exact h0
theorem jB(hS:can=true->∀l,ZS l<|S l)(l:Tx):ZS l (ZC S can l):=by
 have h:=UJ hS l;unfold ZC;split
 ·next b e=>rw[e]at h;exact h
 ·next t r e=>
  rw[e]at h;obtain⟨h1,h2⟩:=h;have h3:=zS r;have h4:=h3.length_le;split
  ·next e2=>rw[e2]at h3;exact⟨h3.trans h1,by simp only[R1];lia⟩
  ·next c r2 e2=>
   rw[e2]at h3 h4;split
   ·have h5:=((gb r2).of<|(Rv c r2).trans h3).of h1;split
    ·next b e3=>rw[e3]at h5;exact h5
    ·next n r3 e3=>rw[e3]at h5;exact h5
   ·exact⟨h3.trans h1,by lia⟩
def Cn{α:Type}(l:Tx)(z:Rd α):Prop:=match z with
 |.inl b=>b<:+l
 |.inr (_,r)=>r<:+l
theorem Cn.of{α:Type}{l l':Tx}{z:Rd α}(h:Cn l' z)(k:l'<:+l):Cn l z:=by
 unfold Cn at h⊢;split at h
 ·exact h.trans k
 ·exact h.trans k
theorem Cn.sh{α:Type}{l l':Tx}{z:Rd α}(h:Cn l' z)(k:l'<:+l)(hl:l'.length<l.length):ZS l z:=by
 unfold Cn at h;unfold ZS;split at h
 ·exact h.trans k
 ·exact⟨h.trans k,by have:=h.length_le;lia⟩
theorem QF(hS:can=true->∀l,ZS l<|S l):∀(n:Nat) (t:Tr) (l:Tx),Cn l (qF S can n t l)
 |0,t,l=>RU _
 |n+1,t,l=>by
  have h0:=zS l;unfold qF;split
  ·next e=>rw[e]at h0;exact h0
  ·next c r e=>
   rw[e]at h0;have hr:r<:+l:=(Rv c r).trans h0;split
   ·have h:=(jB hS r).of hr;split
    ·next b e=>rw[e]at h;exact h
    ·next u r2 e=>rw[e]at h;exact(QF hS n _ r2).of h.1
   ·split
    ·have h:=(Yk r).of hr;split
     ·next b e=>rw[e]at h;exact h
     ·next u r2 e=>rw[e]at h;exact(QF hS n _ r2).of h.1
    ·exact h0
theorem vR(hS:can=true->∀l,ZS l<|S l)(l:Tx):ZS l (wU S can l):=by
 have h:=jB hS l;unfold wU;split
 ·next b e=>rw[e]at h;exact h
 ·next t r e=>rw[e]at h;exact(QF hS _ _ r).sh h.1 h.2
theorem gm(hS:can=true->∀l,ZS l<|S l):∀(n:Nat) (t:Tr) (l:Tx),Cn l (qW S can n t l)
 |0,t,l=>RU _
 |n+1,t,l=>by
  have h0:=zS l;unfold qW;split
  ·next e=>rw[e]at h0;exact h0
  ·next c r e=>
   rw[e]at h0;have hr:r<:+l:=(Rv c r).trans h0;split
   ·have h:=(vR hS r).of hr;split
    ·next b e=>rw[e]at h;exact h
    ·next u r2 e=>rw[e]at h;exact(gm hS n _ r2).of h.1
   ·exact h0
theorem iB(hS:can=true->∀l,ZS l<|S l)(l:Tx):ZS l (Xg S can l):=by
 have h0:=zS l
 have fin:∀(l':Tx) (f:Tr->Tr),l'<:+l->ZS l (match wU S can l' with
  |.inl b=> .inl b
  |.inr (t,r2)=>qW S can (r2.length+1) (f t) r2):=fun l' f ha=>by
  have h:=(vR hS l').of ha;split
  ·next b e=>rw[e]at h;exact h
  ·next t r2 e=>rw[e]at h;exact(gm hS _ _ r2).sh h.1 h.2
 unfold Xg;split
 ·next e=>rw[e]at h0;exact fin [] id h0
 ·next c r e=>
  rw[e]at h0;split
  ·exact fin r (fun t=> .mk 126 [] 0 0 t .nil)<|(Rv c r).trans h0
  ·exact fin (c::r) id h0
end
theorem YQ:∀(n:Nat) (l:Tx),ZS l (JC n l)
 |0,l=>iB (by simp) l
 |n+1,l=>iB (fun _=>YQ n) l
end
section
variable{a:List Nat}{k fu x:Nat}
theorem km{α β:Type}{f:(β->Option α)->β->Option α}(I:β->Prop)(m:β->Nat)(r:α)
 (step:∀s L,I s->(∀s',I s'->m s'<m s->L s'=some r)->f L s=some r):∀(n:Nat) (s:β),I s->m s<n->zn f n s=some r
 |0,s,_,h=>absurd h<|TZ _
 |n+1,s,hI,h=>step s _ hI fun s' ha hm=>km I m r step n s' ha<|by omega
theorem KP(hk:k+1<=a.length)(h0:a.getD k 0=0):nv (a.take k)=nv (a.take<|k+1):=by
 rw[qc,h0];simp
theorem U5(h:zY a)(hk:k+1<=a.length)(h0:a.getD k 0≠0):kn (nv<|a.take<|k+1)=a.take (k+1):=by grind [aO,zY.take]
theorem qq(h:zY a)(hl:a.length<=17592186044416)(hf:a.length<fu):vk fu a=some (kn<|nv a):=by
 unfold vk;rw[zq (v:=kn<|nv a)];refine km (fun l=>zY l/\nv l=nv a/\l.length<=17592186044416) (fun l=>l.length) _ ?_ _ _ ⟨h,rfl,hl⟩ hf;rintro l L ⟨hL,hn,hk⟩ ih;unfold ub;by_cases h0:0<(l.length:Int)
 ·obtain⟨k,ha⟩:∃k,l.length=k+1:=⟨l.length-1,by omega⟩;have e1:(l.length:Int)-1=(k:Int):=by omega
  rw[iq h0,e1,xJ,ye,zP];by_cases h1:l.getD k 0=0
  ·rw[iq (by rw[h1]),xJ,cL,Vu,zP];refine ih _ ⟨hL.take _,?_,by rw[PG];omega⟩ (by rw[PG];omega);rw[KP (by omega) h1,<-ha,List.take_length,hn]
  ·rw[xb,<-hn];have:=U5 hL (k:=k) (by omega) h1;grind
 ·rw[ir h0,<-hn];have:l=[]:=Rl.1 (by omega);rw[this];rfl
theorem VV(h:zY a)(hl:a.length<=17592186044416)(hf:a.length<fu):Ya fu a=some (kn<|nv a):=by
 have:=qq h hl hf;assumption
theorem DN(x:Nat):x &&& 4294967295=x%4294967296:=Nat.and_two_pow_sub_one_eq_mod x 32
theorem CW:min (((32:Nat):Int)).toNat 64=32:=by decide
theorem Yy{y:Nat}(hx:x<18446744073709551616)(hy:y<18446744073709551616):vx fu x y=some (x*y/18446744073709551616,x*y%18446744073709551616):=by
 unfold vx;simp only[nm,DN,CW];obtain⟨b1,b2,b3,b4⟩:=Bk hx hy;have e:=rz x y;generalize hA:(x%4294967296)*(y%4294967296)=A at*
 generalize hB:(x/2^32)*(y%4294967296)=B at*
 generalize hC:(x%4294967296)*(y/2^32)=C at*
 generalize hD:(x/2^32)*(y/2^32)=D at*
 have hz:x*y<18446744073709551616*18446744073709551616:=Nat.mul_lt_mul'' hx hy;generalize x*y=z at*
 congr 2;omega
theorem Zc{n:Nat}{f:Int->Nat->Option (Nat×Nat)}{step:Nat->Nat->Nat×Nat}(hn:n<=17179869184)(hf:n<fu)(h:∀k,k<n->f (k:Int) (wJ step k).2=some (step k (wJ step k).2)):qj fu n f=some (wJ step n):=by
 unfold qj;rw[cL,Vu,zP,zq (v:=((wJ step n).2,(wJ step n).1))];refine km (fun s:Nat×Int×List Nat=>∃k:Nat,k<=n/\s=((wJ step k).2,(k:Int),(wJ step k).1++Pv (n-k) 0)) (fun s=>n-s.2.1.toNat) _ ?_ _ _ ⟨0,by omega,rfl⟩ (by simpa using hf);rintro s L ⟨k,hk,rfl⟩ ih;unfold ZK;simp only[Sp];by_cases h1:(k:Int)<(n:Int)
 ·have hl:(wJ step k).1.length=k:=xL step k;rw[iq h1,zq (h k<|by omega),xd (by simp[hl];omega),zP,xJ];refine ih _ ⟨k+1,by omega,?_⟩ (by show n-((k:Int)+1).toNat<n-((k:Int)).toNat;omega);rw[CG hl<|by omega];rfl
 ·rw[ir h1];obtain rfl:k=n:=by omega
  simp
theorem Vk(a:List Nat)(hl:a.length<=9223372036854775807):Ys fu a (k:Int)=some (a.getD k 0):=by grind [Ys,xd,zP]
theorem KI{b:List Nat}(ha:zY a)(hb:zY b)(hd:a.length<=8589934592)(he:b.length<=8589934592)(hf:max a.length b.length+1<fu):
 YJ fu a b=some (kn<|nv a+nv b):=by
 unfold YJ;have e:max (a.length:Int) b.length=((max a.length b.length:Nat):Int):=by omega
 have hc:∀k,(wJ (Vw a b) k).2<=1:=by
  intro k
  induction k with
  |zero=>exact PF _
  |succ k ih=>exact eJ ha hb ih
 rw[zP,e,zq<|Zc (step:=Vw a b) (by omega) (by omega) ?_]
 ·have hl:=xL (Vw a b)<|max a.length b.length;show ck _ _=_;rw[vE (by simp;omega),zP,zq (qq ?_ (by simp;omega)<|by simp;omega),tn (by omega)<|by omega];exact(VX a b _).2.append<|zY.cons (by have:=hc<|max a.length b.length;omega) zY.nil
 ·intro k hk;unfold Yu;rw[zq (Vk a<|by omega),zq (Vk b<|by omega),vE<|hc k];rfl
theorem fC{a:List Nat}{x:Nat}(ha:zY a)(hx:x<18446744073709551616):∀k,(wJ (WA a x) k).2<18446744073709551616
 |0=>Nat.zero_lt_succ _
 |k+1=>fb ha hx<|fC ha hx k
theorem lS{a c:Nat}(ha:a<18446744073709551616)(hx:x<18446744073709551616)(hc:c<18446744073709551616):
 ((a*x%18446744073709551616+c)%18446744073709551616,(a*x/18446744073709551616+(a*x%18446744073709551616+c)/18446744073709551616)%18446744073709551616)=((a*x+c)%18446744073709551616,(a*x+c)/18446744073709551616):=by
 have:=XM ha hx hc;grind
theorem K1(ha:zY a)(hx:x<18446744073709551616)(hb:a.length<=8589934592)(hf:a.length<fu):YP fu a x=some (ur (a.length+1)<|nv a*x):=by
 unfold YP;rw[zq<|Zc (step:=WA a x) (by omega) hf ?_]
 ·have hl:=xL (WA a x) a.length;simp only;rw[vE (by simp;omega),zP,te<|fC ha hx _]
 ·intro k hk;unfold Yw;rw[xd hk,zP,zq<|Yy (ha.getD k) hx];exact congrArg some<|lS (ha.getD k) hx<|fC ha hx k
end
def Hh:Nat->Nat->Nat
 |0,_=>0
 |f+1,n=>if n=0 then 0 else Hh f (n/2)+1
def bl(n:Nat):Nat:=Hh n n
theorem pB:∀f f' n,n<=f->n<=f'->Hh f n=Hh f' n
 |0,f',n,h,h'=>by
  obtain rfl:n=0:=by lia
  cases f'<;>rfl
 |f+1,0,n,h,h'=>by
  obtain rfl:n=0:=by lia
  rfl
 |f+1,f'+1,n,h,h'=>by
  unfold Hh;split
  ·rfl
  ·rw[pB f f' (n/2) (by lia)<|by lia]
theorem Ui{n:Nat}(h:0<n):bl n=bl (n/2)+1:=by
 obtain⟨m,rfl⟩:∃m,n=m+1:=⟨n-1,by lia⟩;show(if m+1=0 then 0 else Hh m ((m+1)/2)+1)=_;rw[pB m ((m+1)/2) ((m+1)/2) (by lia)<|O3 _];rfl
theorem Wb:∀(k:Nat) {n:Nat},2^k<=n->bl n=bl (n/2^k)+k
 |0,n,h=>by simp
 |k+1,n,h=>by
  have h2:=Nat.two_pow_pos k;rw[Ui (by lia),Wb k (by lia),Sk,Rh,RQ 2];lia
theorem cZ{n k:Nat}(h:n<2^k):bl n<=k:=by
 induction k generalizing n with
 |zero=>
  obtain rfl:n=0:=by lia
  exact O3 _
 |succ k ih=>
  rcases PB n with rfl|h0
  ·grind
  ·rw[Ui h0];grind
theorem IQ(n:Nat):n<2^bl n:=by
 induction n using Nat.strongRecOn with
 |ind n ih=>
  rcases PB n with rfl|h0
  ·decide
  ·rw[Ui h0];grind
theorem JM:∀{n:Nat},n<256->Ti n=bl n:=by decide+kernel
theorem vO{fu x:Nat}(hx:x<18446744073709551616:=by lia):xl fu x=some ((bl x:Nat):Int):=by
 unfold xl;have e16:min (16:Int).toNat 64=16:=by decide
 have e8:min (8:Int).toNat 64=8:=by decide
 have e32:min (32:Int).toNat 64=32:=by decide
 simp only[nm,e32,e16,e8];have last:∀(d:Nat) (i:Int),d<65536->0<=i->i<=48->(if(256:Int)<=(d:Int)then zb (i+8) fun x2=>zb (x2+((Ti (d/2^8%256):Nat):Int)) fun x3=>some x3 else zb (i+((Ti (d%256):Nat):Int)) fun x4=>some x4)=some (i+((bl d:Nat):Int)):=by
  intro d i hd h0 h1;by_cases h:256<=d
  ·have b:=cZ (n:=d/2^8) (k:=8) (by lia);rw[vq,xJ,PT (by lia),JM (by lia),xJ,Wb 8 (n:=d)<|by lia];grind
  ·have b:=cZ (n:=d) (k:=8) (by lia);rw[xb,PT (by lia),JM (by lia),xJ]
 have mid:∀(d:Nat) (i:Int),d<4294967296->0<=i->i<=32->(bd (if(65536:Int)<=(d:Int)then zb (i+16) fun x1=>some (d/2^16,x1)else some (d,i)) fun(d2,i2)=>if(256:Int)<=(d2:Int)then zb (i2+8) fun x2=>zb (x2+((Ti (d2/2^8%256):Nat):Int)) fun x3=>some x3 else zb (i2+((Ti (d2%256):Nat):Int)) fun x4=>some x4)=some (i+((bl d:Nat):Int)):=by
  intro d i hd h0 h1;by_cases h:65536<=d
  ·rw[vq,xJ,zq rfl];simp only;rw[last _ _ (by lia) (by lia) (by lia),Wb 16 (n:=d)<|by lia];congr 1;lia
  ·rw[xb,zq rfl];exact last _ _ (by lia) (by lia)<|by lia
 by_cases h:4294967296<=x
 ·rw[vq,zq rfl];simp only;rw[mid _ _ (by lia) (by lia) (by lia),Wb 32 (n:=x)<|by lia];congr 1;lia
 ·rw[xb,zq rfl];simp only;rw[mid _ _ (by lia) (by lia)<|by lia];congr 1;lia
theorem Vx{fu:Nat}{a b:List Nat}(ha:a.length<=1099511627776)(hf:a.length<fu):ke fu a b=some (decide<|a=b):=by
 unfold ke;by_cases hl:a.length=b.length
 ·rw[vq,zq (v:=if a=b then .inl ()else .inr ())]
  ·grind
  ·refine km (fun i:Int=>∃k:Nat,i=(k:Int)/\k<=a.length/\a.take k=b.take k) (fun i=>a.length-i.toNat) _ ?_ _ _ ⟨0,rfl,by lia,rfl⟩ (by show a.length-0<fu;lia);rintro i L ⟨k,rfl,hk,ht⟩ ih;unfold Z6;by_cases h1:k<a.length
   ·rw[vq,xd h1,zP,ye,zP];by_cases h2:a.getD k 0=b.getD k 0
    ·rw[vq,xJ];refine ih _ ⟨k+1,by lia,by lia,?_⟩ (by show a.length-((k:Int)+1).toNat<a.length-(k:Int).toNat;lia);rw[List.take_add_one,List.take_add_one,ht,getD_some 0 h1,getD_some 0 (by lia:k<b.length),h2]
    ·grind
   ·rw[xb];obtain rfl:k=a.length:=by lia
    rw[List.take_length,P3<|by lia]at ht;rw[iq ht]
 ·rw[xb,decide_eq_false<|fun h=>hl<|by rw[h]]
theorem zF{R S:Type}{v:S}{k:S->Option R}:bd (some v) k=k v:=rfl
theorem wB{R S:Type}{v:S}{k:S->Option R}:nm v k=k v:=rfl
theorem UA(l:Tx)(c:Nat):dv (l++[c])=10*dv l+(c-48):=by unfold dv;rw[List.foldl_append];rfl
theorem xI{c:Nat}:yU c=true↔48<=c/\c<=57:=by simp[yU]
def Dg(l:Tx):Prop:=∀c∈l,yU c=true
theorem Dg.left{a b:Tx}(h:Dg (a++b)):Dg a:=fun c hc=>h c<|SZ _ hc
theorem la:∀(n:Nat) (l:Tx),l.length=n->Dg l->dv l<10^n
 |0,l,hn,h=>by rw[Rl.1 hn];decide
 |n+1,l,hn,h=>by
  have ha:l≠[]:=fun e=>by rw[e]at hn;simp at hn
  obtain⟨a,c,rfl⟩:∃a c,l=a++[c]:=⟨l.dropLast,l.getLast ha,(List.dropLast_concat_getLast ha).symm⟩;have h1:=la n a (by rw[O1]at hn;simp at hn;exact hn) h.left;have h2:=xI.1 (h c<|by simp);rw[UA,Rh];lia
theorem CT(l:Tx)(h:Dg l):dv l<18446744073709551616^l.length:=Pc (la _ l rfl h)<|Th (by decide) _
theorem Zi(l:Tx)(h:Dg l):(kn<|dv l).length<=l.length:=(qu _ _).2<|CT l h
theorem BN(x:Nat):nv [x]=x:=by simp[nv]
def Nz(l:Tx):Prop:=l≠[]/\(l.headD 0=48->l.length=1)
theorem Qq{fu:Nat}{ds:Tx}(h:Dg ds)(hz:Nz ds)(hl:ds.length<=4096)(hf:5000<=fu):uh fu ds=some (kn<|dv ds,0):=by
 have loop:∀(r:Tx) (a:Tx) (n:Nat),a++r=ds->r.length<n->zn (wk fu ds) n (kn<|dv a,(a.length:Int))=some (.inl<|kn<|dv ds):=by
  intro r
  induction r with
  |nil=>
   intro a n ha hn;obtain⟨n,rfl⟩:∃m,n=m+1:=⟨n-1,by lia⟩;rw[Ps]at ha;subst ha;rw[yf];unfold wk;simp only;rw[xb,zF];rfl
  |cons c r ih=>
   intro a n ha hn;obtain⟨n,rfl⟩:∃m,n=m+1:=⟨n-1,by lia⟩;have hc:=xI.1 (h c<|by rw[<-ha];simp);have hd:a.length<ds.length:=by rw[<-ha,O1,FS];lia
   have he:ds.getD a.length 0=c:=by rw[<-ha];simp
   have hi:Dg a:=by rw[<-ha]at h;exact h.left
   have ho:=Zi a hi;have hp:=CT a hi;rw[yf];generalize hL:zn (wk fu ds) n=L;unfold wk;simp only;rw[vq,zF];simp only[if_true];rw[xd hd,wB,he,xb,xb,zq (K1 (YV _) (by decide) (by lia)<|by lia),wB];have hm:(c+256-48)%256=c-48:=by lia
   rw[hm,ZZ];have hx:zY [c-48]:=fun x hx=>by rw[OZ.1 hx];lia
   rw[zq (KI (Xf _ _) hx (by rw[jC];lia) (by simp)<|by rw[jC];simp;lia),KS,BN,xJ];have hb:dv a*10%18446744073709551616^((kn<|dv a).length+1)=dv a*10:=by
    refine PT ?_;have h1:dv a<18446744073709551616^(kn<|dv a).length:=(qu _ _).1<|O3 _;rw[Rh];generalize 18446744073709551616^(kn<|dv a).length=q at h1;lia
   rw[hb];have e1:dv a*10+(c-48)=dv (a++[c]):=by rw[UA];lia
   rw[e1];have:=ih (a++[c]) n (by rw[<-ha];simp) (by simp at hn;lia);rw[O1]at this;rw[<-hL];exact this
 unfold uh;have h0:0<ds.length:=List.length_pos_iff.2 hz.1;have hj:=loop ds [] fu rfl (by lia);rw[xb,xb];have hg:ds.getD 0 0=ds.headD 0:=by cases ds<;>rfl
 rw[show(0:Int)=((0:Nat):Int)from rfl,xd h0,wB,hg];by_cases hk:ds.headD 0=48
 ·rw[iq (by rw[hk]),ir (by have:=hz.2 hk;lia),zF];simp only;rw[show zn (wk fu ds) fu ([],((0:Nat):Int))=_ from hj,zF]
 ·rw[xb,zF];simp only;rw[show zn (wk fu ds) fu ([],((0:Nat):Int))=_ from hj,zF]
theorem BX(l:Tx)(c:Nat)(n:Nat):n<=(c::l).foldl (fun n c=>10*n+(c-48)) n:=by
 induction l generalizing c n with
 |nil=>simp only[SO,List.foldl_nil];lia
 |cons d l ih=>
  rw[SO];have:=ih d<|10*n+(c-48);lia
theorem Cw(l:Tx)(n:Nat):n<=l.foldl (fun n c=>10*n+(c-48)) n:=by
 cases l with
 |nil=>exact O3 _
 |cons c l=>exact BX l c n
theorem Vl:∀(l:Tx) (n:Nat),Dg l->l.foldl (fun n c=>10*n+(c-48)) n<18446744073709551616->Sy n (l.map P5)=.ok (l.foldl (fun n c=>10*n+(c-48)) n)
 |[],n,_,_=>rfl
 |c::l,n,h,hs=>by
  have hc:=xI.1<|h c<|Nm;have ha:(P5 c).toNat=c:=by rw[SN];lia
  rw[SO]at hs⊢;have hm:=Cw l<|10*n+(c-48);rw[PA];unfold Sy;rw[ha,iq hc,xb,xb];rw[show n*10+(c-48)=10*n+(c-48)by lia];exact Vl l _ (fun x hx=>h x<|H1 _ hx) hs
theorem du:∀(l:List UInt8) (n u:Nat),Sy n l=.ok u->u=(l.map R7).foldl (fun n c=>10*n+(c-48)) n
 |[],n,u,h=>by unfold Sy at h;cases h;rfl
 |c::l,n,u,h=>by
  unfold Sy at h;split at h
  ·split at h
   ·cases h
   ·split at h
    ·cases h
    ·rw[PA,SO,du l _ u h,show n*10+(c.toNat-48)=10*n+(c.toNat-48)by lia]
  ·cases h
theorem oX{l:Tx}(h:Dg l):(l.map P5).map R7=l:=by
 rw[Sz];conv=>rhs;rw[<-List.map_id l]
 refine RZ fun c hc=> ?_;have:=xI.1<|h c hc;show(P5 c).toNat=c;rw[SN];lia
theorem CL{ds:Tx}(h:Dg ds)(hz:Nz ds):(dv ds<=1000/\Kb ds=((dv ds:Int),false))\/(1000<dv ds/\(∀v,Kb ds=(v,false)->1000<v)):=by
 have hp:∀c r,ds=c::r->Lib.atoiAll (ds.map P5)=Lib.signless (Lib.parseMag<|ds.map P5):=fun c r e=>by
  subst e;have hc:=xI.1<|h c<|Nm;have ha:(P5 c).toNat=c:=by rw[SN];lia
  exact Lib.atoiAll_plain _ _ (by rw[ha];lia)<|by rw[ha];lia
 cases hd:ds with
 |nil=>exact absurd hd hz.1
 |cons c r=>
  have hp:=hp c r hd;rw[<-hd];have hb:ds.map P5≠[]:=by rw[hd];simp
  have hm:Lib.parseMag (ds.map P5)=Sy 0 (ds.map P5):=by unfold Lib.parseMag;rw[ir hb]
  unfold Kb;rw[hp,hm];by_cases hs:dv ds<=1000
  ·left;refine⟨hs,?_⟩;rw[Vl ds 0 h<|by unfold dv at hs;lia];unfold Lib.signless;have:¬9223372036854775808<=dv ds:=by lia
   unfold dv at this;simp only[this,if_false];rfl
  ·right;refine⟨by lia,fun v=> ?_⟩
   cases hu:Sy 0 (ds.map P5)with
   |ok u=>
    have:=du _ _ _ hu;rw[oX h]at this;have he:u=dv ds:=this;unfold Lib.signless;simp only;split
    ·next e=>split at e<;>cases e;intro e2;cases e2;lia
    ·intro e;cases e
    ·intro e;cases e
   |range=>intro e;cases e
   |_=>intro e;cases e
section
def pp(s l:Tx):Int:=((s.length-l.length:Nat):Int)
def dK{α β:Type}(s:Tx)(od:β):Rd α->PX⊕(α×(Tx×(Int×β)))
 |.inl b=> .inl (37,pp s b)
 |.inr (x,r)=> .inr (x,(s,(pp s r,od)))
section
variable{s l k r:Tx}{c fu:Nat}
theorem jm(h:c::r<:+s):s.getD (s.length-(c::r).length) 0=c:=by
 obtain⟨t,rfl⟩:=h;rw[O1,show t.length+(c::r).length-(c::r).length=t.length by lia];simp
theorem nQ(h:c::r<:+s):s.length-(c::r).length<s.length:=by
 have:=h.length_le;rw[FS]at*
 lia
theorem nM(h:l<:+s):s.drop (s.length-l.length)=l:=by
 obtain⟨t,rfl⟩:=h;rw[O1,show t.length+l.length-l.length=t.length by lia];simp
theorem Cl(h:c::r<:+s):pp s (c::r)+1=pp s r:=by
 have:=h.length_le;rw[FS]at this;unfold pp;rw[FS];lia
theorem WU:pp s []=(s.length:Int):=rfl
theorem KF(h:c::r<:+s):pp s (c::r)<(s.length:Int):=by
 have:=nQ h;unfold pp;lia
theorem eE(hs:s.length<=4096):0<=pp s l/\pp s l<=4096:=by unfold pp;lia
theorem KQ(h:l<:+s)(h2:k<:+s):pp s l=pp s k↔l.length=k.length:=by
 have:=h.length_le;have:=h2.length_le;unfold pp;lia
theorem uz{R:Type}{f:Nat->Option R}(h:c::r<:+s):zy (pp s (c::r)) s.length f=f (s.length-(c::r).length):=xd<|nQ h
theorem jF(h:c::r<:+s):r<:+s:=(Rv c r).trans h
theorem J0{R:Type}{f:Int->Option R}(hs:s.length<=4096)(h:c::r<:+s):zb (pp s (c::r)+1) f=f (pp s r):=by
 rw[Cl h,wm];have:=eE (l:=r) hs;exact⟨by lia,by lia⟩
end
theorem Iw(c:Nat){R:Type}(a b:Option R):(if(((48:Nat):Nat):Int)<=(c:Int)then(if(c:Int)<=(((57:Nat):Nat):Int)then a else b)else b)=if yU c=true then a else b:=by
 unfold yU;by_cases h1:48<=c
 ·rw[vq];by_cases h2:c<=57
  ·rw[vq,iq<|by simp[h1,h2]]
  ·rw[xb,ir<|by simp[h2]]
 ·rw[xb,ir<|by simp[h1]]
theorem LD(c:Nat){R:Type}(a b:Option R):(if(((97:Nat):Nat):Int)<=(c:Int)then(if(c:Int)<=(((122:Nat):Nat):Int)then a else b)else b)=if je c=true then a else b:=by
 unfold je;by_cases h1:97<=c
 ·rw[vq];by_cases h2:c<=122
  ·rw[vq,iq<|by simp[h1,h2]]
  ·rw[xb,ir<|by simp[h2]]
 ·rw[xb,ir<|by simp[h1]]
section
variable{s:Tx}{fu:Nat}{od:Int×Int}
theorem Zx(hs:s.length<=4096):∀(l:Tx) (n:Nat),l<:+s->l.length<n->zn (xf fu) n (s,(pp s l,od))=some (s,(pp s<|skp l,od))
 |[],n,hl,hn=>by
  obtain⟨n,rfl⟩:∃m,n=m+1:=⟨n-1,by lia⟩;rw[yf];unfold xf;simp only;rw[ir<|by rw[WU];lia];rfl
 |c::r,n,hl,hn=>by
  obtain⟨n,rfl⟩:∃m,n=m+1:=⟨n-1,by lia⟩;have ih:=Zx hs r n (jF hl) (by rw[FS]at hn;lia);rw[yf];generalize zn (xf fu) n=L at ih;unfold xf;simp only;rw[iq<|KF hl,uz hl,wB,jm hl];by_cases hc:c=32
  ·rw[iq (by rw[hc]),J0 hs hl,wB,ih,skp,iq hc]
  ·rw[xb,skp,ir hc]
theorem YU(hs:s.length<=4096)(hf:5000<=fu){l:Tx}(hl:l<:+s)(hk:skp l=[]):zC fu (s,(pp s l,od))=some (0,false,(s,(pp s [],od))):=by
 unfold zC;have h1:=hl.length_le;rw[zq (Zx hs l fu hl<|by lia),hk];simp only;rw[iq WU]
theorem uX(hs:s.length<=4096)(hf:5000<=fu){l:Tx}(hl:l<:+s){c:Nat}{r:Tx}(hk:skp l=c::r):zC fu (s,(pp s l,od))=some (c,true,(s,(pp s (c::r),od))):=by
 unfold zC;have h1:=hl.length_le;have h2:=(zS l).trans hl;rw[hk]at h2;rw[zq (Zx hs l fu hl<|by lia),hk];simp only;rw[ir (by have:=KF h2;lia),uz h2,wB,jm h2]
theorem ig(hs:s.length<=4096)(hf:5000<=fu){l:Tx}(hl:l<:+s):∃c b,zC fu (s,(pp s l,od))=some (c,b,(s,(pp s<|skp l,od))):=by
 cases hk:skp l with
 |nil=>exact⟨_,_,YU hs hf hl hk⟩
 |cons c r=>exact⟨_,_,uX hs hf hl hk⟩
theorem contains_one{fu:Nat}(p:Tx)(c:Nat):vi fu p [c]=some (p.any fun b=>OW b c):=by
 unfold vi uQ;rw[vE<|by simp];rfl
theorem Zf(hs:s.length<=4096)(hf:5000<=fu){l p:Tx}(hl:l<:+s)(hk:skp l=[]):zm fu (s,(pp s l,od)) p=some (0,false,(s,(pp s [],od))):=by
 unfold zm;rw[zq<|YU hs hf hl hk];rfl
theorem uW(hs:s.length<=4096)(hf:5000<=fu){l p:Tx}(hl:l<:+s){c:Nat}{r:Tx}(hk:skp l=c::r)(hp:p.any (fun b=>OW b c)=false):zm fu (s,(pp s l,od)) p=some (0,false,(s,(pp s (c::r),od))):=by
 unfold zm;rw[zq<|uX hs hf hl hk];simp only;rw[ir (by decide),zq<|contains_one p c,hp];rfl
theorem kt(hs:s.length<=4096)(hf:5000<=fu){l p:Tx}(hl:l<:+s){c:Nat}{r:Tx}(hk:skp l=c::r)(hp:p.any (fun b=>OW b c)=true):zm fu (s,(pp s l,od)) p=some (c,true,(s,(pp s r,od))):=by
 unfold zm;have h2:=(zS l).trans hl;rw[hk]at h2;rw[zq<|uX hs hf hl hk];simp only;rw[ir (by decide),zq<|contains_one p c,hp,ir (by decide),J0 hs h2];rfl
theorem Gh{a c:Nat}(h:c≠a):[a].any (fun b=>OW b c)=false:=by
 cases hb:OW a c
 ·simp only[List.any_cons,List.any_nil,hb,Bool.or_false]
 ·exact absurd (P7 hb).symm h
theorem sI{a:Nat}:[a].any (fun b=>OW b a)=true:=by simp
theorem H5{a b c:Nat}(h:c≠a)(h2:c≠b):[a,b].any (fun b=>OW b c)=false:=by
 cases hb:OW a c
 ·cases ha:OW b c
  ·simp only[List.any_cons,List.any_nil,hb,ha,Bool.or_false]
  ·exact absurd (P7 ha).symm h2
 ·exact absurd (P7 hb).symm h
theorem cJ(hs:s.length<=4096){k:Tx}{c0:Nat}{r0:Tx}(hk:c0::r0<:+s)(h0:c0≠48):∀(l:Tx) (n:Nat),l<:+s->l.length<(c0::r0).length->l.length<n->
 zn (zu fu (s,(pp s (c0::r0),od))) n (s,(pp s l,od))=some (s,(pp s<|Xw l,od))
 |[],n,hl,ha,hn=>by
  obtain⟨n,rfl⟩:∃m,n=m+1:=⟨n-1,by lia⟩;rw[yf];unfold zu;simp only;rw[ir<|by rw[WU];lia];rfl
 |c::r,n,hl,ha,hn=>by
  obtain⟨n,rfl⟩:∃m,n=m+1:=⟨n-1,by lia⟩;have ih:=cJ hs (k:=k) hk h0 r n (jF hl) (by rw[FS]at ha;lia) (by rw[FS]at hn;lia);rw[yf];generalize zn (zu fu (s,(pp s (c0::r0),od))) n=L at ih;unfold zu;simp only;rw[iq<|KF hl,uz hl,wB,jm hl];by_cases h1:48<=c
  ·rw[vq,uz hl,wB,jm hl];by_cases h2:c<=57
   ·rw[vq,ir (by rw[KQ hl hk];lia),uz hk,wB,jm hk,xb,zF];simp only;rw[J0 hs hl,wB,ih,Xw,iq<|by simp[yU,h1,h2]]
   ·rw[xb,zF,Xw,ir<|by simp[yU,h2]]
  ·rw[xb,zF,Xw,ir<|by simp[yU,h1]]
theorem pV(hs:s.length<=4096):∀(k:Tx) (n:Nat),k<:+s->k.length+1<n->
 zn (zu fu (s,(pp s k,od))) n (s,(pp s k,od))=some (s,(pp s<|ZH k,od))
 |[],n,hl,hn=>by
  obtain⟨n,rfl⟩:∃m,n=m+1:=⟨n-1,by lia⟩;rw[yf];unfold zu;simp only;rw[ir<|by rw[WU];lia];rfl
 |c::r,n,hl,hn=>by
  obtain⟨n,rfl⟩:∃m,n=m+1:=⟨n-1,by lia⟩;rw[FS]at hn;have hr:=jF hl;have ih:zn (zu fu (s,(pp s (c::r),od))) n (s,(pp s r,od))=some (s,(pp s (if c=48 then r else Xw r),od)):=by
   by_cases h0:c=48
   ·rw[iq h0];subst h0;obtain⟨n,rfl⟩:∃m,n=m+1:=⟨n-1,by lia⟩;rw[yf];unfold zu;simp only
    cases r with
    |nil=>rw[ir<|by rw[WU];lia];rfl
    |cons d r2=>
     rw[iq<|KF hr,uz hr,wB,jm hr];by_cases h1:48<=d
     ·rw[vq,uz hr,wB,jm hr];by_cases h2:d<=57
      ·rw[vq,ir (by rw[KQ hr hl];simp only[FS];lia),uz hl,wB,jm hl,iq rfl,zF]
      ·rw[xb,zF]
     ·rw[xb,zF]
   ·rw[ir h0];exact cJ hs (k:=r) hl h0 r n hr (by simp)<|by lia
  rw[yf];generalize zn (zu fu (s,(pp s (c::r),od))) n=L at ih;unfold zu;simp only;rw[iq<|KF hl,uz hl,wB,jm hl];by_cases h1:48<=c
  ·rw[vq,uz hl,wB,jm hl];by_cases h2:c<=57
   ·rw[vq,iq (c:=True) trivial,zF];simp only;rw[J0 hs hl,wB,ih,ZH];by_cases h0:c=48
    ·rw[iq h0,iq h0]
    ·rw[ir h0,ir h0,iq<|by simp[yU,h1,h2]]
   ·rw[xb,zF,ZH,xb,ir<|by simp[yU,h2]]
  ·rw[xb,zF,ZH,xb,ir<|by simp[yU,h1]]
theorem Kd(hs:s.length<=4096)(hf:5000<=fu){l:Tx}(hl:l<:+s):yZ fu (s,(pp s l,od))=some (dK s od<|qw l):=by
 unfold yZ qw;obtain⟨c0,b0,ha⟩:=ig (od:=od) hs hf hl;rw[zq ha];simp only;have h2:=(zS l).trans hl;generalize skp l=k at h2;have h3:=h2.length_le;have h4:=(YD k).trans h2;have h5:=(YD k).length_le;rw[zq<|pV hs k fu h2<|by lia];simp only;by_cases he:(ZH k).length=k.length
 ·rw[iq<|(KQ h4 h2).2 he,iq he];rfl
 ·rw[ir<|fun e=>he<|(KQ h4 h2).1 e,ir he];unfold pp;rw[cL,cL,vE ⟨by lia,by lia⟩,wB,nM h2];have:s.length-(ZH k).length-(s.length-k.length)=k.length-(ZH k).length:=by lia
  rw[this];rfl
end
theorem sc:∀l:Tx,Dg (l.take<|l.length-(Xw l).length)
 |[]=>fun c hc=>by simp at hc
 |c::r=>by
  have h:=(Wh r).length_le;rw[Xw];by_cases hc:yU c=true
  ·rw[iq hc,FS,show r.length+1-(Xw r).length=(r.length-(Xw r).length)+1 by lia,Si];intro x hx;rcases OY.1 hx with rfl|hx
   ·exact hc
   ·exact sc r x hx
  ·rw[ir hc,Nat.sub_self];intro x hx;simp at hx
theorem YR{l d r:Tx}(h:qw l=.inr (d,r)):Dg d/\Nz d/\d.length<=l.length/\r<:+skp l:=by
 unfold qw at h;have h0:=(zS l).length_le;split at h
 ·cases h
 ·next ha=>
  cases h;refine⟨?_,?_,by rw[PG];lia,YD _⟩
  ·cases hk:skp l with
   |nil=>intro c hc;simp at hc
   |cons c r=>
    rw[hk]at ha;have h:=(Wh r).length_le;rw[ZH]at ha⊢;by_cases h1:c=48
    ·rw[iq h1,FS,show r.length+1-r.length=1 by lia];intro x hx;simp at hx;rw[hx,h1];rfl
    ·rw[ir h1]at ha⊢;by_cases h2:yU c=true
     ·rw[iq h2,FS,show r.length+1-(Xw r).length=(r.length-(Xw r).length)+1 by lia,Si];intro x hx;rcases OY.1 hx with rfl|hx
      ·exact h2
      ·exact sc r x hx
     ·rw[ir h2]at ha;exact absurd rfl ha
  ·cases hk:skp l with
   |nil=>rw[hk]at ha;exact absurd rfl ha
   |cons c r=>
    rw[hk]at ha;have h:=(Wh r).length_le;rw[ZH]at ha⊢;by_cases h1:c=48
    ·rw[iq h1,FS,show r.length+1-r.length=1 by lia];exact⟨by simp,fun _=>by simp⟩
    ·rw[ir h1]at ha⊢;by_cases h2:yU c=true
     ·rw[iq h2,FS,show r.length+1-(Xw r).length=(r.length-(Xw r).length)+1 by lia,Si];exact⟨by simp,fun h=>absurd (by simpa using h) h1⟩
     ·rw[ir h2]at ha;exact absurd rfl ha
section
variable{s:Tx}{fu:Nat}{od:Int×Int}
def Cp(l:Tx):Rd (List Nat):=match qw l with
 |.inl b=> .inl b
 |.inr (d,r)=> .inr (kn<|dv d,r)
theorem Ki(hs:s.length<=4096)(hf:10000<=fu){l:Tx}(hl:l<:+s):xa fu (s,(pp s l,od))=some (dK s od<|Cp l):=by
 unfold xa Cp;rw[zq<|Kd hs (by lia) hl];have h1:=hl.length_le
 cases hn:qw l with
 |inl b=>rfl
 |inr q=>
  obtain⟨d,r⟩:=q;obtain⟨g1,g2,g3,_⟩:=YR hn;simp only[dK];rw[zq<|Qq g1 g2 (by lia)<|by lia];rfl
theorem tZ(l:Tx):qw (skp l)=qw l:=by unfold qw;rw[VC]
theorem dc(hs:s.length<=4096)(hf:10000<=fu){l:Tx}(hl:l<:+s):xp fu (s,(pp s l,od))=some (dK s od<|XL l):=by
 unfold xp XL;have h2:=(zS l).trans hl;obtain⟨c0,b0,ha⟩:=ig (od:=od) hs (by lia:5000<=fu) hl;rw[zq ha];simp only;rw[zq<|Kd hs (by lia) h2,tZ];have h1:=hl.length_le
 cases hn:qw l with
 |inl b=>rfl
 |inr q=>
  obtain⟨d,r⟩:=q;obtain⟨g1,g2,g3,_⟩:=YR hn;simp only[dK];unfold kR aQ;rw[Vu,zF];rcases CL g1 g2 with⟨a1,a2⟩|⟨a1,a2⟩
  ·rw[a2,iq a1];simp only[S7,if_true];rw[ir (show¬(1000:Int)<(dv d:Int)by lia)]
  ·rw[ir (show¬dv d<=1000 by lia)]
   cases hv:Kb d with
   |mk v b=>
    cases b
    ·have:=a2 v hv;simp only[S7,if_true];rw[iq this]
    ·rfl
end
end
section
section
variable{s:Tx}{fu:Nat}{o d:Nat}{S:Tx->Rd Tr}{can:Bool}{R:(Tx×(Int×(Int×Int)))->Option (PX⊕(Tr×(Tx×(Int×(Int×Int)))))}
def Kn(s:Tx)(o d:Nat)(S:Tx->Rd Tr)(can:Bool)(R:(Tx×(Int×(Int×Int)))->Option (PX⊕(Tr×(Tx×(Int×(Int×Int)))))):Prop:=
 (can=true↔o≠d)/\o<=100/\(∀l,ZS l<|S l)/\(can=true->∀l,l<:+s->R (s,(pp s l,((((o+1:Nat):Int)),(d:Int))))=some (dK s (((o+1:Nat):Int),(d:Int))<|S l))
theorem Bm(hs:s.length<=4096)(hf:10000<=fu)(hK:Kn s o d S can R){l:Tx}(hl:l<:+s):xR R fu (s,(pp s l,((o:Int),(d:Int))))=some (dK s ((o:Int),(d:Int))<|Y0 S can l):=by
 obtain⟨hj,ho,hS,hR⟩:=hK;unfold xR Y0;have h2:=(zS l).trans hl
 cases hk:skp l with
 |nil=>
  rw[zq<|YU hs (by lia) hl hk];rfl
 |cons c r=>
  rw[hk]at h2;rw[zq<|uX hs (by lia) hl hk];try simp only
  rw[iq (c:=True) trivial,Iw,iq (c:=True) trivial,LD];by_cases hd:yU c=true
  ·rw[iq hd,iq hd,zF,iq (by trivial),zq<|Ki hs hf h2];unfold Cp
   cases hn:qw (c::r)with
   |inl b=>rfl
   |inr q=>rfl
  ·rw[ir hd,ir hd,zF];try simp only
   rw[ir<|by decide];by_cases hb:je c=true
   ·rw[iq hb,iq hb,zF];try simp only
    rw[iq (by trivial),J0 hs h2];rfl
   ·rw[ir hb,ir hb,zF];try simp only
    rw[ir<|by decide];by_cases hc:c=40
    ·rw[iq<|by rw[hc]];by_cases he:o=d
     ·have:can=false:=by
       cases ha:can
       ·rfl
       ·exact absurd he<|hj.1 ha
      rw[iq (by rw[he]),ir<|by simp[this]];rfl
     ·have ha:can=true:=hj.2 he;have hr:=jF h2;rw[xb,if_pos ⟨hc,ha⟩,J0 hs h2,wB];try simp only
      rw[xJ,wB];have e1:((o:Int))+1=(((o+1:Nat)):Int):=by lia
      rw[e1,zq<|hR ha r hr];have hm:=hS r
      cases hp:S r with
      |inl b=>rfl
      |inr q=>
       obtain⟨t,r2⟩:=q;rw[hp]at hm;have h3:=hm.1.trans hr;simp only[dK];have h4:=(zS r2).trans h3
       cases hg:skp r2 with
       |nil=>
        rw[zq<|Zf hs (by lia) h3 hg];rfl
       |cons c2 r3=>
        by_cases hi:c2=41
        ·subst hi;rw[zq<|kt hs (by lia) h3 hg sI];try simp only
         rw[ir (by decide),xJ,wB,iq<|by trivial];have e2:(((o+1:Nat)):Int)-1=(o:Int):=by lia
         rw[e2]
        ·rw[zq<|uW hs (by lia) h3 hg<|Gh hi];simp only[ir hi];rfl
    ·rw[xb,ir<|by simp[hc]];rfl
end
end
section
section
variable{s:Tx}{fu:Nat}{o d:Nat}{S:Tx->Rd Tr}{can:Bool}{R:(Tx×(Int×(Int×Int)))->Option (PX⊕(Tr×(Tx×(Int×(Int×Int)))))}
theorem aJ(hs:s.length<=4096)(hf:10000<=fu)(hK:Kn s o d S can R){l:Tx}(hl:l<:+s):xi R fu (s,(pp s l,((o:Int),(d:Int))))=some (dK s ((o:Int),(d:Int))<|ZC S can l):=by
 unfold xi ZC;have hc:=UJ (can:=can) (fun _=>hK.2.2.1) l;rw[zq<|Bm hs hf hK hl]
 cases ha:Y0 S can l with
 |inl b=>rfl
 |inr q=>
  obtain⟨t,r⟩:=q;rw[ha]at hc;have h3:=hc.1.trans hl;simp only[dK];have h4:=(zS r).trans h3
  cases hk:skp r with
  |nil=>rw[zq<|Zf hs (by lia) h3 hk];rfl
  |cons c r2=>
   rw[hk]at h4;by_cases hb:c=94
   ·subst hb;rw[zq<|kt hs (by lia) h3 hk sI];try simp only
    rw[iq (by trivial),iq (by trivial),zq<|dc hs hf<|jF h4]
    cases he:XL r2 with
    |inl b=>rfl
    |inr q=>rfl
   ·rw[zq<|uW hs (by lia) h3 hk<|Gh hb];simp only[ir hb];rfl
end
end
section
section
variable{s:Tx}{fu:Nat}{o d:Nat}{S:Tx->Rd Tr}{can:Bool}{R:(Tx×(Int×(Int×Int)))->Option (PX⊕(Tr×(Tx×(Int×(Int×Int)))))}
def NV(s:Tx)(od:Int×Int):Rd Tr->(Tr×(Tx×(Int×(Int×Int))))⊕(PX×Unit)
 |.inl b=> .inr ((37,pp s b),())
 |.inr (x,r)=> .inl (x,(s,(pp s r,od)))
theorem aE(hs:s.length<=4096)(hf:10000<=fu)(hK:Kn s o d S can R):∀(m:Nat) (t:Tr) (l:Tx) (n:Nat),l<:+s->l.length<m->m<n->
 zn (xj fu R) n (t,(s,(pp s l,((o:Int),(d:Int)))))=some (NV s ((o:Int),(d:Int))<|qF S can m t l)
 |0,t,l,n,hl,hm,hn=>by lia
 |m+1,t,l,n,hl,hm,hn=>by
  obtain⟨n,rfl⟩:∃m,n=m+1:=⟨n-1,by lia⟩;have ih:=fun t l h1 h2=>aE hs hf hK m t l n h1 h2 (by lia);rw[yf];generalize zn (xj fu R) n=L at ih;unfold xj qF;try simp only
  have h2:=(zS l).trans hl;have h3:=(zS l).length_le
  cases hk:skp l with
  |nil=>rw[zq<|Zf hs (by lia) hl hk];rfl
  |cons c r=>
   rw[hk]at h2 h3;rw[FS]at h3;have hr:=jF h2;by_cases hb:c=42
   ·subst hb;rw[zq<|kt hs (by lia) hl hk<|by rfl];try simp only
    rw[ir (by decide),iq (by trivial),iq (by trivial),zq<|aJ hs hf hK hr];have ha:=jB (can:=can) (fun _=>hK.2.2.1) r
    cases hp:ZC S can r with
    |inl b=>rfl
    |inr q=>
     obtain⟨u,r2⟩:=q;rw[hp]at ha;exact ih _ r2 (ha.1.trans hr) (by have:=ha.2;lia)
   ·by_cases hc:c=47
    ·subst hc;rw[zq<|kt hs (by lia) hl hk<|by rfl];try simp only
     rw[ir (by decide),ir (by decide),ir hb,iq (by trivial),zq<|Ki hs hf hr];have ha:=Yk r;unfold Cp
     cases hp:qw r with
     |inl b=>rfl
     |inr q=>
      obtain⟨u,r2⟩:=q;rw[hp]at ha;exact ih _ r2 (ha.1.trans hr) (by have:=ha.2;lia)
    ·rw[zq<|uW hs (by lia) hl hk<|H5 hb hc];simp only[ir hb,ir hc];rfl
theorem gk(hs:s.length<=4096)(hf:10000<=fu)(hK:Kn s o d S can R){l:Tx}(hl:l<:+s):yp R fu (s,(pp s l,((o:Int),(d:Int))))=some (dK s ((o:Int),(d:Int))<|wU S can l):=by
 unfold yp wU;have hb:=jB (can:=can) (fun _=>hK.2.2.1) l;have hc:=hl.length_le;rw[zq<|aJ hs hf hK hl]
 cases ha:ZC S can l with
 |inl b=>rfl
 |inr q=>
  obtain⟨t,r⟩:=q;rw[ha]at hb;simp only[dK];rw[zq<|aE hs hf hK (r.length+1) t r fu (hb.1.trans hl) (by lia) (by have:=hb.2;lia)]
  cases qF S can (r.length+1) t r with
  |inl b=>rfl
  |inr q=>rfl
end
end
section
section
variable{s:Tx}{fu:Nat}{o d:Nat}{S:Tx->Rd Tr}{can:Bool}{R:(Tx×(Int×(Int×Int)))->Option (PX⊕(Tr×(Tx×(Int×(Int×Int)))))}
theorem iw(hs:s.length<=4096)(hf:10000<=fu)(hK:Kn s o d S can R):∀(m:Nat) (t:Tr) (l:Tx) (n:Nat),l<:+s->l.length<m->m<n->
 (bd (zm fu (s,(pp s l,((o:Int),(d:Int)))) [43,45]) fun(m2,c2,y4)=>zn (zM fu R) n (t,m2,c2,y4))=some (NV s ((o:Int),(d:Int))<|qW S can m t l)
 |0,t,l,n,hl,hm,hn=>by lia
 |m+1,t,l,n,hl,hm,hn=>by
  obtain⟨n,rfl⟩:∃m,n=m+1:=⟨n-1,by lia⟩;have ih:=fun t l h1 h2=>iw hs hf hK m t l n h1 h2 (by lia);have h2:=(zS l).trans hl;have h3:=(zS l).length_le;have hb:∀(m2:Nat) (y:Tx×(Int×(Int×Int))),zn (zM fu R) (n+1) (t,m2,false,y)=some (.inl (t,y)):=fun m2 y=>by
   rw[yf];unfold zM;rfl
  cases hk:skp l with
  |nil=>
   rw[zq<|Zf hs (by lia) hl hk];unfold qW;rw[hk];exact hb _ _
  |cons c r=>
   rw[hk]at h2 h3;rw[FS]at h3;have hr:=jF h2;by_cases hc:c=43\/c=45
   ·have hp:[43,45].any (fun b=>OW b c)=true:=by rcases hc with rfl|rfl<;>rfl
    rw[zq<|kt hs (by lia) hl hk hp];show zn (zM fu R) (n+1) (t,c,true,(s,(pp s r,((o:Int),(d:Int)))))=_;rw[yf];generalize zn (zM fu R) n=L at ih;unfold zM qW;simp only[hk,iq hc];rw[iq (by trivial),zq<|gk hs hf hK hr];have ha:=vR (can:=can) (fun _=>hK.2.2.1) r
    cases hp:wU S can r with
    |inl b=>rfl
    |inr q=>
     obtain⟨u,r2⟩:=q;rw[hp]at ha;exact ih _ r2 (ha.1.trans hr) (by have:=ha.2;lia)
   ·have hd:=not_or.1 hc;rw[zq<|uW hs (by lia) hl hk<|H5 hd.1 hd.2];unfold qW;simp only[hk,ir hc];exact hb _ _
theorem ij(hs:s.length<=4096)(hf:10000<=fu)(hK:Kn s o d S can (zo fu)){l:Tx}(hl:l<:+s):zo (fu+1) (s,(pp s l,((o:Int),(d:Int))))=some (dK s ((o:Int),(d:Int))<|Xg S can l):=by
 have fin:∀(l':Tx) (f:Tr->Tr),l'<:+s->(bd (bd (yp (zo fu) fu (s,(pp s l',((o:Int),(d:Int))))) fun z=>match z with
  |.inl q=>(some (.inr (q,())):Option ((Tr×(Tx×(Int×(Int×Int))))⊕(PX×Unit)))
  |.inr (q2,y2)=>some (.inl (f q2,y2))) fun s1=>match s1 with
  |.inl (t1,t2)=>(bd (zm fu t2 [43,45]) fun(m2,c2,y4)=>
   bd (zn (zM fu<|zo fu) fu (t1,m2,c2,y4)) fun s2=>match s2 with
   |.inl (t6,t7)=>some<|Sum.inr (t6,t7)
   |.inr (q7,_)=>some<|Sum.inl q7)
  |.inr (q8,_)=>some<|Sum.inl q8)=some (dK s ((o:Int),(d:Int)) (match wU S can l' with
  |.inl b=> .inl b
  |.inr (t,r2)=>qW S can (r2.length+1) (f t) r2)):=fun l' f ha=>by
  have hb:=vR (can:=can) (fun _=>hK.2.2.1) l';have hd:=ha.length_le;rw[zq<|gk hs hf hK ha]
  cases hp:wU S can l' with
  |inl b=>rfl
  |inr q=>
   obtain⟨u,r2⟩:=q;rw[hp]at hb;have h1:=iw hs hf hK (r2.length+1) (f u) r2 fu (hb.1.trans ha) (by lia) (by have:=hb.2;lia);show(bd (zm fu (s,(pp s r2,((o:Int),(d:Int)))) [43,45]) fun(m2,c2,y4)=>
    bd (zn (zM fu<|zo fu) fu (f u,m2,c2,y4)) fun s2=>match s2 with
    |.inl (t6,t7)=>some<|Sum.inr (t6,t7)
    |.inr (q7,_)=>some<|Sum.inl q7)=some (dK s ((o:Int),(d:Int)) (qW S can (r2.length+1) (f u) r2))
   obtain⟨⟨m2,c2,y4⟩,h2,h3⟩:=ZP h1;rw[zq h2];show bd (zn (zM fu<|zo fu) fu (f u,m2,c2,y4)) _=_;rw[zq h3]
   cases qW S can (r2.length+1) (f u) r2 with
   |inl b=>rfl
   |inr q=>rfl
 unfold zo Xg;have h2:=(zS l).trans hl
 cases hk:skp l with
 |nil=>
  rw[zq<|Zf hs (by lia) hl hk];exact fin [] id<|Tu
 |cons c r=>
  rw[hk]at h2;by_cases hc:c=45
  ·subst hc;rw[zq<|kt hs (by lia) hl hk sI];exact fin r (fun t=> .mk 126 [] 0 0 t .nil)<|jF h2
  ·rw[zq<|uW hs (by lia) hl hk<|Gh hc];simp only[ir hc];exact fin (c::r) id h2
theorem gI(hs:s.length<=4096):∀(r o d fu:Nat) (l:Tx),o+r=d->d<=100->10000+r<fu->l<:+s->zo fu (s,(pp s l,((o:Int),(d:Int))))=some (dK s ((o:Int),(d:Int))<|JC r l)
 |0,o,d,fu,l,h1,h2,h3,hl=>by
  obtain⟨fu,rfl⟩:∃m,fu=m+1:=⟨fu-1,by lia⟩;refine ij hs (by lia) (S:=fun _=> .inl []) (can:=false) ⟨⟨fun h=>(by cases h),fun h=>absurd (by lia) h⟩,by lia,fun l=>(Tu:[]<:+l),fun h=>(by cases h)⟩ hl
 |r+1,o,d,fu,l,h1,h2,h3,hl=>by
  obtain⟨fu,rfl⟩:∃m,fu=m+1:=⟨fu-1,by lia⟩;refine ij hs (by lia) ⟨⟨fun _=>by lia,fun _=>rfl⟩,by lia,YQ r,fun _ l hl=> ?_⟩ hl;exact gI hs r (o+1) d fu l (by lia) h2 (by lia) hl
theorem cM(hf:20000<=fu){a:Int}:wX fu s a=some (qx s a):=by
 unfold wX qx;by_cases h1:a<0
 ·rw[iq h1,iq h1,zF];rfl
 ·rw[ir h1,ir h1];by_cases h2:100<a
  ·rw[iq h2,iq h2,zF];rfl
  ·rw[ir h2,ir h2,zF];rw[ir<|by decide];by_cases h3:4096<s.length
   ·rw[vq,iq h3]
   ·rw[xb,ir h3];have hs:s.length<=4096:=by lia
    have h4:=gI hs a.toNat 0 a.toNat fu s (by lia) (by lia) (by lia)<|RU _;have e1:pp s s=0:=by unfold pp;lia
    have e2:(a.toNat:Int)=a:=by lia
    rw[e1,e2]at h4;rw[show zo fu (s,(0,(0,a)))=_ from h4];have ha:=YQ a.toNat s
    cases hp:JC a.toNat s with
    |inl b=>
     show ck (37=37) (ck (kV<|pp s b)<|some (Tr.nil,pp s b,(2:Int)))=_;have:=eE (l:=b) hs;rw[vE rfl,vE ⟨by lia,by lia⟩];rfl
    |inr q=>
     obtain⟨t,r⟩:=q;rw[hp]at ha;show(bd (zC fu (s,(pp s r,(((0:Nat):Int),a)))) fun(m1,c1,y2)=>_)=_;have hr:=ha.1;have h5:=(zS r).trans hr
     cases hk:skp r with
     |nil=>
      rw[zq<|YU hs (by lia) hr hk];show(if pp s []<(s.length:Int)then _ else _)=_;rw[ir<|by rw[WU];lia];simp only[hk]
     |cons c r2=>
      rw[hk]at h5;rw[zq<|uX hs (by lia) hr hk];show(if pp s (c::r2)<(s.length:Int)then _ else _)=_;have:=eE (l:=c::r2) hs;rw[iq<|KF h5,vE (by trivial),vE ⟨by show-9223372036854775808<=pp s (c::r2);lia,by show pp s (c::r2)<=_;lia⟩];simp only[hk];rfl
end
end
section
def XE:Nat->Tr->Prop
 |_,.nil=>True
 |0,.mk .. =>False
 |n+1,.mk _ m _ _ l r=>m.length<=4096/\XE n l/\XE n r
theorem XE.nil{n:Nat}:XE n .nil:=by cases n<;>trivial
theorem XE.up:∀{n k:Nat}{t:Tr},XE n t->n<=k->XE k t
 |n,k,.nil,_,_=> .nil
 |0,_,.mk ..,h,_=>h.elim
 |n+1,k,.mk a m c i l r,h,hk=>by
  obtain⟨k,rfl⟩:∃j,k=j+1:=⟨k-1,by lia⟩;exact⟨h.1,XE.up h.2.1 (by lia),XE.up h.2.2<|by lia⟩
theorem Xe{n k:Nat}{a c:Nat}{m:List Nat}{i:Int}{l r:Tr}(hm:m.length<=4096)(hl:XE n l)(hr:XE n r)(hk:n<k:=by lia):XE k (.mk a m c i l r):=by
 obtain⟨k,rfl⟩:∃j,k=j+1:=⟨k-1,by lia⟩;exact⟨hm,hl.up (by lia),hr.up<|by lia⟩
def Oz(L:Nat):Rd Tr->Prop
 |.inl _=>True
 |.inr (t,r)=>XE (L-r.length) t
theorem gz{l d r:Tx}(h:qw l=.inr (d,r))(hl:l.length<=4096):(kn<|dv d).length<=4096:=by
 obtain⟨g1,_,g3,_⟩:=YR h;have:=Zi d g1;lia
section
variable{S:Tx->Rd Tr}{can:Bool}
theorem Bl(hS:∀l,ZS l<|S l)(hO:can=true->∀l:Tx,l.length<=4096->Oz l.length (S l)){l:Tx}(hl:l.length<=4096):Oz l.length (Y0 S can l):=by
 have h0:=(zS l).length_le;unfold Y0;split
 ·trivial
 ·next c r e=>
  rw[e,FS]at h0;split
  ·have ha:=Yk (c::r);split
   ·trivial
   ·next d r2 e2=>
    rw[e2]at ha;have:=ha.2;rw[FS]at this;exact Xe (gz e2<|by rw[FS];lia) (n:=0) .nil .nil
  ·split
   ·exact Xe (n:=0) (by simp) .nil .nil
   ·split
    ·next hc=>
     have h1:=hO hc.2 r (by lia);have h2:=hS r;split
     ·trivial
     ·next t r2 e2=>
      rw[e2]at h1 h2;have h3:=(zS r2).length_le;split
      ·trivial
      ·next c2 r3 e3=>
       rw[e3,FS]at h3;split
       ·exact XE.up h1<|by lia
       ·trivial
    ·trivial
theorem dD(hS:∀l,ZS l<|S l)(hO:can=true->∀l:Tx,l.length<=4096->Oz l.length (S l)){l:Tx}(hl:l.length<=4096):Oz l.length (ZC S can l):=by
 have h0:=Bl hS hO hl;have ha:=UJ (can:=can) (fun _=>hS) l;unfold ZC;split
 ·trivial
 ·next t r e=>
  rw[e]at h0 ha;have h2:=(zS r).length_le;have h4:=ha.2;split
  ·next e2=>exact XE.up h0<|by rw[R1];lia
  ·next c r2 e2=>
   rw[e2,FS]at h2;split
   ·have h3:=gb r2;split
    ·trivial
    ·next n r3 e3=>
     rw[e3]at h3;have:=h3.2;exact Xe (by simp) h0 .nil
   ·exact XE.up h0<|by rw[FS];lia
theorem QH(hS:∀l,ZS l<|S l)(hO:can=true->∀l:Tx,l.length<=4096->Oz l.length (S l)){L:Nat}:∀(n:Nat) (t:Tr) (l:Tx),l.length<=L->L<=4096->XE (L-l.length) t->Oz L (qF S can n t l)
 |0,t,l,_,_,h=>h
 |n+1,t,l,hl,hL,h=>by
  have h0:=(zS l).length_le;unfold qF;split
  ·next e=>exact XE.up h<|by rw[R1];lia
  ·next c r e=>
   rw[e,FS]at h0;split
   ·have h1:=dD hS hO (l:=r) (by lia);have ha:=jB (can:=can) (fun _=>hS) r;split
    ·trivial
    ·next u r2 e2=>
     rw[e2]at h1 ha;have:=ha.2;exact QH hS hO n _ r2 (by lia) hL<|Xe (n:=L-r2.length-1) (by simp) (h.up<|by lia)<|XE.up h1<|by lia
   ·split
    ·have ha:=Yk r;split
     ·trivial
     ·next d r2 e2=>
      rw[e2]at ha;have:=ha.2;exact QH hS hO n _ r2 (by lia) hL<|Xe (gz e2<|by lia) h .nil
    ·exact XE.up h<|by rw[FS];lia
theorem XZ(hS:∀l,ZS l<|S l)(hO:can=true->∀l:Tx,l.length<=4096->Oz l.length (S l)){l:Tx}(hl:l.length<=4096:=by lia):Oz l.length (wU S can l):=by
 have h1:=dD hS hO hl;have ha:=jB (can:=can) (fun _=>hS) l;unfold wU;split
 ·trivial
 ·next t r e=>
  rw[e]at h1 ha;exact QH hS hO _ _ r (by have:=ha.2;lia) hl h1
theorem UI(hS:∀l,ZS l<|S l)(hO:can=true->∀l:Tx,l.length<=4096->Oz l.length (S l)){L:Nat}:∀(n:Nat) (t:Tr) (l:Tx),l.length<=L->L<=4096->XE (L-l.length) t->Oz L (qW S can n t l)
 |0,t,l,_,_,h=>h
 |n+1,t,l,hl,hL,h=>by
  have h0:=(zS l).length_le;unfold qW;split
  ·next e=>exact XE.up h<|by rw[R1];lia
  ·next c r e=>
   rw[e,FS]at h0;split
   ·have h1:=XZ hS hO (l:=r);have ha:=vR (can:=can) (fun _=>hS) r;split
    ·trivial
    ·next u r2 e2=>
     rw[e2]at h1 ha;have:=ha.2;exact UI hS hO n _ r2 (by lia) hL<|Xe (n:=L-r2.length-1) (by simp) (h.up<|by lia)<|XE.up h1<|by lia
   ·exact XE.up h<|by rw[FS];lia
theorem gK(hS:∀l,ZS l<|S l)(hO:can=true->∀l:Tx,l.length<=4096->Oz l.length (S l)){l:Tx}(hl:l.length<=4096):Oz l.length (Xg S can l):=by
 have h0:=(zS l).length_le;unfold Xg;split
 ·next e=>
  have h1:=XZ hS hO (l:=[]) (by simp);have ha:=vR (can:=can) (fun _=>hS) [];split
  ·trivial
  ·next t r e2=>
   rw[e2]at ha;have:=ha.2;simp at this
 ·next c r e=>
  rw[e,FS]at h0;split
  ·have h1:=XZ hS hO (l:=r);have ha:=vR (can:=can) (fun _=>hS) r;split
   ·trivial
   ·next t r2 e2=>
    rw[e2]at h1 ha;have:=ha.2;exact UI hS hO _ _ r2 (by lia) hl<|Xe (by simp) h1 .nil
  ·have h1:=XZ hS hO (l:=c::r) (by rw[FS];lia);have ha:=vR (can:=can) (fun _=>hS) (c::r);split
   ·trivial
   ·next t r2 e2=>
    rw[e2]at h1 ha;have:=ha.2;rw[FS]at this;exact UI hS hO _ _ r2 (by lia) hl<|XE.up h1<|by rw[FS];lia
end
theorem lr:∀(n:Nat) (l:Tx),l.length<=4096->Oz l.length (JC n l)
 |0,l,hl=>gK (S:=fun _=> .inl []) (can:=false) (fun l=>(Tu:[]<:+l)) (fun h=>(by cases h)) hl
 |n+1,l,hl=>gK (YQ n) (fun _=>lr n) hl
theorem oV(s:Tx)(a:Int):XE 4096 (qx s a).1:=by
 unfold qx;split
 ·exact .nil
 ·split
  ·exact .nil
  ·split
   ·exact .nil
   ·next h3=>
    have h:=lr a.toNat s (by lia);split
    ·exact .nil
    ·next t r e=>
     rw[e]at h;split
     ·exact XE.up h<|by lia
     ·exact .nil
theorem WH:∀(n fu:Nat) (t:Tr) (k:Int),XE n t->n<fu->(n:Int)<=k->k<=4200->xP fu t k=some t
 |n,fu,.nil,k,_,h1,_,_=>by
  obtain⟨fu,rfl⟩:∃j,fu=j+1:=⟨fu-1,by lia⟩;rfl
 |0,_,.mk ..,_,h,_,_,_=>h.elim
 |n+1,fu,.mk a m c i l r,k,h,h1,h2,h3=>by
  obtain⟨fu,rfl⟩:∃j,fu=j+1:=⟨fu-1,by lia⟩;have i1:=WH n fu l (k-1) h.2.1 (by lia) (by lia) (by lia);have i2:=WH n fu r (k-1) h.2.2 (by lia) (by lia) (by lia);unfold xP;rw[ir (c:=(Tr.mk a m c i l r).isNil=true) Pa,xb];simp only[Tr.opt,zF];rw[xJ,i1,zF,xJ,i2,zF];rfl
theorem K9:∀(n fu:Nat) (t:Tr),XE n t->n+5000<fu->vX fu t t=some true
 |n,fu,.nil,_,h1=>by
  obtain⟨fu,rfl⟩:∃j,fu=j+1:=⟨fu-1,by lia⟩;rfl
 |0,_,.mk ..,h,_=>h.elim
 |n+1,fu,.mk a m c i l r,h,h1=>by
  obtain⟨fu,rfl⟩:∃j,fu=j+1:=⟨fu-1,by lia⟩;have i1:=K9 n fu l h.2.1 (by lia);have i2:=K9 n fu r h.2.2 (by lia);have hm:=h.1;unfold vX;rw[ir (c:=(Tr.mk a m c i l r).isNil=true) Pa,ir (c:=(Tr.mk a m c i l r).isNil=true) Pa];simp only[Tr.opt,zF];rw[iq (by trivial),iq (by trivial),iq (by trivial),zq (Vx (by lia)<|by lia),iq (by simp),i1,zF,iq (by trivial),i2,zF]
end
def qh:Tr->Nat
 |.nil=>0
 |.mk op _ _ _ _ _=>if op=43\/op=45\/op=126 then 3 else if op=42\/op=47 then 2 else if op=94 then 1 else 0
def UG(m:List Nat):Tx:=jO (nv m+1)<|nv m
def wr(k m:Nat)(x:Tx):Tx:=if k<=m then x else 40::(x++[41])
def tx:Tr->Tx
 |.nil=>[]
 |.mk op m c i l r=>
  if op=110 then UG m
  else if op=118 then[c]
  else if op=126 then 45::wr (qh l) 2 (tx l)
  else if op=94 then wr (qh l) 0 (tx l)++94::ZM i
  else if op=47 then wr (qh l) 2 (tx l)++47::UG m
  else if op=42 then wr (qh l) 2 (tx l)++42::wr (qh r) 1 (tx r)
  else wr (qh l) 3 (tx l)++op::wr (qh r) 2 (tx r)
def bw(k m b:Nat):Nat:=if k<=m then b else b+1
def br:Tr->Nat
 |.nil=>0
 |.mk op _ _ _ l r=>
  if op=110\/op=118 then 0
  else if op=126\/op=47 then bw (qh l) 2 (br l)
  else if op=94 then bw (qh l) 0 (br l)
  else if op=42 then max (bw (qh l) 2<|br l) (bw (qh r) 1<|br r)
  else max (bw (qh l) 3<|br l) (bw (qh r) 2<|br r)
theorem gn:∀(f u:Nat),u<10^(f+1)->dv (jO (f+1) u)=u/\Dg (jO (f+1) u)/\jO (f+1) u≠[]/\((jO (f+1) u).headD 0=48->u=0)
 |f,u,h=>by
  unfold jO;by_cases h1:u<10
  ·rw[iq h1];refine⟨?_,?_,by simp,?_⟩
   ·show 10*0+(48+u-48)=u;lia
   ·intro c hc;rw[OZ.1 hc];exact xI.2 ⟨by lia,by lia⟩
   ·intro e;have e:48+u=48:=e;lia
  ·rw[ir h1]
   match f,h with
   |0,h=>exact absurd (by simpa using h) h1
   |f+1,h=>
    obtain⟨i1,i2,i3,i4⟩:=gn f (u/10) (by rw[Rh]at h;lia);refine⟨?_,?_,by simp,?_⟩
    ·rw[UA,i1];lia
    ·intro c hc;rcases OX.1 hc with hc|hc
     ·exact i2 c hc
     ·rw[OZ.1 hc];exact xI.2 ⟨by lia,by lia⟩
    ·intro e;obtain⟨c,k,hk⟩:=List.exists_cons_of_ne_nil i3;rw[hk]at e i4;have:=i4 e;lia
theorem fe(u:Nat):u<10^(u+1):=by
 have:u<2^u:=Nat.lt_two_pow_self;have h2:2^u<=10^u:=Th (by decide) u;have h3:10^u<=10^(u+1):=Nat.pow_le_pow_right (by decide) (by lia);lia
theorem fS(m:List Nat):dv (UG m)=nv m/\Dg (UG m)/\Nz (UG m):=by
 obtain⟨h1,h2,h3,h4⟩:=gn (nv m) (nv m)<|fe _;refine⟨h1,h2,h3,fun e=> ?_⟩;have h5:=h4 e;unfold UG;rw[h5];rfl
def Gt:Tr->Prop
 |.nil=>False
 |.mk op m c i l r=>
  (op=110/\c=0/\i=0/\l=.nil/\r=.nil/\kn (nv m)=m)\/(op=118/\m=[]/\je c=true/\i=0/\l=.nil/\r=.nil)\/
  (op=126/\m=[]/\c=0/\i=0/\Gt l/\r=.nil)\/(op=94/\m=[]/\c=0/\0<=i/\i<=1000/\Gt l/\r=.nil)\/
  (op=47/\kn (nv m)=m/\c=0/\i=0/\Gt l/\r=.nil)\/(op=42/\m=[]/\c=0/\i=0/\Gt l/\Gt r)\/((op=43\/op=45)/\m=[]/\c=0/\i=0/\Gt l/\Gt r)
def Hd(b:Bool)(x:Tx):Prop:=∃c k,x=c::k/\c≠32/\(b=true->c≠45)
theorem Hd.app{b:Bool}{x y:Tx}(h:Hd b x):Hd b (x++y):=by
 obtain⟨c,k,rfl,h1,h2⟩:=h;exact⟨c,k++y,rfl,h1,h2⟩
theorem tK{l:Tr}{m:Nat}(hm:m<=2)(h:Hd (decide<|qh l<=2) (tx l)):Hd true (wr (qh l) m<|tx l):=by
 unfold wr;by_cases hl:qh l<=m
 ·rw[iq hl];obtain⟨c,k,e,h1,h2⟩:=h;exact⟨c,k,e,h1,fun _=>h2<|by simp;lia⟩
 ·rw[ir hl];exact⟨40,_,rfl,by decide,fun _=>by decide⟩
theorem Eg(m:List Nat):Hd true (UG m):=by
 obtain⟨_,h2,h3,_⟩:=fS m;obtain⟨c,k,hk⟩:=List.exists_cons_of_ne_nil h3;have:=xI.1 (h2 c<|by rw[hk];exact Nm);exact⟨c,k,hk,by lia,fun _=>by lia⟩
theorem Hd.any{b:Bool}{x:Tx}(h:Hd true x):Hd b x:=by
 obtain⟨c,k,e,h1,h2⟩:=h;exact⟨c,k,e,h1,fun _=>h2 rfl⟩
theorem bB:∀t:Tr,Gt t->Hd (decide<|qh t<=2) (tx t)
 |.nil,h=>h.elim
 |.mk op m c i l r,h=>by
  rcases h with⟨rfl,_⟩|⟨rfl,_,hc,_⟩|⟨rfl,_⟩|⟨rfl,_,_,_,_,hl,_⟩|⟨rfl,_,_,_,hl,_⟩|⟨rfl,_,_,_,hl,_⟩|⟨ha,_,_,_,hl,_⟩
  ·exact(Eg m).any
  ·have hc:97<=c/\c<=122:=by simpa[je]using hc
   exact⟨c,[],rfl,by lia,fun _=>by lia⟩
  ·exact⟨45,_,rfl,by decide,fun h=>by simp[qh]at h⟩
  ·exact((tK (m:=0) (by decide)<|bB l hl).app).any
  ·exact((tK (m:=2) (by decide)<|bB l hl).app).any
  ·exact((tK (m:=2) (by decide)<|bB l hl).app).any
  ·have h1:=bB l hl;have hb:qh (.mk op m c i l r)=3:=by
    rcases ha with rfl|rfl<;>rfl
   have hd:tx (.mk op m c i l r)=wr (qh l) 3 (tx l)++op::wr (qh r) 2 (tx r):=by
    rcases ha with rfl|rfl<;>rfl
   rw[hd,hb];obtain⟨a,k,e,g1,_⟩:=h1;unfold wr;split
   ·rw[e];exact⟨a,_,rfl,g1,fun h=>by simp at h⟩
   ·exact⟨40,_,rfl,by decide,fun h=>by simp at h⟩
theorem QP(t:Tr):qh t<=3:=by
 cases t with
 |nil=>exact PF _
 |mk op m c i l r=>
  show(if op=43\/op=45\/op=126 then 3 else if op=42\/op=47 then 2 else if op=94 then 1 else 0)<=3;repeat' split
  all_goals lia
section
theorem pb{l d r:Tx}(h:qw l=.inr (d,r)):d.length+r.length<=l.length:=by
 unfold qw at h;have h0:=(zS l).length_le;have h1:=(YD<|skp l).length_le;split at h
 ·cases h
 ·injection h with h;injection h with h2 h3;rw[<-h2,<-h3,PG];lia
theorem Xq:∀(f u j:Nat),u<10^(j+1)->(jO f u).length<=j+1
 |0,_,_,_=>by simp[jO]
 |f+1,u,j,h=>by
  unfold jO;by_cases h1:u<10
  ·rw[iq h1];simp
  ·rw[ir h1]
   match j,h with
   |0,h=>exact absurd (by simpa using h) h1
   |j+1,h=>
    have:=Xq f (u/10) j (by rw[Rh]at h;lia);rw[O1];simp;lia
theorem lf{d:Tx}(hd:Dg d)(hz:Nz d)(f:Nat):(jO f<|dv d).length<=d.length:=by
 obtain⟨j,hj⟩:∃j,d.length=j+1:=⟨d.length-1,by have:=List.length_pos_iff.2 hz.1;lia⟩;rw[hj];exact Xq _ _ j<|by rw[<-hj];exact la _ d rfl hd
theorem oI{l d r:Tx}(h:qw l=.inr (d,r)):(UG<|kn<|dv d).length+r.length<=l.length:=by
 have h1:=pb h;obtain⟨g1,g2,_⟩:=YR h;have h2:=lf g1 g2<|dv d+1;unfold UG;rw[ZZ];lia
theorem E5{l r:Tx}{n:Int}(h:XL l=.inr (n,r)):0<=n/\n<=1000/\(ZM n).length+r.length<=l.length:=by
 unfold XL at h;split at h
 ·cases h
 ·next d r' e=>
  have h1:=pb e;obtain⟨g1,g2,_⟩:=YR e;have h2:=lf g1 g2 20;split at h
  ·next h3=>
   injection h with h;injection h with h4 h5;subst h4 h5;refine⟨by lia,by lia,?_⟩;unfold ZM;rw[xb,Ry];lia
  ·cases h
def Gk(m k L:Nat)(t:Tr)(r:Tx):Prop:=Gt t/\bw (qh t) m (br t)<=k/\(wr (qh t) m<|tx t).length+r.length<=L
def Gz(m k L:Nat):Rd Tr->Prop
 |.inl _=>True
 |.inr (t,r)=>Gk m k L t r
theorem W4(a m:Nat)(x:Tx):(wr a m x).length=x.length+if a<=m then 0 else 2:=by
 unfold wr;split<;>simp
theorem Gk.up{m m' k L L':Nat}{t:Tr}{r r':Tx}(h:Gk m k L t r)(hm:m<=m')(hr:r'.length+L<=r.length+L'):Gk m' k L' t r':=by
 obtain⟨h1,h2,h3⟩:=h;unfold bw at h2;rw[W4]at h3;refine⟨h1,?_,?_⟩
 ·unfold bw;split at h2
  ·rw[vq];exact h2
  ·split<;>lia
 ·rw[W4];split at h3
  ·rw[vq];lia
  ·split<;>lia
theorem Q8{m k L:Nat}{t:Tr}{r:Tx}(hg:Gt t)(hl:qh t<=m)(hb:br t<=k)(hx:(tx t).length+r.length<=L):Gk m k L t r:=
 ⟨hg,by unfold bw;rw[iq hl];exact hb,by unfold wr;rw[iq hl];exact hx⟩
section
variable{S:Tx->Rd Tr}{can:Bool}{k:Nat}
theorem FO(hS:∀l,ZS l<|S l)(hO:can=true->1<=k/\∀l:Tx,Gz 3 (k-1) l.length<|S l)(l:Tx):Gz 0 k l.length (Y0 S can l):=by
 have h0:=(zS l).length_le;unfold Y0;split
 ·trivial
 ·next c r e=>
  rw[e,FS]at h0;split
  ·split
   ·trivial
   ·next d r2 e2=>
    have:=oI e2;rw[FS]at this;exact Q8 (.inl ⟨rfl,rfl,rfl,rfl,rfl,by rw[ZZ]⟩) (O3 0) (PF _) (by show(UG<|kn<|dv d).length+_<=_;lia)
  ·split
   ·next hc=>exact Q8 (.inr (.inl ⟨rfl,rfl,hc,rfl,rfl,rfl⟩)) (O3 0) (PF _) (by show 1+_<=_;lia)
   ·split
    ·next hc=>
     obtain⟨h1,h2⟩:=hO hc.2;have h2:=h2 r;split
     ·trivial
     ·next t r2 e2=>
      rw[e2]at h2;have h3:=(zS r2).length_le;split
      ·trivial
      ·next c2 r3 e3=>
       rw[e3,FS]at h3;split
       ·obtain⟨g1,g2,g3⟩:=h2;unfold bw at g2;rw[iq<|QP t]at g2;rw[W4,iq<|QP t]at g3;refine⟨g1,?_,?_⟩
        ·unfold bw;split<;>lia
        ·rw[W4];split<;>lia
       ·trivial
    ·trivial
theorem pR(hS:∀l,ZS l<|S l)(hO:can=true->1<=k/\∀l:Tx,Gz 3 (k-1) l.length<|S l)(l:Tx):Gz 1 k l.length (ZC S can l):=by
 have h0:=FO hS hO l;unfold ZC;split
 ·trivial
 ·next t r e=>
  rw[e]at h0;have h2:=(zS r).length_le;split
  ·exact Gk.up h0 (by lia)<|by simp
  ·next c r2 e2=>
   rw[e2,FS]at h2;split
   ·split
    ·trivial
    ·next n r3 e3=>
     obtain⟨q1,q2,q3⟩:=E5 e3;obtain⟨g1,g2,g3⟩:=h0;exact Q8 (.inr (.inr (.inr (.inl ⟨rfl,rfl,rfl,q1,q2,g1,rfl⟩)))) (O3 1) g2 (by
      show(wr (qh t) 0 (tx t)++94::ZM n).length+_<=_;rw[O1,FS];lia)
   ·exact Gk.up h0 (by lia)<|by rw[FS];lia
theorem Jk(hS:∀l,ZS l<|S l)(hO:can=true->1<=k/\∀l:Tx,Gz 3 (k-1) l.length<|S l){L:Nat}:∀(n:Nat) (t:Tr) (l:Tx),Gk 2 k L t l->Gz 2 k L (qF S can n t l)
 |0,t,l,h=>h
 |n+1,t,l,h=>by
  have h0:=(zS l).length_le;unfold qF;split
  ·exact Gk.up h (by lia)<|by simp
  ·next c r e=>
   rw[e,FS]at h0;split
   ·have h1:=pR hS hO r;split
    ·trivial
    ·next u r2 e2=>
     rw[e2]at h1;obtain⟨g1,g2,g3⟩:=h;obtain⟨q1,q2,q3⟩:=h1;exact Jk hS hO n _ r2 (Q8 (.inr (.inr (.inr (.inr (.inr (.inl ⟨rfl,rfl,rfl,rfl,g1,q1⟩)))))) (O3 2) (Nat.max_le.2 ⟨g2,q2⟩) (by
      show(wr (qh t) 2 (tx t)++42::wr (qh u) 1 (tx u)).length+_<=_;rw[O1,FS];lia))
   ·split
    ·split
     ·trivial
     ·next d r2 e2=>
      have q3:=oI e2;obtain⟨g1,g2,g3⟩:=h;exact Jk hS hO n _ r2 (Q8 (.inr (.inr (.inr (.inr (.inl ⟨rfl,by rw[ZZ],rfl,rfl,g1,rfl⟩))))) (O3 2) g2 (by
       show(wr (qh t) 2 (tx t)++47::UG (kn<|dv d)).length+_<=_;rw[O1,FS];lia))
    ·exact Gk.up h (by lia)<|by rw[FS];lia
theorem Qm(hS:∀l,ZS l<|S l)(hO:can=true->1<=k/\∀l:Tx,Gz 3 (k-1) l.length<|S l)(l:Tx):Gz 2 k l.length (wU S can l):=by
 have h1:=pR hS hO l;unfold wU;split
 ·trivial
 ·next t r e=>
  rw[e]at h1;exact Jk hS hO _ _ r<|Gk.up h1 (by lia)<|by lia
theorem K7(hS:∀l,ZS l<|S l)(hO:can=true->1<=k/\∀l:Tx,Gz 3 (k-1) l.length<|S l){L:Nat}:∀(n:Nat) (t:Tr) (l:Tx),Gk 3 k L t l->Gz 3 k L (qW S can n t l)
 |0,t,l,h=>h
 |n+1,t,l,h=>by
  have h0:=(zS l).length_le;unfold qW;split
  ·exact Gk.up h (by lia)<|by simp
  ·next c r e=>
   rw[e,FS]at h0;split
   ·next ha=>
    have h1:=Qm hS hO r;split
    ·trivial
    ·next u r2 e2=>
     rw[e2]at h1;obtain⟨g1,g2,g3⟩:=h;obtain⟨q1,q2,q3⟩:=h1;refine K7 hS hO n _ r2<|Q8 (.inr (.inr (.inr (.inr (.inr (.inr ⟨ha,rfl,rfl,rfl,g1,q1⟩)))))) (QP _) ?_ ?_
     ·rcases ha with rfl|rfl<;>exact Nat.max_le.2 ⟨g2,q2⟩
     ·have:tx (.mk c [] 0 0 t u)=wr (qh t) 3 (tx t)++c::wr (qh u) 2 (tx u):=by rcases ha with rfl|rfl<;>rfl
      rw[this,O1,FS];lia
   ·exact Gk.up h (by lia)<|by rw[FS];lia
theorem im(hS:∀l,ZS l<|S l)(hO:can=true->1<=k/\∀l:Tx,Gz 3 (k-1) l.length<|S l)(l:Tx):Gz 3 k l.length (Xg S can l):=by
 have h0:=(zS l).length_le;unfold Xg;split
 ·next e=>
  have ha:=vR (can:=can) (fun _=>hS) [];split
  ·trivial
  ·next t r e2=>
   rw[e2]at ha;have:=ha.2;simp at this
 ·next c r e=>
  rw[e,FS]at h0;split
  ·have h1:=Qm hS hO r;split
   ·trivial
   ·next t r2 e2=>
    rw[e2]at h1;obtain⟨q1,q2,q3⟩:=h1;exact K7 hS hO _ _ r2 (Q8 (.inr (.inr (.inl ⟨rfl,rfl,rfl,rfl,q1,rfl⟩))) (O3 3) q2 (by
     show(45::wr (qh t) 2 (tx t)).length+_<=_;rw[FS];lia))
  ·have h1:=Qm hS hO (c::r);split
   ·trivial
   ·next t r2 e2=>
    rw[e2]at h1;exact K7 hS hO _ _ r2<|Gk.up h1 (by lia)<|by rw[FS];lia
end
theorem iu:∀(k:Nat) (l:Tx),Gz 3 k l.length (JC k l)
 |0,l=>im (k:=0) (S:=fun _=> .inl []) (can:=false) (fun l=>(Tu:[]<:+l)) (fun h=>(by cases h)) l
 |k+1,l=>im (k:=k+1) (YQ k) (fun _=>⟨by lia,iu k⟩) l
theorem tR{s:Tx}{a:Int}{t:Tr}{x e:Int}(h:qx s a=(t,x,e)):(e=0/\x=(s.length:Int)/\Gt t/\br t<=100/\(tx t).length<=s.length/\s.length<=4096)\/
 (e≠0/\t=.nil/\0<=x/\x<=(s.length:Int)/\x<=4096):=by
 unfold qx at h;split at h
 ·cases h;exact .inr ⟨by decide,rfl,by lia,by lia,by lia⟩
 ·split at h
  ·cases h;exact .inr ⟨by decide,rfl,by lia,by lia,by lia⟩
  ·split at h
   ·cases h;exact .inr ⟨by decide,rfl,by lia,by lia,by lia⟩
   ·have hg:=iu a.toNat s;split at h
    ·cases h;exact .inr ⟨by decide,rfl,by lia,by lia,by lia⟩
    ·next u r e2=>
     rw[e2]at hg;split at h
     ·cases h;obtain⟨g1,g2,g3⟩:=hg;unfold bw at g2;rw[iq<|QP _]at g2;rw[W4,iq<|QP _]at g3;exact .inl ⟨rfl,rfl,g1,by lia,by lia,by lia⟩
     ·cases h;exact .inr ⟨by decide,rfl,by lia,by lia,by lia⟩
theorem FH{t:Tr}(h:Gt t):0<(tx t).length:=by
 obtain⟨c,k,e,_⟩:=bB t h;rw[e];simp
end
theorem fJ{x:Int}(h0:0<=x)(h:x<18446744073709551616):((Jx x:Nat):Int)=x:=by unfold Jx;omega
section
variable{b v1 v0 u w q r fu x y s lo:Nat}
theorem rr(ha:q*v1+r=u)(h:q*v0<=b*r+w):q*(v1*b+v0)<=u*b+w:=by grind [Nat.mul_add,Nat.mul_assoc,RI,RQ]
theorem lD(ha:q*v1+r=u)(h:b*r+w<q*v0):u*b+w<q*(v1*b+v0):=by grind [Nat.mul_add,Nat.mul_assoc,RI,RQ]
theorem eF(hv:0<v1*b+v0)(ha:q*v1+r=u)(hb:(u*b+w)/(v1*b+v0)<=q)(h:q*v0<=b*r+w):q=(u*b+w)/(v1*b+v0):=
 Nat.le_antisymm ((Nat.le_div_iff_mul_le hv).2<|rr ha h) hb
theorem EO(hv:0<v1*b+v0)(ha:q*v1+r=u)(h:b*r+w<q*v0):(u*b+w)/(v1*b+v0)<=q-1/\0<q/\(q-1)*v1+(r+v1)=u:=by
 have h0:0<q:=by
  rcases PB q with h0|h0
  ·simp_all
  ·exact h0
 have h1:=(Rs hv).2<|lD ha h;obtain⟨p,rfl⟩:∃p,q=p+1:=⟨q-1,by lia⟩;grind
theorem si(hu:u<v1*b+v0)(ha:v0<b)(hb:q*v1+r=u)(hr:b<=r):q<b:=by
 refine Nat.lt_of_not_le fun h=> ?_;have:b*v1<=q*v1:=PQ _ h;grind
theorem nk(hq:q<b)(ha:v0<b)(hr:b<=r):q*v0<=b*r+w:=by
 have h1:=Nat.mul_le_mul (xab hq)<|xab ha;have h2:b*b<=b*r:=Nat.mul_le_mul_left _ hr;lia
theorem Zm(hu:u<v1*b+v0)(hw:w<b:=by lia):(u*b+w)/(v1*b+v0)<b:=by
 have hv:0<v1*b+v0:=by lia
 rw[Rs hv];have:(u+1)*b<=(v1*b+v0)*b:=PQ _ hu;grind
theorem Qp{β:Type}(mk:Nat->Nat->β)(ms:β->Nat)(hc:∀q r,ms (mk q r)=2-r/2147483648){f:(β->Option Nat)->β->Option Nat}(h1:2147483648<=v1)(h2:v1<4294967296)(h0:v0<4294967296)(hu:u<v1*4294967296+v0)(hw:w<4294967296)(hf:10<fu)(he:∀(q r:Nat) (L:β->Option Nat),q<18446744073709551616->r<4294967296->q*v0<18446744073709551616\/4294967296<=q->
 f L (mk q r)=if 4294967296<=q then(if 4294967296<=r+v1 then some (q-1)else L (mk (q-1)<|r+v1))else if 4294967296*r+w<q*v0 then(if 4294967296<=r+v1 then some (q-1)else L (mk (q-1)<|r+v1))else some q):
 zn f fu (mk (u/v1)<|u%v1)=some ((u*4294967296+w)/(v1*4294967296+v0)):=by
 have hv:0<v1*4294967296+v0:=by lia
 have hQ:=Zm hu hw;have hi:u/v1<18446744073709551616:=by
  rw[Rs<|by lia];lia
 refine km (fun s:β=>∃q r,s=mk q r/\q<18446744073709551616/\r<4294967296/\q*v1+r=u/\(u*4294967296+w)/(v1*4294967296+v0)<=q) ms _ ?_ _ _ ⟨_,_,rfl,hi,?_,?_,?_⟩<|by rw[hc];lia
 ·rintro s L ⟨q,r,rfl,hq,hr,hg,hj⟩ ih;have hk:q*v0<18446744073709551616\/4294967296<=q:=by
   rcases Re q 4294967296 with h|h
   ·left;exact Nat.mul_lt_mul'' (a:=q) (b:=v0) (c:=4294967296) (d:=4294967296) h h0
   ·exact .inr h
  rw[he q r L hq hr hk];by_cases hb:4294967296<=q
  ·rw[iq hb];have hd:(q-1)*v1+(r+v1)=u:=by
    obtain⟨p,rfl⟩:∃p,q=p+1:=⟨q-1,by lia⟩;rw[RI]at hg;simp only[Nat.add_sub_cancel];lia
   by_cases ha:4294967296<=r+v1
   ·rw[iq ha,<-eF hv hd (by lia)<|nk (si hu h0 hd ha) h0 ha]
   ·rw[ir ha];exact ih _ ⟨_,_,rfl,by lia,by lia,hd,by lia⟩<|by rw[hc,hc];lia
  ·rw[ir hb];by_cases ht:4294967296*r+w<q*v0
   ·obtain⟨d1,d2,d3⟩:=EO hv hg ht;rw[iq ht];by_cases ha:4294967296<=r+v1
    ·rw[iq ha,<-eF hv d3 d1<|nk (si hu h0 d3 ha) h0 ha]
    ·rw[ir ha];exact ih _ ⟨_,_,rfl,by lia,by lia,d3,d1⟩<|by rw[hc,hc];lia
   ·rw[ir ht,<-eF hv hg hj<|by lia]
 ·have:=RN u (show 0<v1 by lia);lia
 ·rw[RQ];exact Tt u v1
 ·rw[Nat.le_div_iff_mul_le<|by lia];have h3:(u*4294967296+w)/(v1*4294967296+v0)*(v1*4294967296+v0)<=u*4294967296+w:=Nat.div_mul_le_self _ _;generalize(u*4294967296+w)/(v1*4294967296+v0)=Q at*
  rw[Nat.mul_add,<-Nat.mul_assoc]at h3;generalize Q*v1=A at*
  lia
theorem Ha(h:y<2^s):x*2^s|||y=x*2^s+y:=by grind [RQ,Nat.two_pow_add_eq_or_of_lt]
theorem nI(h0:0<y)(h:y<18446744073709551616):bl y<=64/\9223372036854775808<=y*2^(64-bl y)/\y*2^(64-bl y)<18446744073709551616:=by
 have h1:=cZ (k:=64) (by simpa using h);have h2:=IQ y;refine⟨h1,?_,?_⟩
 ·have hp:1<=bl y:=by rw[Ui h0];lia
  have ha:2^(bl y-1)<=y:=by
   refine Nat.le_of_not_lt fun hb=> ?_;have:=cZ hb;lia
  have e:9223372036854775808=2^(bl y-1)*2^(64-bl y):=by rw[<-Nat.pow_add,show bl y-1+(64-bl y)=63 by lia]
  rw[e];exact PQ _ ha
 ·have e:18446744073709551616=2^bl y*2^(64-bl y):=by rw[<-Nat.pow_add,show bl y+(64-bl y)=64 by lia]
  rw[e];exact Nat.mul_lt_mul_of_pos_right h2<|Tf<|by decide
theorem oY(ha:lo<18446744073709551616)(hs:s<=64):lo*2^s=lo/2^(64-s)*18446744073709551616+lo*2^s%18446744073709551616/\lo/2^(64-s)<2^s:=by
 have e:18446744073709551616=2^(64-s)*2^s:=by rw[<-Nat.pow_add,show 64-s+s=64 by lia]
 have hp:0<2^s:=Tf (by decide);have e2:lo*2^s/18446744073709551616=lo/2^(64-s):=by rw[e,Nat.mul_div_mul_right _ _ hp]
 refine⟨by lia,?_⟩;rw[Rs (Tf<|by decide),RQ,<-e];exact ha
theorem Qv{w1 w0:Nat}(hy:0<y)(hb:0<b)(ha:w0<b):((x*b+w1)*b+w0)/y=(x*b+w1)/y*b+((x*b+w1)%y*b+w0)/y/\((x*b+w1)*b+w0)%y=((x*b+w1)%y*b+w0)%y:=by
 generalize x*b+w1=X;have h:=Tt X y;have e:X*b+w0=X%y*b+w0+y*(X/y*b):=by grind
 rw[e];constructor
 ·rw[TT _ _ hy];lia
 ·simp_all
theorem IW{a:Nat}(ha:a<4294967296)(hb:b<4294967296):(a*4294967296%18446744073709551616+b)%18446744073709551616=a*4294967296+b:=by lia
theorem jD(hx:x<18446744073709551616):xk fu x=some ((64-bl x:Nat):Int):=by
 unfold xk;have h:=cZ (k:=64) (by simpa using hx);rw[zq<|vO hx,xJ];grind
theorem Yd{hi:Nat}(hn:lo<18446744073709551616)(hy:y<18446744073709551616)(hh:hi<y)(hf:10<fu):
 vy fu hi lo y=some ((hi*18446744073709551616+lo)/y,(hi*18446744073709551616+lo)%y):=by
 unfold vy;rw[xb,xb];by_cases h0:hi=0
 ·subst h0;rw[iq rfl,Vu,zP,Vu,zP,Sb,Pk]
 ·rw[xb,zq<|jD hy];obtain⟨n1,n2,n3⟩:=nI (y:=y) (by lia) hy;obtain⟨s,hs⟩:∃s,s=64-bl y:=⟨_,rfl⟩;rw[<-hs]at n2 n3⊢;have hk:s<=64:=by lia
  have eu:Jx (s:Int)=s:=by have:=fJ (x:=(s:Int)) (by lia) (by lia);lia
  have em:min (s:Int).toNat 64=s:=by lia
  have e8:(64+18446744073709551616-s)%18446744073709551616=64-s:=by lia
  have em2:min (((64-s:Nat):Nat):Int).toNat 64=64-s:=by lia
  obtain⟨Y,hY⟩:∃Y,Y=y*2^s:=⟨_,rfl⟩;rw[<-hY]at n2 n3;obtain⟨w1,w2⟩:=oY hn hk;have hp:0<2^s:=Tf (by decide);have hx:hi*2^s+2^s<=Y:=by
   have:(hi+1)*2^s<=y*2^s:=PQ _ hh;rw[RI,Nat.one_mul]at this;rw[hY];exact this
  simp only[nm,eu,em,e8,em2,DN,CW];rw[<-hY,PT n3,PT (show hi*2^s<18446744073709551616 by lia),Ha w2];obtain⟨u,hu⟩:∃u,u=hi*2^s+lo/2^(64-s):=⟨_,rfl⟩;obtain⟨t,ht⟩:∃t,t=lo*2^s%18446744073709551616:=⟨_,rfl⟩;have hv:t<18446744073709551616:=by rw[ht];exact RN _<|by decide
  rw[<-hu,<-ht];have hd:u<Y:=by lia
  have ho:(hi*18446744073709551616+lo)*2^s=u*18446744073709551616+t:=by
   rw[RI,w1,hu,<-ht,RI,Nat.mul_right_comm];lia
  have he:Y=Y/4294967296*4294967296+Y%4294967296:=by lia
  have a1:2147483648<=Y/4294967296:=by lia
  have a2:Y/4294967296<4294967296:=by lia
  have a0:Y%4294967296<4294967296:=by lia
  have step:∀{u w:Nat},u<Y->w<4294967296->(u*4294967296+w)/(Y/4294967296*4294967296+Y%4294967296)=(u*4294967296+w)/Y:=by intro u w _ _;rw[<-he]
  have ew:Y/2^32=Y/4294967296:=rfl;have et:t/2^32=t/4294967296:=rfl;rw[ew,et,Vu];have m15:∀{u:Nat},u<Y->(u+18446744073709551616-u/(Y/4294967296)*(Y/4294967296)%18446744073709551616)%18446744073709551616=u%(Y/4294967296):=by
   intro u hu;have h1:=Tt u<|Y/4294967296;rw[RQ]at h1;have h2:u/(Y/4294967296)*(Y/4294967296)<=u:=by lia
   rw[PT (show u/(Y/4294967296)*(Y/4294967296)<18446744073709551616 by lia)];lia
  have body:∀{q r w:Nat},q<18446744073709551616->r<4294967296->w<4294967296->(q*(Y%4294967296)<18446744073709551616\/4294967296<=q)->∀(A B C:Option Nat),(4294967296<=r+Y/4294967296->A=some (q-1))->(¬4294967296<=r+Y/4294967296->A=B)->C=some q->
   (if((4294967296:Nat):Int)<=(q:Int)then A else if(((4294967296*r%18446744073709551616+w)%18446744073709551616:Nat):Int)<((q*(Y%4294967296)%18446744073709551616:Nat):Int)then A else C)=
   if 4294967296<=q then(if 4294967296<=r+Y/4294967296 then some (q-1)else B)else if 4294967296*r+w<q*(Y%4294967296)then(if 4294967296<=r+Y/4294967296 then some (q-1)else B)else some q:=by
   intro q r w hq hr hw hg A B C h1 h2 h3;have hA:A=if 4294967296<=r+Y/4294967296 then some (q-1)else B:=by
    split
    ·next h=>exact h1 h
    ·next h=>exact h2 h
   rw[<-hA,h3];by_cases hb:4294967296<=q
   ·rw[vq,iq hb]
   ·have e3:(q*(Y%4294967296))%18446744073709551616=q*(Y%4294967296):=PT<|hg.resolve_right hb;have e4:(4294967296*r%18446744073709551616+w)%18446744073709551616=4294967296*r+w:=by lia
    rw[xb,ir hb,e3,e4];by_cases h4:4294967296*r+w<q*(Y%4294967296)
    ·rw[vq,iq h4]
    ·rw[xb,ir h4]
  have L0:zn (wv fu (Y/4294967296) (Y%4294967296)<|t/4294967296) fu (u/(Y/4294967296),u%(Y/4294967296))=some ((u*4294967296+t/4294967296)/Y):=by
   rw[<-step hd (by lia:t/4294967296<4294967296)];refine Qp (fun q r=>(q,r)) (fun s=>2-s.2/2147483648) (fun _ _=>rfl) (w:=t/4294967296) a1 a2 a0 (by rw[<-he];exact hd) (by lia) hf ?_;intro q r L hq hr hg;have e1:(r+Y/4294967296)%18446744073709551616=r+Y/4294967296:=by lia
   by_cases hc:q=0
   ·subst hc;unfold wv;simp only[nm,Sb,Nat.zero_mod];rw[xb,xb,xb,xb]
   have e2:(q+18446744073709551616-1)%18446744073709551616=q-1:=by lia
   refine Eq.trans ?_<|body hq hr (by lia) hg (if 4294967296<=r+Y/4294967296 then some (q-1)else L (q-1,r+Y/4294967296)) _ _ (fun h=>iq h) (fun h=>ir h) rfl;unfold wv;simp only[nm,e1,e2];have e5:∀(X:Option Nat),(if((4294967296:Nat):Int)<=((r+Y/4294967296:Nat):Int)then some (q-1)else X)=if 4294967296<=r+Y/4294967296 then some (q-1)else X:=by
    intro X;by_cases h:4294967296<=r+Y/4294967296
    ·rw[vq,iq h]
    ·rw[xb,ir h]
   rw[e5]
  have rem:∀{x q:Nat},x/Y=q->∀{m:Nat},m=x%18446744073709551616->(m+18446744073709551616-q*Y%18446744073709551616)%18446744073709551616=x%Y:=by
   intro x q hq m hm;have h1:=Tt x Y;rw[hq,RQ]at h1;have h2:=RN x (show 0<Y by lia);lia
  rw[m15 hd,zq L0,rem rfl (x:=u*4294967296+t/4294967296)<|by lia];obtain⟨u2,hj⟩:∃u2,u2=(u*4294967296+t/4294967296)%Y:=⟨_,rfl⟩;have ha:u2<Y:=by rw[hj];exact RN _<|by lia
  rw[<-hj,Vu,m15 ha];have L1:zn (wx fu (Y/4294967296) (Y%4294967296)<|t%4294967296) fu (u2%(Y/4294967296),u2/(Y/4294967296))=some ((u2*4294967296+t%4294967296)/Y):=by
   rw[<-step ha (by lia:t%4294967296<4294967296)];refine Qp (fun q r=>(r,q)) (fun s=>2-s.1/2147483648) (fun _ _=>rfl) (w:=t%4294967296) a1 a2 a0 (by rw[<-he];exact ha) (by lia) hf ?_;intro q r L hq hr hg;have e1:(r+Y/4294967296)%18446744073709551616=r+Y/4294967296:=by lia
   by_cases hc:q=0
   ·subst hc;unfold wx;simp only[nm,Sb,Nat.zero_mod];rw[xb,xb,xb,xb]
   have e2:(q+18446744073709551616-1)%18446744073709551616=q-1:=by lia
   refine Eq.trans ?_<|body hq hr (by lia) hg (if 4294967296<=r+Y/4294967296 then some (q-1)else L (r+Y/4294967296,q-1)) _ _ (fun h=>iq h) (fun h=>ir h) rfl;unfold wx;simp only[nm,e1,e2];have e5:∀(X:Option Nat),(if((4294967296:Nat):Int)<=((r+Y/4294967296:Nat):Int)then some (q-1)else X)=if 4294967296<=r+Y/4294967296 then some (q-1)else X:=by
    intro X;by_cases h:4294967296<=r+Y/4294967296
    ·rw[vq,iq h]
    ·rw[xb,ir h]
   rw[e5]
  rw[zq L1,rem rfl (x:=u2*4294967296+t%4294967296)<|by lia];have hl:=Zm (b:=4294967296) (v1:=Y/4294967296) (v0:=Y%4294967296) (u:=u) (w:=t/4294967296) (by rw[<-he];exact hd);rw[step hd<|by lia]at hl;have hc:=Zm (b:=4294967296) (v1:=Y/4294967296) (v0:=Y%4294967296) (u:=u2) (w:=t%4294967296) (by rw[<-he];exact ha);rw[step ha<|by lia]at hc;obtain⟨k1,k2⟩:=Qv (x:=u) (b:=4294967296) (y:=Y) (w1:=t/4294967296) (w0:=t%4294967296) (by lia) (by decide) (by lia);rw[<-hj]at k1 k2;have eU:(u*4294967296+t/4294967296)*4294967296+t%4294967296=(hi*18446744073709551616+lo)*2^s:=by rw[ho];lia
  rw[eU,hY,Nat.mul_div_mul_right _ _ hp,<-hY]at k1;rw[eU,hY,Nat.mul_mod_mul_right,<-hY]at k2;rw[k1,<-k2,Nat.mul_div_cancel _ hp];rw[IW hl hc]
end
theorem Cc{m x:Nat}{l:List Nat}:(Pv (m+1) 0++l).set m x=Pv m 0++(x::l):=by
 rw[List.replicate_succ'];simp_all
theorem lL(k n:Nat):ur (k+1) n=n%18446744073709551616::ur k (n/18446744073709551616):=rfl
theorem dx{q r:Nat}(h:r<18446744073709551616):(q*18446744073709551616+r)%18446744073709551616=r/\(q*18446744073709551616+r)/18446744073709551616=q:=by lia
theorem lx(A m:Nat):A/18446744073709551616^m=A/18446744073709551616^(m+1)*18446744073709551616+A/18446744073709551616^m%18446744073709551616:=by grind [sN]
theorem Jb{fu:Nat}{a:List Nat}{x:Nat}(ha:zY a)(hx:x<18446744073709551616)(h0:0<x)(hl:a.length<=1000000)(hf:2000000<fu):uo fu a x=some (kn<|nv a/x,nv a%x):=by
 unfold uo;rw[cL,Vu,zP,xJ];have hA:=C6 ha;have key:zn (uA fu a x) fu (0,(a.length:Int)-1,Pv a.length 0)=some (nv a%x,ur a.length<|nv a/x):=by
  refine km (fun s:Nat×Int×List Nat=>∃m:Nat,m<=a.length/\s=(nv a/18446744073709551616^m%x,(m:Int)-1,Pv m 0++ur (a.length-m) (nv a/18446744073709551616^m/x))) (fun s=>(s.2.1+1).toNat) _ ?_ _ _ ⟨a.length,O3 _,?_⟩ (by show((a.length:Int)-1+1).toNat<fu;lia)
  ·rintro s L ⟨m,hm,rfl⟩ ih;unfold uA;simp only
   cases m with
   |zero=>
    simp_all
   |succ m=>
    have e:((m+1:Nat):Int)-1=(m:Int):=by lia
    have hb:=ha.getD m;have hd:nv a/18446744073709551616^(m+1)%x<x:=RN _ h0;have hy:a.getD m 0=nv a/18446744073709551616^m%18446744073709551616:=iK ha m;have hs:=lx (nv a) m;rw[<-hy]at hs;rw[vq,e,ye,zP,zq<|Yd hb hx hd<|by lia];obtain⟨k1,k2⟩:=Qv (x:=0) (b:=18446744073709551616) (y:=x) (w1:=nv a/18446744073709551616^(m+1)) (w0:=a.getD m 0) h0 (by decide) hb;rw[Sb,Pk,<-hs]at k1 k2;rw[xd (by simp;lia),zP,xJ,Cc,<-k2];refine ih _ ⟨m,by lia,?_⟩ (by show((m:Int)-1+1).toNat<(((m+1:Nat):Int)-1+1).toNat;lia);have hq:(nv a/18446744073709551616^(m+1)%x*18446744073709551616+a.getD m 0)/x<18446744073709551616:=by
     rw[Rs h0];have:(nv a/18446744073709551616^(m+1)%x+1)*18446744073709551616<=x*18446744073709551616:=PQ _ hd;rw[RQ 18446744073709551616 x];lia
    have e2:a.length-m=(a.length-(m+1))+1:=by lia
    rw[k1,e2,lL];congr 3;rw[(dx hq).1,(dx hq).2]
  ·rw[TR hA,Nat.zero_div,Nat.zero_mod,Nat.sub_self];simp[ur]
 rw[zq key];have hc:nv a/x<18446744073709551616^a.length:=R4 (Nat.div_le_self _ _) hA;simp only;rw[zq (qq (Xf _ _) (by rw[jC];lia)<|by rw[jC];lia),KS,PT hc]
section
variable{fu u d:Nat}
theorem bt{α:Type}{d:α}{f:((Int×Int×List α)->Option (List α))->(Int×Int×List α)->Option (List α)}
 (hf:∀L i j t,f L (i,j,t)=if i<j then zy j t.length fun j1=>zy i t.length fun j2=>zy i t.length fun j3=>zy j (t.set j3<|t.getD j1 d).length fun j4=>zb (i+1) fun x=>zb (j-1) fun y=>L (x,y,(t.set j3<|t.getD j1 d).set j4<|t.getD j2 d)else some t)
 {t:List α}{n:Nat} (hl:t.length<=1000000) (hn:t.length<n):zn f n (0,(t.length:Int)-1,t)=some t.reverse:=by
 refine km (fun s=>∃i j:Nat,s.1=(i:Int)/\s.2.1=(j:Int)-1/\i+j=t.length/\s.2.2.length=t.length/\∀k,k<t.length->s.2.2[k]? =if k<i\/j<=k then t[t.length-1-k]? else t[k]?) (fun s=>(s.2.1-s.1+1).toNat) _ ?_ n _ ⟨0,t.length,rfl,rfl,by lia,rfl,fun k hk=>by rw[xb]⟩ (by show((t.length:Int)-1-0+1).toNat<n;lia);rintro⟨a,b,s⟩ L ⟨i,j,h1,h2,h3,h4,h5⟩ ih;simp only at h1 h2 h4 h5;subst h1 h2;rw[hf];by_cases ha:(i:Int)<(j:Int)-1
 ·obtain⟨j,rfl⟩:∃q,j=q+1:=⟨j-1,by lia⟩;have e1:((j+1:Nat):Int)-1=(j:Int):=by lia
  rw[iq ha,e1,ye,ye,ye,xd (by rw[Ri];lia),xJ,xJ];refine ih _ ⟨i+1,j,by show(i:Int)+1=_;lia,rfl,by lia,by simp[h4],fun k hk=> ?_⟩ (by show((j:Int)-1-((i:Int)+1)+1).toNat<(((j+1:Nat):Int)-1-(i:Int)+1).toNat;lia);have gi:=h5 i (by lia);have gj:=h5 j (by lia);rw[xb]at gi gj;have ei:s.getD i d=t[i]:=by rw[PY,gi,Pb<|by lia];rfl
  have ej:s.getD j d=t[j]:=by rw[PY,gj,Pb<|by lia];rfl
  simp only[List.getElem?_set,Ri,h4,ei,ej];by_cases hb:j=k
  ·subst hb;rw[iq rfl,vq,vq,Pb<|by lia];have:t.length-1-j=i:=by lia
   simp only[this]
  ·rw[ir hb];by_cases hd:i=k
   ·subst hd;rw[iq rfl,vq,vq,Pb<|by lia];have:t.length-1-i=j:=by lia
    simp only[this]
   ·rw[ir hd,h5 k hk];by_cases hc:k<i\/j+1<=k
    ·rw[iq hc,vq]
    ·rw[ir hc,xb]
 ·rw[ir ha];congr 1;refine Sx fun k=> ?_;by_cases hk:k<t.length
  ·rw[h5 k hk,List.getElem?_reverse hk];by_cases hc:k<i\/j<=k
   ·rw[iq hc]
   ·rw[ir hc];have:t.length-1-k=k:=by lia
    rw[this]
  ·rw[P8 (by lia),P8<|by simp;lia]
theorem qi{t:List Nat}(hl:t.length<=1000000)(hf:t.length<fu):yP fu t=some t.reverse:=by
 unfold yP;rw[xJ,zq<|bt (d:=0) (fun _ _ _ _=>rfl) hl hf]
theorem kK{t:List (List Nat)}(hl:t.length<=1000000)(hf:t.length<fu):yB fu t=some t.reverse:=by
 unfold yB;rw[xJ,zq<|bt (d:=[]) (fun _ _ _ _=>rfl) hl hf]
def Xz:Nat->Nat->Tx
 |0,_=>[]
 |k+1,r=>(48+r%10)::Xz k (r/10)
theorem We:∀k r,(Xz k r).length=k
 |0,_=>rfl
 |k+1,r=>by rw[Xz,FS,We k]
theorem gD:∀k r,Xz k (r%10^k)=Xz k r
 |0,_=>rfl
 |k+1,r=>by rw[Xz,Xz,Rh,RQ,Nat.mod_mul_right_mod,Nat.mod_mul_right_div_self,gD k]
def Dd(u:Nat):Tx:=jO (u+1) u
theorem KG:∀(f g u:Nat),u<10^(f+1)->u<10^(g+1)->jO (f+1) u=jO (g+1) u
 |f,g,u,h,k=>by
  unfold jO;by_cases h1:u<10
  ·rw[iq h1,iq h1]
  ·rw[ir h1,ir h1]
   match f,g,h,k with
   |0,_,h,_=>exact absurd (by simpa using h) h1
   |_+1,0,_,k=>exact absurd (by simpa using k) h1
   |f+1,g+1,h,k=>rw[KG f g (u/10) (by rw[Rh]at h;lia)<|by rw[Rh]at k;lia]
theorem ru(h:u<10):Dd u=[48+u]:=by unfold Dd jO;rw[iq h]
theorem lb(h:10<=u):Dd u=Dd (u/10)++[48+u%10]:=by
 obtain⟨v,rfl⟩:∃v,u=v+1:=⟨u-1,by lia⟩;have h1:=fe v;have h2:=fe<|(v+1)/10;have h3:jO (v+1) ((v+1)/10)=Dd ((v+1)/10):=KG _ _ _ (by lia) h2;rw[<-h3];show jO ((v+1)+1) (v+1)=_;rw[jO,xb]
theorem tW:∀k u,0<u/10^k->Dd u=Dd (u/10^k)++(Xz k u).reverse
 |0,u,_=>by simp[Xz]
 |k+1,u,h=>by
  have e:u/10^(k+1)=u/10/10^k:=by rw[Sk,Rh,RQ]
  rw[e]at h⊢;have ha:10<=u:=by
   rcases Re u 10 with hu|hu
   ·rw[TR hu,Nat.zero_div]at h;lia
   ·exact hu
  rw[lb ha,tW k (u/10) h,Xz,List.reverse_cons,O2]
theorem pD:∀k u,10^k<=u->u<10^(k+1)->Dd u=(Xz (k+1) u).reverse
 |0,u,_,h=>by rw[ru (by simpa using h),Xz,Xz,PT<|by simpa using h];rfl
 |k+1,u,h,g=>by
  rw[Rh]at h g;have:0<10^k:=Tf (by decide);rw[lb (by lia),pD k (u/10) (by lia)<|by lia];show _=((48+u%10)::Xz (k+1) (u/10)).reverse;rw[List.reverse_cons]
theorem td:∀f d:Nat,0<d->d<10^(f+1)->∃k,k<=f/\10^k<=d/\d<10^(k+1)
 |0,d,h,g=>⟨0,O3 _,h,g⟩
 |f+1,d,h,g=>by
  rcases Re d (10^(f+1))with h1|h1
  ·obtain⟨k,h2,h3⟩:=td f d h h1;exact⟨k,by lia,h3⟩
  ·exact⟨f+1,O3 _,h1,g⟩
theorem dh(d:Nat)(t:Tx):(48+d%10)%18446744073709551616%256=48+d%10:=by lia
theorem WX(h:d<10^19)(hf:100<=fu):wZ fu d true=some (Xz 19 d).reverse:=by
 unfold wZ;rw[zq (v:=Xz 19 d),zq<|qi (by rw[We];decide)<|by rw[We];lia];refine km (fun s=>∃j,s.2.length+j=19/\s.1<10^j/\s.2++Xz j s.1=Xz 19 d) (fun s=>19-s.2.length) _ ?_ fu _ ⟨19,rfl,h,rfl⟩ (by show 19-0<fu;lia);rintro⟨a,s⟩ L ⟨j,h1,h2,h3⟩ ih;simp only at h1 h2 h3;have go:0<j->s.length<19/\L (a/10,s++[48+a%10])=some (Xz 19 d):=fun hj=>by
  obtain⟨j,rfl⟩:∃q,j=q+1:=⟨j-1,by lia⟩;refine⟨by lia,ih _ ⟨j,by simp;lia,by rw[Rh]at h2;show a/10<_;lia,?_⟩<|by simp;lia⟩;rw[<-h3,Xz];simp
 unfold kB;simp only[zP,dh a s];by_cases ha:0<a
 ·have hj:0<j:=by
   rcases PB j with rfl|hj
   ·rw[Nat.pow_zero]at h2;lia
   ·exact hj
  obtain⟨g1,g2⟩:=go hj;rw[vq,vE (by decide),vE (by simp;lia),vE (by decide),g2]
 ·rw[xb,iq<|by trivial];by_cases hs:(s.length:Int)<19
  ·obtain⟨g1,g2⟩:=go (by lia);rw[iq hs,vE (by decide),vE (by simp;lia),vE (by decide),g2]
  ·rw[ir hs];obtain rfl:j=0:=by lia
   rw[<-h3,Xz,Ps]
theorem WM(h0:0<d)(h:d<10^19)(hf:100<=fu):wZ fu d false=some (Dd d):=by
 obtain⟨k,hk,hb,hc⟩:=td 18 d h0 h;rw[pD k d hb hc];unfold wZ;rw[zq (v:=Xz (k+1) d),zq<|qi (by rw[We];lia)<|by rw[We];lia];refine km (fun s=>∃j,s.2.length+j=k+1/\s.1<10^j/\(0<j->10^(j-1)<=s.1)/\s.2++Xz j s.1=Xz (k+1) d) (fun s=>k+1-s.2.length) _ ?_ fu _ ⟨k+1,Pk _,hc,fun _=>hb,rfl⟩ (by show k+1-0<fu;lia);rintro⟨a,s⟩ L ⟨j,h1,h2,h4,h3⟩ ih;simp only at h1 h2 h3 h4;unfold kB;simp only[zP,dh a s];by_cases ha:0<a
 ·have hj:0<j:=by
   rcases PB j with rfl|hj
   ·rw[Nat.pow_zero]at h2;lia
   ·exact hj
  obtain⟨j,rfl⟩:∃q,j=q+1:=⟨j-1,by lia⟩;rw[vq,vE (by decide),vE (by simp;lia),vE<|by decide];have h4:=h4 hj;refine ih _ ⟨j,by simp;lia,by rw[Rh]at h2;show a/10<_;lia,fun hj=> ?_,?_⟩<|by simp;lia
  ·obtain⟨j,rfl⟩:∃q,j=q+1:=⟨j-1,by lia⟩;simp only[Nat.add_sub_cancel,Rh]at h4⊢;show _<=a/10;lia
  ·rw[<-h3,Xz];simp
 ·rw[xb,ir Pa];have hj:j=0:=by
   rcases PB j with h|h
   ·exact h
   ·have:=h4 h;have:0<10^(j-1):=Tf (by decide);lia
  subst hj;rw[<-h3,Xz,Ps]
theorem Kj{α:Type}:∀l:List (List α),S8 [] l=l.flatten
 |[]=>rfl
 |[x]=>by simp[S8]
 |x::y::r=>by
  have:=Kj (y::r);simp only[S8,List.intersperse_cons_cons,List.flatten_cons,P1]at this⊢;rw[this]
theorem lv{j:Nat}(h:u<10^(j+1)):u/10000000000000000000<10^j:=by
 rw[Rh]at h;lia
theorem Kg{fu:Nat}(hf:3000000<=fu):∀(j u:Nat) (t:List Tx) (n:Nat),u<10^j->j<=4096->j<n->t.length+j<=10000->
 ∃T,zn (Zp fu) n (kn u,t)=some T/\T.length<=t.length+j/\(u=0->T=t)/\(0<u->0<T.length/\T.reverse.flatten=Dd u++t.reverse.flatten)
 |j,u,t,0,_,_,h,_=>absurd h<|by lia
 |j,u,t,n+1,hu,hj,hn,ht=>by
  rw[yf];unfold Zp;simp only;rcases PB u with rfl|h0
  ·rw[jz,ir<|by decide];exact⟨t,rfl,by lia,fun _=>rfl,fun h=>absurd h<|by decide⟩
  ·have hp:=kY h0;obtain⟨j,rfl⟩:∃q,j=q+1:=⟨j-1,by
    rcases PB j with rfl|h
    ·rw[Nat.pow_zero]at hu;lia
    ·lia⟩
   have hb:(kn u).length<=j+1:=(qu _ _).2<|Pc hu<|Th (by decide) _;rw[vq,Jb (YV u) (by decide) (by decide) (by lia) (by lia),ZZ,zF];simp only;have hr:u%10000000000000000000<10^19:=RN _ (by decide);have hq:=lv hu;generalize ha:u/10000000000000000000=q at hq;have ih:=fun t' (h:t'.length=t.length+1)=>Kg hf j q t' n hq (by lia) (by lia) (by lia);rcases PB q with hq0|hq0
   ·rw[hq0,jz,ir<|by decide];have hs:u%10000000000000000000=u:=by lia
    rw[hs]at hr⊢;rw[WM h0 hr (by lia),zF,vE (by simp;lia),zP];obtain⟨T,g1,g2,g3,_⟩:=ih (t++[Dd u]) (by simp);rw[hq0,jz]at g1;have g3:=g3 hq0;refine⟨T,g1,by simp at g2;lia,fun h=>by lia,fun _=> ?_⟩;rw[g3];simp
   ·rw[iq (by have:=kY hq0;lia),WX hr (by lia),zF,vE (by simp;lia),zP];have e19:(10000000000000000000:Nat)=10^19:=by decide
    rw[e19,gD];obtain⟨T,g1,g2,_,g4⟩:=ih (t++[(Xz 19 u).reverse]) (by simp);obtain⟨g4,g5⟩:=g4 hq0;refine⟨T,g1,by simp at g2;lia,fun h=>by lia,fun _=>⟨g4,?_⟩⟩;rw[g5,tW 19 u (by rw[<-e19,ha];exact hq0),<-e19,ha];simp
theorem JD{v m:Nat}(hf:3000000<=fu)(hv:v<10^m)(hm:m<=4096):ZB fu (kn v)=some (Dd v):=by
 unfold ZB;have ha:(kn v).length<=m:=(qu _ _).2<|Pc hv<|Th (by decide) _;obtain⟨T,g1,g2,g3,g4⟩:=Kg hf m v [] fu hv hm (by lia) (by simp;lia);rw[zq (VV (YV v) (by lia)<|by lia),ZZ,g1,zF];rcases PB v with rfl|h0
 ·rw[g3 rfl,iq<|by decide];rfl
 ·obtain⟨g4,g5⟩:=g4 h0;simp at g2;rw[xb,zq<|kK (by lia)<|by lia];have e:S8 [] T.reverse=Dd v:=by rw[Kj,g5];simp
  have hd:(Dd v).length<=m:=by
   obtain⟨k,rfl⟩:∃q,m=q+1:=⟨m-1,by
    rcases PB m with rfl|h
    ·rw[Nat.pow_zero]at hv;lia
    ·lia⟩
   exact Xq _ _ k hv
  unfold kG;rw[vE (by simp;lia),e,Vu,zF]
end
end Go.Proofs.YtbaoeefdjpaomaaGreatDoor
