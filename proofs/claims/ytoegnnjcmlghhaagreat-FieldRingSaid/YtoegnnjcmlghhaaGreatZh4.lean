/- What a proof needs: rules of walking, mirrors of functions and their plain laws. No condition. -/
import Derived.Test.YtoegnnjcmlghhaaGreatZh3
set_option linter.all false
namespace Go.Proofs.YtoegnnjcmlghhaaGreat
open Bool renaming false->I,true->wL
open Go renaming Value->wN,World->wP,Code->Wr,results->Jp,Func->JP,Act->Kw,Calls->UP
open Go.Proofs.YtoegnnjcmlghhaaGreat renaming Zr->M,bd->Y,za->U,nm->B,cC->D,zu->Q,ze->S
open List renaming length->X,length->lM
open Nat renaming beq->E
open Option renaming some->Z,none->wF
open _root_ renaming rfl->O,List->N,Int->J,Nat->K,Option->V,List->xS,Int->wl,Nat->wr,Option->ww,trivial->wR,absurd->wS,Bool->qR,congrArg->ut,if_true->uP,if_false->uS,Unit->Z9,True->XS,decide_eq_true->Wf,decide_eq_false->Wl,False->QR,if_pos->am,true_and->cE,or_false->fD,and_true->gC
open And renaming intro->xfK
open Bool renaming false_eq_true->xao
open Classical renaming byContradiction->xai
open Ending renaming returned->xeR
open Int renaming eq_ofNat_of_zero_le->xaE,fdiv->xge,natAbs_mul->xct,natAbs_neg->xeY,natCast_nonneg->xdm,pow_succ->xbU,tdiv->xdE,tmod->xcv,toNat_natCast->xbe
open Lib renaming bitLen->xfg
open List renaming append_assoc->xad,cons_append->xbC,drop->xdT,drop_eq_getElem_cons->xcb,drop_eq_nil_of_le->xbW,eq_nil_of_length_eq_zero->xbm,getD_cons_succ->xdz,getD_eq_getElem?_getD->FS,getElem?_eq_getElem->xab,getElem?_eq_none->xbB,getElem_mem->xbQ,length_append->xaw,length_cons->xax,length_drop->xbX,length_eq_zero_iff->xbh,length_nil->xbP,length_replicate->xaM,length_set->xbj,length_take->xav,mem_append->So,mem_cons->xaf,mem_cons_of_mem->UV,mem_cons_self->H1,mem_of_mem_drop->xeX,mem_of_mem_take->xdo,mem_or_eq_of_mem_set->xdF,mem_singleton->xag,not_mem_nil->Nm,replicate->xaa,replicate_succ->xdw,set_append_right->xdJ,set_cons_succ->xfo,take->xdH,take_add_one->xeu,take_append_drop->xbv,take_length->xbY,take_of_length_le->xaQ,take_succ_cons->xeB
open List.cons renaming injEq->xeQ
open Nat renaming add_assoc->xcH,add_mul->xbf,add_mul_div_left->xcw,add_mul_mod_self_left->xcc,add_zero->xbD,div_add_mod->xbu,div_div_eq_div_mul->xaF,div_eq_of_lt->xbi,div_lt_iff_lt_mul->xbb,div_one->xeq,eq_zero_of_not_pos->xfy,eq_zero_or_pos->xcx,le_max_left->xeb,le_max_right->xdS,le_mul_of_pos_left->xed,le_of_lt->xdK,le_refl->IR,le_trans->xap,lt_of_le_of_lt->xaL,lt_of_lt_of_le->xah,lt_of_not_le->xdr,lt_or_ge->xca,lt_succ_self->xbR,min_eq_left->xcq,mod_add_div->xet,mod_eq_of_lt->xaq,mod_lt->xaU,mul_add->xbn,mul_assoc->xaT,mul_comm->xaS,mul_le_mul->xck,mul_le_mul_left->xaC,mul_left_comm->xdA,mul_lt_mul''->xcm,mul_lt_mul_of_pos_right->xbI,mul_one->xea,mul_zero->xcO,not_lt_zero->xbq,pos_of_ne_zero->xcJ,pow_add->xbo,pow_le_pow_left->xff,pow_le_pow_right->xal,pow_mul->xch,pow_pos->xaV,pow_succ->xba,pow_succ'->xdV,pow_zero->xez,strongRecOn->xdG,sub_le->xfh,sub_self->xcD,two_pow_pos->xdL,zero_add->xaK,zero_le->xan,zero_lt_one->xdY,zero_mod->xgf,zero_mul->xcp
open Option.some renaming inj->xdI
open Prod.mk renaming injEq->xcI
open Sum renaming elim->xfH
section
set_option maxRecDepth 100000
section
variable(fu:wr)
def xz(fu:K)(a:V ((N M)×(N<|M×(N K)))):V qR:=if(a).isNone=wL then Z wL else Y (a) λb=>if(X b.1:J)=0 then Z wL else Z I
def Vu(fu:K)(a:N K)(b:J):V K:=if b<(X a:J)then zI b (X a) λd=>B (a.getD d 0) λe=>Z e else Z (0:K)
def eR(b:J)(a:K)(f:N K)(g:N K):V (K×K):=Y (Vu fu f b) λd=>Y (Vu fu g b) λe=>ck (a<=1)<|B ((d+e+a)%18446744073709551616) λh=>B ((d+e+a)/18446744073709551616) λi=>Z (h,i)
def bZ(fu:K)(e:J->K->V (K×K))(f:N K):((K×J×(N K))->V (K×(N K)))->(K×J×(N K))->V (K×(N K)):=λL (d,a,b)=>if a<(X f:J)then Y (e a d) λ(g,h)=>zI a (X b) λi=>B (b.set i g) λj=>zf (a+1) λk=>L (h,k,j)else Z (d,b)
def qf(d:J)(e:J->K->V (K×K)):V ((N K)×K):=jX d λa=>ck (8*a<=281474976710656)<|B (xaa a 0) λb=>Y (zg (bZ fu e b) fu<|((0:K),(0:J),b)) λ(f,g)=>Z (g,f)
def EZ(fu:K):((N K)->V (N K))->(N K)->V (N K):=λL a=>if 0<(X a:J)then zf (((X a:J))-1) λd=>zI d (X a) λe=>B (a.getD e 0) λf=>if(f:J)=(((0:K):K):J)then zf (((X a:J))-1) λg=>jX g λb=>ck (b<=X a)<|B (a.take b) λh=>L h else Z a else Z a
def wE(a:N K):V (N K):=Y (zg (EZ fu) fu a) λb=>Z b
def Kk(fu:K):((N K)->V (N K))->(N K)->V (N K):=λL a=>if 0<(X a:J)then zf (((X a:J))-1) λd=>zI d (X a) λe=>B ((a.getD e 0)) λf=>if(f:J)=(((0:K):K):J)then zf (((X a:J))-1) λg=>jX g λb=>ck (b<=X a)<|B (a.take b) λh=>L h else Z a else Z a
def xr(a:N K):V (N K):=Y (zg (Kk fu) fu a) λb=>Z b
def Zu(a:N K)(b:N K):V (N K):=B (max ((X a:J))<|(X b:J)) λf=>Y (qf fu f<|λc i=>eR fu c i a b) λ(d,e)=>ck ((X d+X ([e]))*8<=140737488355328)<|B (d++([e])) λg=>Y (xr fu g) λh=>Z h
def eK(b:J)(a:K)(f:N K)(g:N K):V (K×K):=Y (Vu fu f b) λd=>Y (Vu fu g b) λe=>ck (a<=1)<|B ((d+18446744073709551616-e-a)%18446744073709551616) λh=>B (if d<e+a then 1 else 0) λi=>Z (h,i)
def Ja(a:N K)(b:N K):V ((N K)×J):=B (max ((X a:J))<|(X b:J)) λd=>Y (qf fu d<|λc h=>eK fu c h a b) λ(e,f)=>if(((0:K):K):J)<(f:J)then Z (([],(1:J)))else Y (xr fu e) λg=>Z<|(g,(0:J))
def Wo(a:N K)(b:N K):V (N K):=Y (Ja fu a b) λ(d,e)=>Z d
def YC(fu:K)(a:N K)(e:J):V (N K):=jX e λb=>ck (8*b<=281474976710656)<|B (xaa b 0) λd=>ck ((X d+X a)*8<=140737488355328)<|B (d++a) λf=>Z f
def qP(fu:K)(a:K)(b:K):V (K×K):=B (a &&& ((4294967295:K))) λl=>B (a/2^(min (((32:K)):J).toNat 64)) λm=>B (b &&& ((4294967295:K))) λo=>B (b/2^(min (((32:K)):J).toNat 64)) λp=>B ((l*o)%18446744073709551616) λr=>B ((m*o)%18446744073709551616) λs=>B (r/2^(min (((32:K)):J).toNat 64)) λt=>B ((s+t)%18446744073709551616) λq=>B (q &&& ((4294967295:K))) λu=>B (q/2^(min (((32:K)):J).toNat 64)) λd=>B ((l*p)%18446744073709551616) λe=>B ((u+e)%18446744073709551616) λf=>B ((m*p)%18446744073709551616) λg=>B ((g+d)%18446744073709551616) λh=>B (f/2^(min (((32:K)):J).toNat 64)) λi=>B ((h+i)%18446744073709551616) λj=>B ((a*b)%18446744073709551616) λk=>Z (j,k)
def fM(e:J)(a:K)(b:N K)(f:K):V (K×K):=zI e (X b) λg=>B (b.getD g 0) λh=>Y (qP fu h f) λ(i,d)=>ck ((0:K)<=1)<|B ((d+a+((0:K)))%18446744073709551616) λj=>B ((d+a+((0:K)))/18446744073709551616) λk=>B ((i+k)%18446744073709551616) λl=>Z (j,l)
def Q9(a:N K)(e:K):V (N K):=Y (qf fu ((X a:J))<|λc g=>fM fu c g a e) λ(b,d)=>ck ((X b+X ([d]))*8<=140737488355328)<|B (b++([d])) λf=>Z f
def Jg(fu:K)(d:J)(i:N K)(j:N K)(k:J)(e:N K):((K×J×(N K)×(N K))->V (N K))->(K×J×(N K)×(N K))->V (N K):=λL (f,a,b,g)=>Y ((if a<(X e:J)then Z ((i,d,j,k,d,(X e:J),wL))else Z ((i,d,j,k,d,(X e:J),I)):V ((N K)×J×(N K)×J×J×J×qR))) λ(A,l,B,C,E,G,p)=>if p then zI a (X g) λq=>nm ((g.getD q 0)) λm=>zf (l+a) λr=>zf (l+a) λs=>zI s (X b) λt=>nm ((b.getD t 0)) λo=>ck (f<=1)<|nm ((o+m+f)%18446744073709551616) λu=>nm ((o+m+f)/18446744073709551616) λv=>zI r (X b) λw=>nm (b.set w u) λh=>zf (a+1) λy=>L (v,y,h,g)else Z b
def cG(f:N K)(a:N K):((J×(N K))->V (N K))->(J×(N K))->V (N K):=λL (b,g)=>Y ((if b<(X a:J)then Z ((f,a,(X a:J),wL))else Z ((f,a,(X a:J),I)):V ((N K)×(N K)×J×qR))) λ(h,d,j,k)=>if k then zI b (X d) λl=>B (d.getD l 0) λm=>Y (Q9 fu h m) λi=>Y (zg (Jg fu b h d j i) fu<|((0:K),(0:J),g,i)) λe=>zf (b+1) λo=>L (o,e)else Z g
def QC(d:N K)(e:N K):V (N K):=zf (((X d:J))+((X e:J))) λg=>zf (g+1) λh=>jX h λf=>ck (8*f<=281474976710656)<|B (xaa f 0) λi=>Y (zg (cG fu d e) fu<|((0:J),i)) λa=>Y (xr fu a) λb=>Z b
def uh:wr->(xS wr)->(xS wr)->V (xS wr)
 |0,_,_=>wF
 |fu+1,A,B=>Y (wE fu A) λa=>Y (wE fu B) λb=>nm (min ((X a:J))<|(X b:J)) λC=>if C<8 then Y (QC fu a b) λE=>Z E else nm (max ((X a:J))<|(X b:J)) λG=>ck ((2:J)≠0)<|zf (xdE G (2:J)) λd=>nm (min d<|(X a:J)) λH=>jX H λq=>ck (q<=X a)<|nm (a.take q) λn=>Y (wE fu n) λr=>nm (min d<|(X a:J)) λc=>jX c λs=>ck (s<=X a)<|nm (a.drop s) λt=>nm (min d<|(X b:J)) λK=>jX K λu=>ck (u<=X b)<|nm (b.take u) λM=>Y (wE fu M) λv=>nm (min d<|(X b:J)) λN=>jX N λw=>ck (w<=X b)<|nm (b.drop w) λy=>Y (uh fu r v) λe=>Y (uh fu t y) λf=>Y (Zu fu r t) λg=>Y (Zu fu v y) λh=>Y (uh fu g h) λi=>Y (Wo fu i e) λj=>Y (Wo fu j f) λk=>Y (YC fu k d) λl=>Y (Zu fu e l) λm=>zf ((2:J)*d) λx=>Y (YC fu f x) λo=>Y (Zu fu m o) λp=>Z p
def Z7(fu:K)(a:J):V qR:=if a=a then Z I else Z wL
def uF(a:J)(b:J):V J:=Y (Z7 fu a) λe=>Y (Z7 fu b) λd=>if e then if d then Z (0:J)else Z (-1:J)else if d then Z (1:J)else if a<b then Z (-1:J)else if b<a then Z (1:J)else Z (0:J)
def kF(fu:K)(a:K):V qR:=if(a:J)=(a:J)then Z I else Z wL
def qX(a:K)(b:K):V J:=Y (kF fu a) λe=>Y (kF fu b) λd=>if e then if d then Z (0:J)else Z (-1:J)else if d then Z (1:J)else if(a:J)<(b:J)then Z (-1:J)else if(b:J)<(a:J)then Z (1:J)else Z (0:J)
def fW(b:N K)(d:N K):(J->V (Z9⊕J))->J->V (Z9⊕J):=λL a=>if 0<=a then zI a (X b) λe=>B (b.getD e 0) λf=>zI a (X d) λg=>B (d.getD g 0) λh=>if(f:J)=(h:J)then zf (a-1) λi=>L i else zI a (X b) λj=>B (b.getD j 0) λk=>zI a (X d) λl=>B (d.getD l 0) λm=>Y (qX fu k m) λo=>Z (.inr o)else Z (.inl ())
def Wi(d:N K)(e:N K):V J:=Y (wE fu d) λa=>Y (wE fu e) λb=>if(X a:J)=(X b:J)then zf (((X a:J))-1) λf=>Y (zg (fW fu a b) fu f) λg=>match g with
 |.inl _=>Z (0:J)
 |.inr h=>Z h else Y (uF fu ((X a:J))<|(X b:J)) λi=>Z i
def wm(fu:K)(a:N K):V (N K):=ck (X a<=17592186044416)<|some a
def Yn(a:N K):V (N K):=Y (wE fu a) λb=>Y (wm fu b) λd=>Z d
def de(fu:K)(b:J)(a1:K)(a:N K)(d:J):V (K×K):=zI b (X a) λg=>B (a.getD g 0) λh=>ck ((64:J)≠0)<|B (xcv d (64:J)) λe=>ck (0<=e)<|B (h*2^(min (e:J).toNat 64)%18446744073709551616) λi=>B (i|||a1) λj=>zI b (X a) λk=>B (a.getD k 0) λl=>B (l/2^(min (((1:K)):J).toNat 64)) λm=>ck ((64:J)≠0)<|B (xcv d (64:J)) λo=>zf ((63:J)-o) λf=>ck (0<=f)<|B (m/2^(min (f:J).toNat 64)) λp=>Z (j,p)
def Wc(b:N K)(a:J):V ((N K)×J):=if a<0 then Z (([],(1:J)))else if 262144<a then Z (([],(1:J)))else Y (qf fu ((X b:J))<|λc j=>de fu c j b a) λ(d,e)=>ck ((X d+X ([e]))*8<=140737488355328)<|B (d++([e])) λf=>ck ((64:J)≠0)<|zf (xdE a (64:J)) λg=>Y (YC fu f g) λh=>Y (xr fu h) λi=>Z<|(i,(0:J))
def eV(d:J)(m:K)(a:N K)(b:J):V (K×K):=zI d (X a) λf=>B (a.getD f 0) λg=>ck (0<=b)<|B (g/2^(min (b:J).toNat 64)) λh=>zf (d+1) λi=>Y (Vu fu a i) λj=>B (j*2^(min (((1:K)):J).toNat 64)%18446744073709551616) λk=>zf ((63:J)-b) λe=>ck (0<=e)<|B (k*2^(min (e:J).toNat 64)%18446744073709551616) λm4=>B (h|||m4) λl=>Z<|(l,(0:K))
def Uw(a:N K)(f:J):V (N K):=B (max f (0:J)) λb=>ck ((64:J)≠0)<|zf (xdE b (64:J)) λg=>if(X a:J)<=g then Z []else ck ((64:J)≠0)<|zf (xdE b (64:J)) λh=>jX h λd=>ck (d<=X a)<|B (a.drop d) λe=>ck ((64:J)≠0)<|B (xcv b (64:J)) λi=>Y (qf fu ((X e:J))<|λc m=>eV fu c m e i) λ(j,l)=>Y (xr fu j) λk=>Z k
def xX(fu:K)(a:K):V J:=Y ((if 4294967296<=(a:J)then B (a/2^(min (32:J).toNat 64)) λg=>Z (g,32)else Z (a,0):V (K×J))) λ(b,e)=>Y ((if 65536<=(b:J)then B (b/2^(min (16:J).toNat 64)) λh=>zf (e+16) λi=>Z (h,i)else Z (b,e):V (K×J))) λ(d,f)=>if 256<=(d:J)then B (d/2^(min (8:J).toNat 64)) λj=>zf (f+8) λk=>B (j%256) λl=>B (xfg l) λm=>zf (k+((m:J))) λo=>Z o else B (d%256) λp=>B (xfg p) λq=>zf (f+((q:J))) λr=>Z r
def xI(a:K):V J:=Y (xX fu a) λb=>zf ((64:J)-b) λd=>Z d
def jz(fu:K)(l:K)(m:K)(g:K):((K×K)->V K)->(K×K)->V K:=λL (a,h)=>if(((4294967296:K):K):J)<=(a:J)then B ((a+18446744073709551616-((1:K)))%18446744073709551616) λb=>B ((h+l)%18446744073709551616) λd=>if(((4294967296:K):K):J)<=(d:J)then Z b else L (b,d)else B ((a*m)%18446744073709551616) λi=>B ((((4294967296:K))*h)%18446744073709551616) λj=>B ((j+g)%18446744073709551616) λk=>if(k:J)<(i:J)then B ((a+18446744073709551616-((1:K)))%18446744073709551616) λe=>B ((h+l)%18446744073709551616) λf=>if(((4294967296:K):K):J)<=(f:J)then Z e else L (e,f)else Z a
def jB(fu:K)(k:K)(l:K)(f:K):((K×K)->V K)->(K×K)->V K:=λL (g,a)=>if(((4294967296:K):K):J)<=(a:J)then B ((a+18446744073709551616-((1:K)))%18446744073709551616) λb=>B ((g+k)%18446744073709551616) λm32=>if(((4294967296:K):K):J)<=(m32:J)then Z b else L (m32,b)else B ((a*l)%18446744073709551616) λh=>B ((((4294967296:K))*g)%18446744073709551616) λi=>B ((i+f)%18446744073709551616) λj=>if(j:J)<(h:J)then B ((a+18446744073709551616-((1:K)))%18446744073709551616) λd=>B ((g+k)%18446744073709551616) λe=>if(((4294967296:K):K):J)<=(e:J)then Z d else L (e,d)else Z a
def qS(o:wr)(l:wr)(a:wr):V (wr×wr):=if(a:J)=(((0:wr):wr):J)then wF else if(a:J)<=(o:J)then wF else if(o:J)=(((0:wr):wr):J)then ck (a≠0)<|nm (l/a) λK=>ck (a≠0)<|nm (l%a) λM=>Z (K,M)else Y (xI fu a) λN=>nm (Cr N) λf=>nm (a*2^(min (f:J).toNat 64)%18446744073709551616) λm=>nm (m/2^(min (((32:wr)):J).toNat 64)) λb=>nm (m &&& ((4294967295:wr))) λH=>nm (o*2^(min (f:J).toNat 64)%18446744073709551616) λn=>nm ((((64:wr))+18446744073709551616-f)%18446744073709551616) λP=>nm (l/2^(min (P:J).toNat 64)) λm9=>nm (n|||m9) λd=>nm (l*2^(min (f:J).toNat 64)%18446744073709551616) λg=>nm (g/2^(min (((32:wr)):J).toNat 64)) λh=>nm (g &&& ((4294967295:wr))) λi=>ck (b≠0)<|nm (d/b) λj=>nm ((j*b)%18446744073709551616) λp=>nm ((d+18446744073709551616-p)%18446744073709551616) λq=>Y (zg (jz fu b H h) fu (j,q)) λx=>nm ((d*((4294967296:wr)))%18446744073709551616) λr=>nm ((r+h)%18446744073709551616) λs=>nm ((x*m)%18446744073709551616) λt=>nm ((s+18446744073709551616-t)%18446744073709551616) λe=>ck (b≠0)<|nm (e/b) λk=>nm ((k*b)%18446744073709551616) λu=>nm ((e+18446744073709551616-u)%18446744073709551616) λv=>Y (zg (jB fu b H i) fu (v,k)) λc=>nm ((x*((4294967296:wr)))%18446744073709551616) λw=>nm ((w+c)%18446744073709551616) λy=>nm ((e*((4294967296:wr)))%18446744073709551616) λA=>nm ((A+i)%18446744073709551616) λB=>nm ((c*m)%18446744073709551616) λC=>nm ((B+18446744073709551616-C)%18446744073709551616) λE=>nm (E/2^(min (f:J).toNat 64)) λG=>Z (y,G)
def K1(i:K)(d:K)(j:K):((K×K)->V K)->(K×K)->V K:=λL (b,a)=>Y (qP fu b j) λ(f,k)=>if(f:J)<(a:J)then Z b else if(f:J)=(a:J)then if(k:J)<=(i:J)then Z b else B ((b+18446744073709551616-((1:K)))%18446744073709551616) λg=>ck ((0:K)<=1)<|B ((a+d+((0:K)))%18446744073709551616) λl=>B ((a+d+((0:K)))/18446744073709551616) λm=>if(((0:K):K):J)<(m:J)then Z g else L (g,l)else B ((b+18446744073709551616-((1:K)))%18446744073709551616) λh=>ck ((0:K)<=1)<|B ((a+d+((0:K)))%18446744073709551616) λo=>B ((a+d+((0:K)))/18446744073709551616) λe=>if(((0:K):K):J)<(e:J)then Z h else L (h,o)
def Kt(b:K)(d:K)(e:K)(a:K)(f:K):V K:=if(a:J)<=(b:J)then Z (18446744073709551615:K)else Y (qS fu b d a) λ(g,h)=>Y (zg (K1 fu e a f) fu (g,h)) λi=>Z i
def Ui(d:N K)(f:K):((K×J×(N K))->V (K×(N K)))->(K×J×(N K))->V (K×(N K)):=λL (e,a,b)=>if 0<=a then zI a (X d) λg=>B (d.getD g 0) λh=>Y (qS fu e h f) λ(i,j)=>zI a (X b) λk=>B (b.set k i) λl=>zf (a-1) λm=>L (j,m,l)else Z (e,b)
def VJ(a:N K)(d:K):V ((N K)×K):=jX ((X a:J)) λb=>ck (8*b<=281474976710656)<|B (xaa b 0) λe=>zf (((X a:J))-1) λf=>Y (zg (Ui fu a d) fu<|((0:K),f,e)) λ(g,h)=>Y (xr fu h) λi=>Z (i,g)
def dj(b:N K):((J×J×K×(N K))->V (J×J×K×(N K)))->(J×J×K×(N K))->V (J×J×K×(N K)):=λL (g,h,d,a)=>Y (Q9 fu b d) λe=>Y (Wi fu e a) λf=>if 0<f then B ((d+18446744073709551616-((1:K)))%18446744073709551616) λi=>L (g,h,i,a)else Z (g,h,d,a)
def VF(P:J)(e:xS wr):(((xS wr)×J×(xS wr)×(xS wr))->ww ((xS wr)×(xS wr)))->((xS wr)×J×(xS wr)×(xS wr))->ww ((xS wr)×(xS wr)):=λL (b,d,a,f)=>if 0<=d then zf (d+((lM e:J))) λp=>zI p (lM a) λQ=>nm ((a.getD Q 0)) λR=>zf (d+((lM e:J))) λq=>zf (q-1) λr=>zI r (lM a) λS=>nm ((a.getD S 0)) λU=>zf (d+((lM e:J))) λs=>zf (s-2) λt=>zI t (lM a) λV=>nm ((a.getD V 0)) λW=>zf (((lM e:J))-1) λu=>zI u (lM b) λX=>nm (b.getD X 0) λY=>zf (((lM e:J))-2) λv=>zI v (lM b) λc=>nm (b.getD c 0) λx=>bd (Kt fu R U W Y x) λz=>zf (d+((lM e:J))) λw=>zf (w+1) λy=>jX d λg=>jX y λh=>ck (g<=h/\h<=lM a)<|nm (xdH (h-g)<|xdT g a) λj=>ck ((lM (([]:xS wr))+lM j)*8<=140737488355328)<|nm ((([]:xS wr))++j) λA=>bd (zg (dj fu b) fu<|(P,(lM e:J),z,A)) λ(i4,N,D,B)=>zI d (lM f) λC=>nm (f.set C D) λE=>jX d λi=>ck (i<=lM a)<|bd (Q9 fu b D) λG=>bd (Wo fu B G) λk=>zf (N+1) λH=>jX H λl=>ck ((lM k+l)*8<=140737488355328)<|nm (k++xaa l 0) λm=>zf (N+1) λF=>jX F λo=>ck (o<=lM m)<|nm (m.take o) λn=>nm (iZ i (lM a-i) a n) λK=>zf (d-1) λM=>L (b,M,K,E)else Z (a,f)
def U2(p:xS wr)(q:xS wr):V ((xS wr)×(xS wr)×J):=Y (wE fu p) λb=>Y (wE fu q) λa=>Y ((if(X a:J)=0 then Z wL else Z I:V qR)) λr=>if r then Z (([],[],(3:J)))else Y ((Y (Wi fu b a) λs=>if s<0 then Z wL else Z I:V qR)) λt=>if t then Y (Yn fu b) λu=>Z (([],u,(0:J)))else if(X a:J)=1 then zI 0 (X a) λv=>nm (a.getD v 0) λw=>Y (VJ fu b w) λ(y,A)=>Y (xr fu [A]) λB=>Z ((y,B,(0:J)))else zf (((X a:J))-1) λC=>zI C (X a) λE=>nm (a.getD E 0) λG=>Y (xI fu G) λd=>Y (Wc fu a d) λ(e,M)=>Y (Wc fu b d) λ(f,N)=>zf (((X b:J))+1) λH=>zf (H-((X f:J))) λc=>jX c λk=>ck ((X f+k)*8<=140737488355328)<|nm (f++xaa k 0) λl=>zf (((X l:J))-((X e:J))) λn=>jX n λm=>ck (8*m<=281474976710656)<|nm (xaa m 0) λo=>zf (((X o:J))-1) λK=>Y (zg (VF fu d e) fu (e,K,l,o)) λ(g,h)=>Y (xr fu h) λi=>Y (Uw fu g d) λj=>Z<|(i,j,(0:J))
def xk(b:qR)(d:N K):V M:=Y (Yn fu d) λa=>if b then if 0<(X a:J)then Z (wL,a)else Z (I,a)else Z (I,a)
def Wb(b:M)(d:M):V (M×M×J):=Y (U2 fu b.2 d.2) λ(e,a,f)=>if f=0 then Y ((if b.1=wL then if 0<(X a:J)then Y (Zu fu e [(1:K)]) λg=>Y (Ja fu d.2 a) λ(h,o)=>Z (g,h)else Z (e,a)else Z (e,a):V ((N K)×(N K)))) λ(i,j)=>B (!(b.1==d.1)) λk=>Y (xk fu k i) λl=>Y (xk fu I j) λm=>Z ((l,m,(0:J)))else Z (((I,[]),(I,[]),f))
def qd(a:M):V M:=Y (xk fu a.1 a.2) λb=>Z b
def xy(b:M):V J:=Y (qd fu b) λa=>if a.1=wL then zf ((0:J)-2) λd=>zf (d+1) λe=>Z e else if 0<(X a.2:J)then zf ((0:J)+1) λf=>Z f else Z (0:J)
def wk(b:M)(d:M):V (M×J):=Y (Wb fu b d) λ(e,f,a)=>Y ((if a=0 then Z I else Z wL:V qR)) λg=>if g then Z (((I,[]),a))else Y (xy fu f) λh=>if h=0 then Z ((e,(0:J)))else Z (((I,[]),(4:J)))
def px:(((N K)×(N K))->V (N K))->((N K)×(N K))->V (N K):=λL (b,a)=>if 0<(X a:J)then Y (U2 fu b a) λ(e,d,f)=>L (a,d)else Z b
def Wk(a:M)(b:M):V M:=Y (Yn fu a.2) λd=>Y (Yn fu b.2) λe=>Y (zg (px fu) fu (d,e)) λf=>Y (xk fu I f) λg=>Z g
def kR(a:M):V M:=Y (xk fu (!a.1) a.2) λb=>Z b
def Yu(d:M)(a:M):V ((M×(N K))×J):=Y (xy fu a) λg=>if g=0 then Z ((((I,[]),[]),(3:J)))else Y (Wk fu d a) λe=>Y (wk fu d e) λ(f,i)=>Y (wk fu a e) λ(b,j)=>if b.1=wL then Y (kR fu f) λh=>Z (((h,b.2),(0:J)))else Z (((f,b.2),(0:J)))
def zP(a:J):V M:=if a<0 then B (Cr a) λb=>B ((18446744073709551616-b)%18446744073709551616) λd=>Y (xk fu wL [d]) λe=>Z e else B (Cr a) λf=>Y (xk fu I [f]) λg=>Z g
def vU(a:J):V (M×(N K)):=Y (zP fu a) λb=>Z<|(b,[(1:K)])
def YM(a:M×(N K)):V M:=Y (qd fu (I,a.2)) λb=>Z b
def xE(a:M×(N K)):V (M×(N K)):=Y (YM fu a) λb=>Y (Yu fu a.1 b) λ(d,e)=>if e=0 then Z d else Y (vU fu (0:J)) λf=>Z f
def zF(a:M)(b:M):V M:=B (!(a.1==b.1)) λd=>Y (uh fu a.2 b.2) λe=>Y (xk fu d e) λf=>Z f
def Wx(d:M×(N K))(e:M×(N K)):V (M×(N K)):=Y (xE fu d) λa=>Y (xE fu e) λb=>Y (zF fu a.1 b.1) λf=>Y (uh fu a.2 b.2) λg=>Y (xE fu (f,g)) λh=>Z h
def JT(a:M×(N K)):V J:=Y (xE fu a) λb=>Y (xy fu b.1) λd=>Z d
def WB(d:M×(N K))(e:M×(N K))(f:M->M->V M):V (M×(N K)):=Y (xE fu d) λa=>Y (xE fu e) λb=>Y (YM fu b) λg=>Y (zF fu a.1 g) λh=>Y (YM fu a) λi=>Y (zF fu b.1 i) λj=>Y (f h j) λk=>Y (uh fu a.2 b.2) λl=>Y (xE fu (k,l)) λm=>Z m
def vN(a:M)(b:M):V M:=B (a.1==b.1) λe=>if e then Y (Zu fu a.2 b.2) λf=>Y (xk fu a.1 f) λg=>Z g else Y ((Y (Wi fu a.2 b.2) λh=>if h<0 then Z (b,a)else Z (a,b):V (M×M))) λ(d,i)=>Y (Ja fu d.2 i.2) λ(j,l)=>Y (xk fu d.1 j) λk=>Z k
def qC(a:M)(b:M):V M:=Y (kR fu b) λd=>Y (vN fu a d) λe=>Z e
def XB(a:M)(b:M)(d:qR):V M:=if d then Y (qC fu a b) λe=>Z e else Y (vN fu a b) λf=>Z f
def YT(a:M×(N K))(b:M×(N K))(d:qR):V (M×(N K)):=Y (WB fu a b<|λc f=>XB fu c f d) λe=>Z e
def Uu(a:M×(N K))(b:M×(N K)):V (M×(N K)):=Y (YT fu a b wL) λd=>Z d
def Ym(e:(N M)×(N<|M×(N K)))(a:N (M×(N K))):((J×(N<|M×(N K)))->V (N<|M×(N K)))->(J×(N<|M×(N K)))->V (N<|M×(N K)):=λL (b,d)=>Y ((if b<(X a:J)then Z ((e,a,(X a:J),wL))else Z ((e,a,(X a:J),I)):V (((N M)×(N<|M×(N K)))×(N<|M×(N K))×J×qR))) λ(o,f,p,g)=>if g then zI b (X f) λh=>B (f.getD h<|((I,[]),[])) λi=>Y (xE fu i) λj=>zI b (X d) λk=>B (d.set k j) λl=>zf (b+1) λm=>L (m,l)else Z d
def Yi(h:J)(i:(N M)×(N<|M×(N K)))(a:J):((J×(N<|M×(N K))×(M×(N K)))->V (N<|M×(N K)))->(J×(N<|M×(N K))×(M×(N K)))->V (N<|M×(N K)):=λL (b,d,e)=>Y ((if b<a then Z (i,a,h,a,wL)else Z (i,a,h,a,I):V (((N M)×(N<|M×(N K)))×J×J×J×qR))) λ(f,j,k,B,l)=>if l then zf (k-j) λm=>zf (m+b) λo=>zf (k-j) λp=>zf (p+b) λq=>zI q (X d) λr=>nm ((d.getD r<|((I,[]),[]))) λs=>zI b (X f.2) λt=>nm (f.2.getD t<|((I,[]),[])) λu=>Y (Wx fu e u) λv=>Y (Uu fu s v) λw=>zI o (X d) λy=>nm (d.set y w) λg=>zf (b+1) λA=>L (A,g,e)else Z d
def Yt(m:(N M)×(N<|M×(N K)))(f:J):(((N<|M×(N K))×J)->V ((N<|M×(N K))⊕(N<|M×(N K))))->((N<|M×(N K))×J)->V ((N<|M×(N K))⊕(N<|M×(N K))):=λL (b,a)=>if 0<=a then zI a (X b) λr=>B ((b.getD r<|((I,[]),[]))) λo=>Y ((if f<=a then Z (m,f,wL)else Z (m,f,I):V (((N M)×(N<|M×(N K)))×J×qR))) λ(s,t,u)=>if u then Y (zg (Yi fu a s t) fu<|((0:J),b,o)) λd=>jX a λp=>ck (p<=X d)<|B (d.take p) λg=>zf (a-1) λv=>L (g,v)else Y (JT fu o) λh=>if h=0 then jX a λq=>ck (q<=X b)<|B (b.take q) λi=>zf (a-1) λj=>L (i,j)else zf (a+1) λk=>jX k λe=>ck (e<=X b)<|B (b.take e) λl=>Z (.inr l)else Z (.inl b)
def yT(a:(N M)×(N<|M×(N K)))(e:N (M×(N K))):V (N<|M×(N K)):=jX ((X e:J)) λf=>ck (56*f<=281474976710656)<|B (xaa f<|((I,[]),[])) λh=>Y (zg (Ym fu a e) fu<|((0:J),h)) λg=>zf (((X a.2:J))-1) λi=>zf (((X g:J))-1) λj=>Y (zg (Yt fu a i) fu (g,j)) λk=>match k with
 |.inl b=>Z b
 |.inr d=>Z d
def UA(a:M×(N K))(b:M×(N K)):V (M×(N K)):=Y (YT fu a b I) λd=>Z d
def Yl(e:(N M)×(N<|M×(N K)))(a:N (M×(N K)))(f:J):((J×(N<|M×(N K)))->V (N<|M×(N K)))->(J×(N<|M×(N K)))->V (N<|M×(N K)):=λL (b,d)=>Y ((if b<(X a:J)then Z ((f,e,a,(X a:J),wL))else Z ((f,e,a,(X a:J),I)):V (J×((N M)×(N<|M×(N K)))×(N<|M×(N K))×J×qR))) λ(h,u,g,v,i)=>if i then zI b (X g) λj=>B (g.getD j<|((I,[]),[])) λk=>zI b (X d) λl=>B ((d.getD l<|((I,[]),[]))) λm=>Y (vU fu h) λo=>Y (Wx fu k o) λp=>Y (UA fu m p) λq=>zI b (X d) λr=>B (d.set r q) λs=>zf (b+1) λt=>L (t,s)else Z d
def wG(a:(N M)×(N<|M×(N K)))(b:N (M×(N K)))(d:N (M×(N K)))(f:J):V (N<|M×(N K)):=B (max ((X b:J))<|(X d:J)) λg=>jX g λe=>ck (56*e<=281474976710656)<|B (xaa e<|((I,[]),[])) λh=>B (Pk h b) λi=>Y (zg (Yl fu a d f) fu<|((0:J),i)) λj=>Y (yT fu a j) λk=>Z k
def wK(a:V ((N M)×(N<|M×(N K))))(b:N (M×(N K)))(d:N (M×(N K))):V ((N<|M×(N K))×J):=Y (xz fu a) λe=>if e then Z (([],(1:J)))else Y (a) λf=>Y (wG fu f b d (1:J)) λg=>Z<|(g,(0:J))
def kN(e:J)(g:N (M×(N K)))(i:(N M)×(N<|M×(N K)))(j:N (M×(N K)))(k:J):((J×(N<|M×(N K))×(N<|M×(N K))×(M×(N K)))->V ((N<|M×(N K))×(N<|M×(N K))))->(J×(N<|M×(N K))×(N<|M×(N K))×(M×(N K)))->V ((N<|M×(N K))×(N<|M×(N K))):=λL (a,f,b,d)=>Y ((if a<(X g:J)then Z ((i,e,j,k,e,(X g:J),wL))else Z ((i,e,j,k,e,(X g:J),I)):V (((N M)×(N<|M×(N K)))×J×(N<|M×(N K))×J×J×J×qR))) λ(m,l,o,C,E,G,p)=>if p then zI a (X f) λq=>nm ((f.getD q<|((I,[]),[]))) λr=>zf (l+a) λs=>zf (l+a) λt=>zI t (X b) λu=>nm ((b.getD u<|((I,[]),[]))) λv=>Y (Wx fu d r) λw=>Y (UA fu v w) λy=>zI s (X b) λA=>nm (b.set A y) λh=>zf (a+1) λB=>L (B,f,h,d)else Z (f,b)
def kt(g:(N M)×(N<|M×(N K)))(a:N (M×(N K))):((J×(N<|M×(N K))×(N<|M×(N K)))->V (N<|M×(N K)))->(J×(N<|M×(N K))×(N<|M×(N K)))->V (N<|M×(N K)):=λL (b,h,i)=>Y ((if b<(X a:J)then Z ((g,a,(X a:J),wL))else Z ((g,a,(X a:J),I)):V (((N M)×(N<|M×(N K)))×(N<|M×(N K))×J×qR))) λ(j,d,k,l)=>if l then zI b (X d) λm=>B (d.getD m<|((I,[]),[])) λo=>Y (zg (kN fu b h j d k) fu<|((0:J),h,i,o)) λ(e,f)=>zf (b+1) λp=>L (p,e,f)else Z i
def xG(a:(N M)×(N<|M×(N K)))(h:N (M×(N K)))(i:N (M×(N K))):V (N<|M×(N K)):=Y (yT fu a h) λe=>Y (yT fu a i) λf=>zf (((X e:J))+((X f:J))) λj=>jX j λg=>ck (56*g<=281474976710656)<|B (xaa g<|((I,[]),[])) λk=>Y (zg (kt fu a e) fu<|((0:J),f,k)) λb=>Y (yT fu a b) λd=>Z d
def Jj:((N<|M×(N K))->V (N<|M×(N K)))->(N<|M×(N K))->V (N<|M×(N K)):=λL a=>if 0<(X a:J)then zf (((X a:J))-1) λd=>zI d (X a) λe=>B (a.getD e<|((I,[]),[])) λf=>Y (JT fu f) λg=>if g=0 then zf (((X a:J))-1) λh=>jX h λb=>ck (b<=X a)<|B (a.take b) λi=>L i else Z a else Z a
def Xl(a:N (M×(N K))):V (N<|M×(N K)):=Y (zg (Jj fu) fu a) λb=>Z b
def Jc(d:M×(N K))(e:M×(N K)):V ((M×(N K))×J):=Y (xE fu d) λa=>Y (xE fu e) λb=>Y (YM fu b) λf=>Y (zF fu a.1 f) λg=>Y (YM fu a) λh=>Y (zF fu b.1 h) λi=>Y (Yu fu g i) λ(j,k)=>Z (j,k)
def Ys(a:N (M×(N K)))(j:J):(((N<|M×(N K))×J×(N<|M×(N K))×(N<|M×(N K)))->V ((N<|M×(N K))×(N<|M×(N K))×(N<|M×(N K))))->((N<|M×(N K))×J×(N<|M×(N K))×(N<|M×(N K)))->V ((N<|M×(N K))×(N<|M×(N K))×(N<|M×(N K))):=λL (k,b,e,d)=>Y ((if b<(X a:J)then Z ((j,a,(X a:J),wL))else Z ((j,a,(X a:J),I)):V (J×(N<|M×(N K))×J×qR))) λ(f,l,A,m)=>if m then zI b (X l) λo=>B (l.getD o<|((I,[]),[])) λp=>zf (f+b) λq=>zf (f+b) λg=>zI g (X d) λr=>B ((d.getD r<|((I,[]),[]))) λs=>zI f (X e) λt=>B ((e.getD t<|((I,[]),[]))) λu=>Y (Wx fu u p) λv=>Y (Uu fu s v) λw=>zI q (X d) λy=>B (d.set y w) λh=>zf (b+1) λi=>L (k,i,e,h)else Z (k,e,d)
def Yp(a:N (M×(N K))):((J×(N<|M×(N K))×(N<|M×(N K)))->V ((N<|M×(N K))×(N<|M×(N K))))->(J×(N<|M×(N K))×(N<|M×(N K)))->V ((N<|M×(N K))×(N<|M×(N K))):=λL (b,e,d)=>if 0<=b then zf (b+((X a:J))) λi=>zf (i-1) λj=>zI j (X d) λk=>B ((d.getD k<|((I,[]),[]))) λl=>zf (((X a:J))-1) λm=>zI m (X a) λo=>B (a.getD o<|((I,[]),[])) λp=>Y (Jc fu l p) λ(q,u)=>zI b (X e) λr=>B (e.set r q) λs=>Y (zg (Ys fu a b) fu<|(a,(0:J),s,d)) λ(t,f,g)=>zf (b-1) λh=>L (h,f,g)else Z (e,d)
def ZD(a:N (M×(N K)))(g:N (M×(N K))):V ((N<|M×(N K))×(N<|M×(N K))):=zf (((X a:J))-((X g:J))) λj=>zf (j+1) λk=>B (max k (0:J)) λl=>jX l λh=>ck (56*h<=281474976710656)<|B (xaa h<|((I,[]),[])) λi=>ck ((X (([]:N (M×(N K))))+X a)*56<=140737488355328)<|B ((([]:N (M×(N K))))++a) λm=>zf (((X i:J))-1) λo=>Y (zg (Yp fu g) fu (o,i,m)) λ(b,d)=>Y (Xl fu b) λe=>Y (Xl fu d) λf=>Z (e,f)
def ZF(d:V ((N M)×(N<|M×(N K)))):(((N<|M×(N K))×(N<|M×(N K))×(N<|M×(N K))×(N<|M×(N K)))->V ((N<|M×(N K))×(N<|M×(N K))))->((N<|M×(N K))×(N<|M×(N K))×(N<|M×(N K))×(N<|M×(N K)))->V ((N<|M×(N K))×(N<|M×(N K))):=λL (e,a,f,b)=>if 1<(X a:J)then Y (ZD fu e a) λ(g,h)=>Y (d) λi=>Y (d) λj=>Y (xG fu j g b) λk=>Y (wG fu i f k (-1:J)) λl=>L (a,h,b,l)else Z (a,b)
def wV(a:V ((N M)×(N<|M×(N K))))(g:N (M×(N K))):V ((N<|M×(N K))×J):=Y (xz fu a) λh=>if h then Z (([],(1:J)))else Y (a) λi=>Y (a) λj=>Y (yT fu j g) λf=>if(X f:J)=0 then Z (([],(3:J)))else Y (vU fu (1:J)) λk=>Y (zg (ZF fu a) fu (i.2,f,[],[k])) λ(b,d)=>Y (vU fu (1:J)) λl=>zI 0 (X b) λm=>B (b.getD m<|((I,[]),[])) λo=>Y (Jc fu l o) λ(p,r)=>Y (a) λq=>Y (xG fu q d [p]) λe=>Z<|(e,(0:J))
def yN(a:V ((N M)×(N<|M×(N K))))(b:N (M×(N K)))(d:N (M×(N K))):V ((N<|M×(N K))×J):=Y (xz fu a) λe=>if e then Z (([],(1:J)))else Y (a) λf=>Y (xG fu f b d) λg=>Z<|(g,(0:J))
def wO(a:V ((N M)×(N<|M×(N K))))(b:N (M×(N K))):V ((N<|M×(N K))×J):=Y (xz fu a) λd=>if d then Z (([],(1:J)))else Y (a) λe=>Y (yT fu e b) λf=>Z<|(f,(0:J))
def q9(a:V ((N M)×(N<|M×(N K))))(b:N (M×(N K)))(d:N (M×(N K))):V ((N<|M×(N K))×J):=Y (xz fu a) λe=>if e then Z (([],(1:J)))else Y (a) λf=>Y (wG fu f b d (-1:J)) λg=>Z<|(g,(0:J))
def AY(d:M)(e:J):((J×M)->V M)->(J×M)->V M:=λL (a,b)=>if a<e then Y (zF fu b d) λf=>zf (a+1) λg=>L (g,f)else Z b
def Ud(a:M)(b:J):V M:=Y (zP fu (1:J)) λd=>Y (zg (AY fu a b) fu<|((0:J),d)) λe=>Z e
def fK(d:M)(e:J):((J×M)->V M)->(J×M)->V M:=λL (a,b)=>if a<e then Y (zF fu b d) λf=>zf (a+1) λg=>L (g,f)else Z b
def wY(a:M)(b:J):V M:=Y (zP fu (1:J)) λd=>Y (zg (fK fu a b) fu<|((0:J),d)) λe=>Z e
def Ji(d:J)(a:M):V M:=Y (qd fu a) λb=>Z b
def ve(fu:K)(a:N M)(f:J->M->V M):((J×(N M))->V (N M))->(J×(N M))->V (N M):=λL (b,d)=>Y ((if b<(X a:J)then Z ((a,(X a:J),wL))else Z ((a,(X a:J),I)):V ((N M)×J×qR))) λ(e,o,g)=>if g then zI b (X e) λh=>B (e.getD h (I,[])) λi=>Y (f b i) λj=>zI b (X d) λk=>B (d.set k j) λl=>zf (b+1) λm=>L (m,l)else Z d
def zH(a:N M)(d:J->M->V M):V (N M):=jX ((X a:J)) λb=>ck (32*b<=281474976710656)<|B (xaa b (I,[])) λe=>Y (zg (ve fu a d) fu<|((0:J),e)) λf=>Z f
def cM:((N M)->V (N M))->(N M)->V (N M):=λL a=>if 0<(X a:J)then zf (((X a:J))-1) λd=>zI d (X a) λe=>B (a.getD e (I,[])) λf=>Y (xy fu f) λg=>if g=0 then zf (((X a:J))-1) λh=>jX h λb=>ck (b<=X a)<|B (a.take b) λi=>L i else Z a else Z a
def zM(a:N M):V (N M):=Y (zg (cM fu) fu a) λb=>Y (zH fu b<|λc e=>Ji fu c e) λd=>Z d
def VW(e:J)(a:M)(b:M):V M:=Y (zF fu a b) λd=>Z d
def vZ(a:N M)(b:M):V (N M):=Y (zH fu a<|λc f=>VW fu c f b) λd=>Y (zM fu d) λe=>Z e
def uk(b:J)(d:M)(a:N M):V M:=if b<(X a:J)then zI b (X a) λe=>B (a.getD e (I,[])) λf=>Y (vN fu d f) λg=>Z g else Z d
def qj(a:N M)(b:N M):V (N M):=if(X a:J)<(X b:J)then Y (zH fu b<|λc h=>uk fu c h a) λd=>Y (zM fu d) λe=>Z e else Y (zH fu a<|λc h=>uk fu c h b) λf=>Y (zM fu f) λg=>Z g
def kj(a:N M)(b:N M):V (N M):=Y (zP fu (-1:J)) λd=>Y (vZ fu b d) λe=>Y (qj fu a e) λf=>Z f
def VX(m:M):(((N M)×(N M)×J×(N M))->V ((N M)×(N M)))->((N M)×(N M)×J×(N M))->V ((N M)×(N M)):=λL (d,b,a,f)=>if 0<=a then zf (a+((X d:J))) λo=>if(X b:J)<o then zf (a-1) λp=>L (d,b,p,f)else zf (a+((X d:J))) λq=>zf (q-1) λr=>zI r (X b) λs=>B ((b.getD s (I,[]))) λt=>Y (wk fu t m) λ(u,v)=>zI a (X f) λw=>B (f.set w u) λg=>jX a λk=>ck (32*k<=281474976710656)<|B (xaa k (I,[])) λl=>zI a (X g) λy=>B ((g.getD y (I,[]))) λA=>Y (vZ fu d A) λe=>ck ((X l+X e)*32<=140737488355328)<|B (l++e) λh=>Y (kj fu b h) λi=>zf (a-1) λj=>L (d,i,j,g)else Z (b,f)
def ui(j:N M)(k:N M):V ((N M)×(N M)×J):=Y (zM fu j) λg=>Y (zM fu k) λa=>if(X a:J)=0 then Z (([],[],(3:J)))else zf (((X g:J))-((X a:J))) λl=>zf (l+1) λm=>B (max m (0:J)) λb=>zf (((X a:J))-1) λo=>zI o (X a) λp=>B ((a.getD p (I,[]))) λh=>Y (wY fu h b) λq=>Y (vZ fu g q) λr=>jX b λi=>ck (32*i<=281474976710656)<|B (xaa i (I,[])) λs=>zf (b-1) λt=>Y (zg (VX fu h) fu (a,r,t,s)) λ(d,e)=>Y (zM fu e) λf=>Z<|(f,d,(0:J))
def xw(fu:K)(a:N M):V J:=zf (((X a:J))-1) λb=>Z b
def KO(k:J)(g:N M):((J×(N M)×(N M)×(N M)×M)->V ((N M)×(N M)×(N M)))->(J×(N M)×(N M)×(N M)×M)->V ((N M)×(N M)×(N M)):=λL (a,f,b,d,e)=>Y ((if a<(X g:J)then Z ((k,(X g:J),wL))else Z ((k,(X g:J),I)):V (J×J×qR))) λ(l,w,m)=>if m then zI a (X f) λo=>B ((f.getD o (I,[]))) λp=>zf (l+a) λq=>zf (l+a) λh=>zI h (X b) λr=>B ((b.getD r (I,[]))) λs=>Y (zF fu e p) λt=>Y (qC fu s t) λu=>zI q (X b) λv=>B (b.set v u) λi=>zf (a+1) λj=>L (j,f,i,d,e)else Z (f,b,d)
def Uj:((J×(N M)×(N M)×(N M))->V (((N M)×(N M))⊕J))->(J×(N M)×(N M)×(N M))->V (((N M)×(N M))⊕J):=λL (b,a,d,e)=>if 0<=b then zf (b+((X a:J))) λl=>zf (l-1) λm=>zI m (X d) λo=>B ((d.getD o (I,[]))) λp=>zf (((X a:J))-1) λq=>zI q (X a) λr=>B ((a.getD r (I,[]))) λs=>Y (wk fu p s) λ(j,k)=>if k=0 then zI b (X e) λt=>B (e.set t j) λu=>Y (zg (KO fu b a) fu<|((0:J),a,d,u,j)) λ(f,g,h)=>zf (b-1) λi=>L (i,f,g,h)else Z (.inr k)else Z (.inl (d,e))
def xV(j:N M)(k:N M):V ((N M)×J):=Y (zM fu j) λa=>Y (zM fu k) λb=>if(X b:J)=0 then Z (([],(3:J)))else Y ((if 0<(X a:J)then if(X a:J)<(X b:J)then Z (.inr ())else Z (.inl ())else Z (.inl ()):V (Z9⊕Z9))) λl=>match l with
 |.inl _=>(zf (((X a:J))-((X b:J))) λm=>zf (m+1) λo=>B (max o (0:J)) λp=>jX p λh=>ck (32*h<=281474976710656)<|B (xaa h (I,[])) λi=>zf (((X i:J))-1) λq=>Y (zg (Uj fu) fu (q,b,a,i)) λr=>match r with
 |.inl (d,e)=>Y (zM fu d) λf=>if 0<(X f:J)then Z (([],(4:J)))else Y (zM fu e) λg=>Z<|(g,(0:J))
 |.inr s=>Z ([],s))
 |.inr _=>Z<|([],(4:J))
def pS(a:N M)(b:M):V (N M):=Y (xV fu a [b]) λ(d,e)=>Z d
def Yy(a:(xS Zr)×((xS Zr)×(Zr×(Zr×qR)))):V ((xS Zr)×((xS Zr)×(Zr×(Zr×qR)))):=Y (xw fu a.1) λj=>Y (xw fu a.2.1) λk=>zf (j-k) λf=>Y ((Y (xw fu a.1) λl=>ck ((2:J)≠0)<|nm (xcv l (2:J)) λm=>if m=1 then Y (xw fu a.2.1) λo=>ck ((2:J)≠0)<|nm (xcv o (2:J)) λp=>if p=1 then nm (!(a.2.2.2.2==wL)) λq=>nm ((a.1,(a.2.1,(a.2.2.1,(a.2.2.2.1,q))))) λr=>Z r else nm (!(a.2.2.2.2==I)) λs=>nm ((a.1,(a.2.1,(a.2.2.1,(a.2.2.2.1,s))))) λt=>Z t else nm (!(a.2.2.2.2==I)) λu=>nm ((a.1,(a.2.1,(a.2.2.1,(a.2.2.2.1,u))))) λv=>Z v:V ((xS Zr)×((xS Zr)×(Zr×(Zr×qR)))))) λd=>Y (ui fu d.1 d.2.1) λ(N,w,x)=>Y (wY fu d.2.2.2.1 f) λy=>Y (zF fu d.2.2.1 y) λA=>Y (pS fu w A) λB=>nm ((d.2.1,d.2)) λi=>nm ((i.1,(B,i.2.2))) λe=>Y (xw fu e.1) λC=>zI C (X e.1) λE=>nm (e.1.getD E (I,[])) λG=>nm ((e.1,(e.2.1,(G,e.2.2.2)))) λb=>Y ((if 0<f then Z wL else Z I:V qR)) λH=>if H then Y (wY fu b.2.2.1 f) λc=>zf (f-1) λg=>Y (wY fu b.2.2.2.1 g) λn=>Y (wk fu c n) λ(K,M)=>nm ((b.1,(b.2.1,(b.2.2.1,(K,b.2.2.2.2))))) λh=>Z h else Z b
def KC(b:N M):((J×(N M)×M×M)->V ((N M)×M×M))->(J×(N M)×M×M)->V ((N M)×M×M):=λL (d,a,e,f)=>Y ((if d<(X b:J)then Z (((X b:J),wL))else Z (((X b:J),I)):V (J×qR))) λ(l,g)=>if g then zI d (X a) λh=>B ((a.getD h (I,[]))) λi=>Y (Wk fu f i) λj=>zf (d+1) λk=>L (k,a,e,j)else Z (a,e,f)
def wi(e:N M):V M:=Y (zM fu e) λd=>Y (zP fu (0:J)) λf=>Y (zg (KC fu d) fu<|((0:J),d,(I,[]),f)) λ(a,k,b)=>if 0<(X a:J)then zf (((X a:J))-1) λg=>zI g (X a) λh=>B (((a.getD h (I,[]))).1) λi=>if i then Y (kR fu b) λj=>Z j else Z b else Z b
def Jv(e:J)(a:M)(b:M):V M:=Y (wk fu a b) λ(d,f)=>Z d
def xA(a:N M):V (N M):=Y (wi fu a) λb=>Y (zM fu a) λd=>Y (zH fu d<|λc f=>Jv fu c f b) λe=>Z e
def lP:(((N M)×((N M)×(M×(M×qR))))->V ((N M)×((N M)×(M×(M×qR)))))->((N M)×((N M)×(M×(M×qR))))->V ((N M)×((N M)×(M×(M×qR)))):=λL a=>Y (xw fu a.2.1) λd=>if 0<d then Y (Yy fu a) λb=>L b else Z a
def Uz(H:xS Zr)(c:xS Zr):ww (Zr×J):=bd (zM fu H) λd=>bd (zM fu c) λe=>bd ((if 65<(lM d:J)then Z wL else if 65<(lM e:J)then Z wL else Z I:ww qR)) λn=>if n then Z (((I,[]),(6:J)))else if(lM d:J)=0 then bd (zP fu (0:J)) λK=>Z ((K,(0:J)))else if(lM e:J)=0 then bd (zP fu (0:J)) λM=>Z ((M,(0:J)))else bd (wi fu d) λN=>bd (xw fu e) λT=>bd (wY fu N T) λP=>bd (wi fu e) λQ=>bd (xw fu d) λR=>bd (wY fu Q R) λS=>bd (zF fu P S) λj=>bd (xA fu d) λA=>bd (xA fu e) λk=>bd (zP fu (1:J)) λB=>bd (zP fu (1:J)) λC=>bd ((bd ((if(lM d:J)<(lM e:J)then Z (d,e,wL)else Z (d,e,I):ww ((xS Zr)×(xS Zr)×qR))) λ(U,V,W)=>if W then nm ((k,(k,(B,(C,I))))) λE=>nm ((E.1,(A,E.2.2))) λb=>bd (xw fu U) λX=>ck ((2:J)≠0)<|nm (xcv X (2:J)) λY=>if Y=1 then bd (xw fu V) λx=>ck ((2:J)≠0)<|nm (xcv x (2:J)) λz=>if z=1 then nm ((b.1,(b.2.1,(b.2.2.1,(b.2.2.2.1,wL))))) λt9=>Z (((I,[]),j,t9))else nm ((b.1,(b.2.1,(b.2.2.1,(b.2.2.2.1,I))))) λl=>Z (((I,[]),j,l))else nm ((b.1,(b.2.1,(b.2.2.1,(b.2.2.2.1,I))))) λm=>Z (((I,[]),j,m))else Z (((I,[]),j,(A,(k,(B,(C,I)))))):ww (Zr×Zr×((xS Zr)×((xS Zr)×(Zr×(Zr×qR))))))) λ(f,g,o)=>bd (zg (lP fu) fu o) λa=>if(lM a.2.1:J)=0 then bd (zP fu (0:J)) λp=>Z ((p,(0:J)))else zI 0 (lM a.2.1) λD=>nm (a.2.1.getD D (I,[])) λq=>bd (xw fu a.1) λF=>bd (wY fu q F) λh=>bd ((bd (xw fu a.1) λG=>bd ((if(1:J)<G then Z wL else Z I:ww qR)) λb3=>if b3 then zf (G-1) λr=>bd (wY fu a.2.2.2.1 r) λs=>bd (wk fu h s) λ(t,a5)=>Z (f,g,a,t)else Z (f,g,a,h):ww (Zr×Zr×((xS Zr)×((xS Zr)×(Zr×(Zr×qR))))×Zr))) λ(L,u,v,w)=>bd (zF fu w u) λi=>if v.2.2.2.2=wL then bd (kR fu i) λy=>Z ((y,(0:J)))else Z ((i,(0:J)))
def aq(e:V ((N M)×(N<|M×(N K))))(b:N (M×(N K))):(((N K)×J×(N<|M×(N K))×(M×(N K)))->V ((N K)×(N<|M×(N K))×(M×(N K))))->((N K)×J×(N<|M×(N K))×(M×(N K)))->V ((N K)×(N<|M×(N K))×(M×(N K))):=λL (f,d,a,g)=>Y ((if d<(X b:J)then Z ((e,(X b:J),wL))else Z ((e,(X b:J),I)):V ((V<|(N M)×(N<|M×(N K)))×J×qR))) λ(m,o,h)=>if h then zI d (X a) λi=>B ((a.getD i<|((I,[]),[]))) λj=>Y (uh fu f j.2) λk=>zf (d+1) λl=>L (k,l,a,g)else Z (f,a,g)
def ab(i:V ((N M)×(N<|M×(N K))))(g:N (M×(N K))):(((N K)×J×(N<|M×(N K))×(M×(N K))×(N M))->V ((N K)×(N<|M×(N K))×(M×(N K))×(N M)))->((N K)×J×(N<|M×(N K))×(M×(N K))×(N M))->V ((N K)×(N<|M×(N K))×(M×(N K))×(N M)):=λL (b,f,a,e,d)=>Y ((if f<(X g:J)then Z ((i,(X g:J),wL))else Z ((i,(X g:J),I)):V ((V<|(N M)×(N<|M×(N K)))×J×qR))) λ(k,s,l)=>if l then zI f (X a) λm=>B ((a.getD m<|((I,[]),[]))) λj=>Y (zF fu j.1 (I,b)) λo=>Y (wk fu o (I,j.2)) λ(p,t)=>zI f (X d) λq=>B (d.set q p) λh=>zf (f+1) λr=>L (b,r,a,e,h)else Z (b,a,e,d)
def VE(a:V ((N M)×(N<|M×(N K))))(r:N (M×(N K))):V ((M×(N K))×J):=Y (xz fu a) λs=>if s then Z ((((I,[]),[]),(1:J)))else Y (a) λt=>Y (yT fu t r) λm=>Y (zg (aq fu a m) fu<|([(1:K)],(0:J),m,((I,[]),[]))) λ(u,b,v)=>jX ((X b:J)) λo=>ck (32*o<=281474976710656)<|nm (xaa o (I,[])) λd=>Y (zg (ab fu a b) fu<|(u,(0:J),b,v,d)) λ(e,f,w,g)=>Y (a) λy=>Y (Uz fu y.1 g) λ(A,H)=>Y (a) λB=>zf (((X B.1:J))-1) λp=>Y (a) λq=>zI p (X q.1) λC=>nm (q.1.getD C (I,[])) λh=>zf (((X f:J))-1) λE=>nm (max E (0:J)) λG=>Y (Ud fu h G) λi=>Y (Ud fu (I,e) p) λj=>Y (zF fu i j) λk=>Y (Yu fu A k) λ(l,c)=>Z<|(l,(0:J))
def ed(fu:K)(b:N K)(d:N K):(J->V (Z9⊕Z9))->J->V (Z9⊕Z9):=λL a=>if a<(X b:J)then zI a (X b) λe=>B (b.getD e 0) λf=>zI a (X d) λg=>B (d.getD g 0) λh=>if(f:J)=(h:J)then zf (a+1) λi=>L i else Z (.inr ())else Z (.inl ())
def YY(a:N K)(b:N K):V qR:=if(X a:J)=(X b:J)then Y (zg (ed fu a b) fu (0:J)) λd=>match d with
 |.inl _=>Z wL
 |.inr _=>Z I else Z I
def Q8(a:M)(b:M):V qR:=B (a.1==b.1) λd=>if d then Y (YY fu a.2 b.2) λe=>Z e else Z I
def QG(a:M×(N K))(b:M×(N K)):V qR:=Y (Q8 fu a.1 b.1) λd=>if d then Y (YY fu a.2 b.2) λe=>Z e else Z I
def eH(b:N (M×(N K)))(d:N (M×(N K))):(J->V (Z9⊕Z9))->J->V (Z9⊕Z9):=λL a=>if a<(X b:J)then zI a (X b) λe=>B (b.getD e<|((I,[]),[])) λf=>zI a (X d) λg=>B (d.getD g<|((I,[]),[])) λh=>Y (QG fu f h) λi=>if !i then Z (.inr ())else zf (a+1) λj=>L j else Z (.inl ())
def QD(a:N (M×(N K)))(b:N (M×(N K))):V qR:=if(X a:J)=(X b:J)then Y (zg (eH fu a b) fu (0:J)) λd=>match d with
 |.inl _=>Z wL
 |.inr _=>Z I else Z I
def xO(a:N (M×(N K)))(b:N (M×(N K))):V qR:=Y (QD fu a b) λd=>Z d
def Jw(b:N M):((J×(N M)×J)->V J)->(J×(N M)×J)->V J:=λL (a,d,e)=>if e=0 then zf (a+1) λf=>Y (xV fu d b) λ(g,h)=>L (f,g,h)else Z a
def YZ(b:N M)(a:N M):V J:=Y (xV fu b a) λ(d,e)=>Y (zg (Jw fu a) fu<|((0:J),d,e)) λf=>Z f
def ZA(fu:K)(d:J):((qR×J)->V qR)->(qR×J)->V qR:=λL (b,a)=>if b then zf (a*a) λe=>if e<=d then ck (a≠0)<|B (xcv d a) λf=>if f=0 then Z I else zf (a+1) λg=>L (b,g)else Z b else Z b
def uX(a:J):V qR:=Y ((if 2<=a then if a<=65521 then Z wL else Z I else Z I:V qR)) λb=>Y (zg (ZA fu a) fu<|(b,(2:J))) λd=>Z d
def uU(b:N K):V J:=Y (wE fu b) λa=>if(X a:J)=0 then Z (0:J)else zf (((X a:J))-1) λd=>zf ((64:J)*d) λe=>zf (((X a:J))-1) λf=>zI f (X a) λg=>B (a.getD g 0) λh=>Y (xX fu h) λi=>zf (e+i) λj=>Z j
def aD:((J×M×M)->V M)->(J×M×M)->V M:=λL (a,b,d)=>if 0<a then B (Sl a (1:J)) λf=>if f=1 then Y (zF fu d b) λe=>if 1<a then Y (zF fu b b) λg=>B (xge a<|2^(min (((1:K)):J).toNat 64)) λh=>L (h,g,e)else B (xge a<|2^(min (((1:K)):J).toNat 64)) λi=>L (i,b,e)else if 1<a then Y (zF fu b b) λj=>B (xge a<|2^(min (((1:K)):J).toNat 64)) λk=>L (k,j,d)else B (xge a<|2^(min (((1:K)):J).toNat 64)) λl=>L (l,b,d)else Z d
def aa(b:M)(a:J):V (M×J):=Y ((if a<0 then Z wL else if 65536<a then Z wL else Z I:V qR)) λd=>if d then Z (((I,[]),(1:J)))else Y (uU fu b.2) λe=>zf (e*a) λf=>if 262144<f then Z (((I,[]),(6:J)))else Y (zP fu (1:J)) λg=>Y (qd fu b) λh=>Y (zg (aD fu) fu (a,h,g)) λi=>Z<|(i,(0:J))
def qt(b:J)(a:J):V (M×J):=Y (uX fu b) λd=>if !d then Z (((I,[]),(1:J)))else if a<1 then Z (((I,[]),(1:J)))else if 1000<a then Z (((I,[]),(1:J)))else Y (zP fu b) λe=>Y (aa fu e a) λ(f,g)=>Z (f,g)
def UF(fu:K)(a:N M)(e:M)(g:M->M->V (M×J)):((J×(N M))->V (N M))->(J×(N M))->V (N M):=λL (b,d)=>Y ((if b<(X a:J)then Z ((e,a,(X a:J),wL))else Z ((e,a,(X a:J),I)):V (M×(N M)×J×qR))) λ(h,f,q,i)=>if i then zI b (X f) λj=>B (f.getD j (I,[])) λk=>Y (g k h) λ(l,r)=>zI b (X d) λm=>B (d.set m l) λo=>zf (b+1) λp=>L (p,o)else Z d
def qA(a:N M)(b:M)(e:M->M->V (M×J)):V ((N M)×J):=Y (xy fu b) λf=>if f<=0 then Z (([],(1:J)))else jX ((X a:J)) λd=>ck (32*d<=281474976710656)<|B (xaa d (I,[])) λg=>Y (zg (UF fu a b e) fu<|((0:J),g)) λh=>Y (zM fu h) λi=>Z<|(i,(0:J))
def qT(b:M)(a:M):V (M×J):=Y (xy fu a) λd=>if d<=0 then Z (((I,[]),(1:J)))else Y (Wb fu b a) λ(f,e,g)=>Z<|(e,(0:J))
def Xq(a:N M)(b:M):V ((N M)×J):=Y (qA fu a b<|λc f=>qT fu c f) λ(d,e)=>Z (d,e)
def xp(a:N M)(b:M):V (N M):=Y (Xq fu a b) λ(d,e)=>Z d
def vk(a:J):V J:=Y (uX fu a) λb=>if !b then Z (1:J)else Z (0:J)
def uY(fu:K)(d:J)(a:J):V J:=if a<1 then Z (0:J)else ck (a≠0)<|B (xcv d a) λb=>if b<0 then zf (b+a) λe=>Z e else Z b
def mj(fu:K):((J×J×J×J)->V (J⊕Z9))->(J×J×J×J)->V (J⊕Z9):=λL (d,a,f,b)=>if a=0 then Z (.inr ())else if a=1 then Z (.inl b)else ck (a≠0)<|zf (xdE d a) λe=>zf (e*a) λg=>zf (d-g) λh=>zf (e*b) λi=>zf (f-i) λj=>L (a,h,b,j)
def VG(d:J)(a:J):V (J×J):=Y (vk fu a) λb=>if b=0 then Y (uY fu d a) λe=>Y (zg (mj fu) fu<|(a,e,(0:J),(1:J))) λf=>match f with
 |.inl g=>Y (uY fu g a) λh=>Z<|(h,(0:J))
 |.inr _=>Z (((0:J),(3:J)))else Z (((0:J),b))
def b5(b:N J)(e:J):((J×(N J))->V (N J))->(J×(N J))->V (N J):=λL (a,d)=>if a<(X b:J)then zI a (X b) λf=>B (b.getD f 0) λg=>Y (uY fu g e) λh=>zI a (X d) λi=>B (d.set i h) λj=>zf (a+1) λk=>L (k,j)else Z d
def bW(fu:K):((N J)->V (N J))->(N J)->V (N J):=λL a=>if 0<(X a:J)then zf (((X a:J))-1) λd=>zI d (X a) λe=>B ((a.getD e 0)) λf=>if f=0 then zf (((X a:J))-1) λg=>jX g λb=>ck (b<=X a)<|B (a.take b) λh=>L h else Z a else Z a
def ya(a:N J)(d:J):V (N J):=jX ((X a:J)) λb=>ck (8*b<=281474976710656)<|B (xaa b 0) λe=>Y (zg (b5 fu a d) fu<|((0:J),e)) λf=>Y (zg (bW fu) fu f) λg=>Z g
def Y0(fu:K)(a:N J)(q:J)(b:J):(((N J)×J×J×J×(N J)×(N J))->V ((N J)×J×J×(N J)×(N J)))->((N J)×J×J×J×(N J)×(N J))->V ((N J)×J×J×(N J)×(N J)):=λL (r,d,s,e,f,t)=>Y ((if e<(X a:J)then Z ((q,b,a,(X a:J),wL))else Z ((q,b,a,(X a:J),I)):V (J×J×(N J)×J×qR))) λ(u,w,v,G,y)=>if y then zI e (X v) λA=>nm (v.getD A 0) λB=>zf (u+e) λg=>zf (u+e) λh=>zI h (X f) λC=>nm ((f.getD C 0)) λi=>zf (d-w) λj=>zf (j*B) λk=>zf (i+k) λl=>ck (d≠0)<|nm (xcv l d) λm=>zI g (X f) λE=>nm (f.set E m) λo=>zf (e+1) λp=>L (r,d,s,p,o,t)else Z (r,d,s,f,t)
def Xy(e:N J)(f:J)(k:J):((J×(N J)×(N J))->V ((N J)×(N J)))->(J×(N J)×(N J))->V ((N J)×(N J)):=λL (a,d,g)=>if 0<=a then zf (a+((X e:J))) λl=>zf (l-1) λm=>zI m (X d) λo=>B ((d.getD o 0)) λp=>zf (p*k) λq=>ck (f≠0)<|B (xcv q f) λb=>zI a (X g) λr=>B (g.set r b) λs=>Y (zg (Y0 fu e a b) fu<|(e,f,k,(0:J),d,s)) λ(t,u,v,h,i)=>zf (a-1) λj=>L (j,h,i)else Z (d,g)
def xL(j:N J)(a:N J)(b:J):V ((N J)×(N J)):=ck ((X (([]:N J))+X j)*8<=140737488355328)<|B ((([]:N J))++j) λd=>zf (((X d:J))-((X a:J))) λe=>if e<0 then Z ([],d)else zf (((X a:J))-1) λl=>zI l (X a) λm=>B (a.getD m 0) λo=>Y (VG fu o b) λ(p,s)=>zf (e+1) λq=>jX q λk=>ck (8*k<=281474976710656)<|B (xaa k 0) λr=>Y (zg (Xy fu a b p) fu (e,d,r)) λ(f,g)=>Y (ya fu g b) λh=>Y (ya fu f b) λi=>Z (h,i)
def Ki(fu:K)(e:J)(a:N J)(f:J)(g:N J)(h:J)(i:J):((J×(N J))->V (N J))->(J×(N J))->V (N J):=λL (b,d)=>Y ((if b<(X a:J)then Z ((a,f,e,i,g,h,e,a,(X a:J),wL))else Z ((a,f,e,i,g,h,e,a,(X a:J),I)):V ((N J)×J×J×J×(N J)×J×J×(N J)×J×qR))) λ(G,j,k,m,H,c,n,l,o,p)=>if p then zI b (X l) λq=>nm (l.getD q 0) λr=>zf (k+b) λs=>zf (k+b) λt=>zI t (X d) λu=>nm ((d.getD u 0)) λv=>zf (m*r) λw=>zf (v+w) λy=>ck (j≠0)<|nm (xcv y j) λA=>zI s (X d) λB=>nm (d.set B A) λC=>zf (b+1) λE=>L (E,C)else Z d
def J7(a:N J)(f:N J)(g:J):((J×(N J))->V (N J))->(J×(N J))->V (N J):=λL (b,h)=>Y ((if b<(X a:J)then Z ((f,g,a,(X a:J),wL))else Z ((f,g,a,(X a:J),I)):V ((N J)×J×(N J)×J×qR))) λ(i,j,d,k,l)=>if l then zI b (X d) λm=>B (d.getD m 0) λo=>Y (zg (Ki fu b i j d k o) fu<|((0:J),h)) λe=>zf (b+1) λp=>L (p,e)else Z h
def w7(d:N J)(e:N J)(f:J):V (N J):=zf (((X d:J))+((X e:J))) λh=>jX h λg=>ck (8*g<=281474976710656)<|B (xaa g 0) λi=>Y (zg (J7 fu d e f) fu<|((0:J),i)) λa=>Y (ya fu a f) λb=>Z b
def iG(fu:K)(a:N J)(e:J)(f:J):((J×(N J))->V (N J))->(J×(N J))->V (N J):=λL (b,d)=>Y ((if b<(X a:J)then Z ((e,f,a,(X a:J),wL))else Z ((e,f,a,(X a:J),I)):V (J×J×(N J)×J×qR))) λ(h,t,g,u,i)=>if i then zI b (X g) λj=>B (g.getD j 0) λk=>zI b (X d) λl=>B ((d.getD l 0)) λm=>zf (h*k) λo=>zf (m+o) λp=>zI b (X d) λq=>B (d.set q p) λr=>zf (b+1) λs=>L (s,r)else Z d
def YJ(a:N J)(b:N J)(f:J)(d:J):V (N J):=B (max ((X a:J))<|(X b:J)) λg=>jX g λe=>ck (8*e<=281474976710656)<|B (xaa e 0) λh=>B (Pk h a) λi=>Y (zg (iG fu b f d) fu<|((0:J),i)) λj=>Y (ya fu j d) λk=>Z k
def Zl(e:N (N J))(f:J):(((N J)×J×(N<|N J)×(N<|N J))->V ((N<|N J)×(N<|N J)))->((N J)×J×(N<|N J)×(N<|N J))->V ((N<|N J)×(N<|N J)):=λL (g,a,b,h)=>Y ((if a<3 then Z (f,e,wL)else Z (f,e,I):V (J×(N<|N J)×qR))) λ(d,i,j)=>if j then zI a (3) λk=>zI a (3) λl=>B (i.getD l []) λm=>Y (w7 fu g m d) λo=>zf (d-1) λp=>Y (YJ fu (b.getD k []) o p d) λq=>zI a (3) λr=>B (b.set r q) λs=>zf (a+1) λt=>L (g,t,s,h)else Z (b,h)
def Xv(b:N (N J))(d:N (N J))(e:J):V (N<|N J):=zI 0 (3) λf=>zI 0 (3) λg=>B (d.getD g []) λh=>Y (xL fu (b.getD f []) h e) λ(i,k)=>Y (zg (Zl fu d e) fu<|(i,(0:J),b,(xaa 3 []))) λ(a,j)=>Z a
def qx(b:N J)(d:J)(a:J):V (N J):=Y (VG fu d a) λ(e,g)=>Y (w7 fu b [e] a) λf=>Z f
def Zw(d:J):(((N<|N J)×(N<|N J))->V (N<|N J))->((N<|N J)×(N<|N J))->V (N<|N J):=λL (b,a)=>zI 0 (3) λe=>if 0<((X ((a.getD e [])):K):J)then Y (Xv fu b a d) λf=>L (a,f)else Z b
def vn(d:J)(e:J):((J×(N<|N J))->V (N<|N J))->(J×(N<|N J))->V (N<|N J):=λL (a,b)=>if a<3 then zI a (3) λf=>Y (qx fu (b.getD f []) e d) λg=>zI a (3) λh=>B (b.set h g) λi=>zf (a+1) λj=>L (j,i)else Z b
def Zm(k:N J)(l:N J)(d:J):V ((N J)×(N J)×(N J)×J):=Y (vk fu d) λh=>if h=0 then Y (ya fu k d) λm=>Y (ya fu l d) λo=>Y (zg (Zw fu d) fu<|([m,[(1:J)],[]],[o,[],[(1:J)]])) λa=>zI 0 (3) λi=>Y ((if 0<((X ((a.getD i [])):K):J)then Z wL else Z I:V qR)) λp=>if p then zI 0 (3) λj=>zf ((((X ((a.getD i [])):K):J))-1) λq=>zI q (X ((a.getD j []))) λr=>B (((a.getD j [])).getD r 0) λs=>Y (zg (vn fu d s) fu<|((0:J),a)) λb=>zI 0 (3) λt=>zI 1 (3) λu=>zI 2 (3) λv=>Z (((b.getD t []),(b.getD u []),(b.getD v []),(0:J)))else zI 0 (3) λe=>zI 1 (3) λf=>zI 2 (3) λg=>Z (((a.getD e []),(a.getD f []),(a.getD g []),(0:J)))else Z ([],[],[],h)
def j8(a:N J)(b:N J)(d:J):V ((N J)×J):=Y (Zm fu a b d) λ(e,g,h,f)=>Z (e,f)
def kh(d:N J)(e:N J)(a:J):V ((N J)×J):=Y (vk fu a) λb=>if b=0 then Y (ya fu d a) λf=>Y (ya fu e a) λg=>Y (w7 fu f g a) λh=>Z ((h,(0:J)))else Z ([],b)
def W9(d:N J)(e:N J)(a:J):V ((N J)×J):=Y (vk fu a) λb=>if b=0 then Y (ya fu d a) λf=>Y (ya fu e a) λg=>zf (a-1) λh=>Y (YJ fu f g h a) λi=>Z ((i,(0:J)))else Z ([],b)
def Xa(a:N J)(b:N J)(d:J):V qR:=Y (W9 fu a b d) λ(e,f)=>if(X e:J)=0 then Z wL else Z I
def Wq(fu:K)(a:N J)(e:J):(J->V (Z9⊕Z9))->J->V (Z9⊕Z9):=λL b=>if b<(X a:J)then zI b (X a) λf=>B (a.getD f 0) λd=>if d<0 then Z (.inr ())else if e<=d then Z (.inr ())else zf (b+1) λg=>L g else Z (.inl ())
def Xb(a:N J)(b:J):V qR:=Y (zg (Wq fu a b) fu (0:J)) λd=>match d with
 |.inl _=>if 1<(X a:J)then zf (((X a:J))-1) λe=>zI e (X a) λf=>B (a.getD f 0) λg=>if g=1 then Z wL else Z I else Z I
 |.inr _=>Z I
def JK(a:N (N J))(e:J):(((N J)×J)->V (N J))->((N J)×J)->V (N J):=λL (d,b)=>if b<(X a:J)then zI b (X a) λf=>B (a.getD f []) λg=>Y (kh fu d g e) λ(h,j)=>zf (b+1) λi=>L (h,i)else Z d
def qo(a:N (N J))(b:J):V (N J):=Y (zg (JK fu a b) fu<|([(1:J)],(0:J))) λd=>Z d
def QT(b:M):V (J×qR):=Y (qd fu b) λa=>Y ((if(X a.2:J)=0 then Z wL else Z I:V qR)) λd=>if d then Z (((0:J),wL))else Y ((if 1<(X a.2:J)then Z wL else Z I:V qR)) λe=>if e then Z (((0:J),I))else Y ((if a.1=wL then zI 0 (X a.2) λf=>B (a.2.getD f 0) λg=>if(g:J)<=(((9223372036854775808:K):K):J)then Z wL else Z I else Z I:V qR)) λh=>if h then zI 0 (X a.2) λi=>B (a.2.getD i 0) λj=>B ((18446744073709551616-j)%18446744073709551616) λk=>B (sgn k) λl=>Z (l,wL)else if a.1=wL then Z (((0:J),I))else zI 0 (X a.2) λm=>B (a.2.getD m 0) λo=>if(((9223372036854775807:K):K):J)<(o:J)then Z (((0:J),I))else zI 0 (X a.2) λp=>B (a.2.getD p 0) λq=>B (sgn q) λr=>Z (r,wL)
def KI(b:M)(d:J):V (J×J):=Y (zP fu d) λe=>Y (qT fu b e) λ(f,a)=>if a=0 then Y (QT fu f) λ(g,h)=>Z ((g,(0:J)))else Z (((0:J),a))
def WX(e:J)(a:M)(b:J):V J:=Y (KI fu a b) λ(d,f)=>Z d
def uJ(fu:K)(a:N M)(f:J->M->V J):((J×(N J))->V (N J))->(J×(N J))->V (N J):=λL (b,d)=>Y ((if b<(X a:J)then Z ((a,(X a:J),wL))else Z ((a,(X a:J),I)):V ((N M)×J×qR))) λ(e,o,g)=>if g then zI b (X e) λh=>B (e.getD h (I,[])) λi=>Y (f b i) λj=>zI b (X d) λk=>B (d.set k j) λl=>zf (b+1) λm=>L (m,l)else Z d
def jq(a:N M)(d:J->M->V J):V (N J):=jX ((X a:J)) λb=>ck (8*b<=281474976710656)<|B (xaa b 0) λe=>Y (zg (uJ fu a d) fu<|((0:J),e)) λf=>Z f
def iH(fu:K):((N J)->V (N J))->(N J)->V (N J):=λL a=>if 0<(X a:J)then zf (((X a:J))-1) λd=>zI d (X a) λe=>B ((a.getD e 0)) λf=>if f=0 then zf (((X a:J))-1) λg=>jX g λb=>ck (b<=X a)<|B (a.take b) λh=>L h else Z a else Z a
def u7(b:N M)(a:J):V ((N J)×J):=if a<1 then Z (([],(1:J)))else Y (jq fu b<|λc f=>WX fu c f a) λd=>Y (zg (iH fu) fu d) λe=>Z<|(e,(0:J))
def jR(d:J)(e:N J)(a:N (N J)):(J->V (Z9⊕Z9))->J->V (Z9⊕Z9):=λL b=>if b<(X a:J)then zI b (X a) λf=>B (a.getD f []) λg=>Y (j8 fu e g d) λ(h,j)=>if(X h:J)=1 then zf (b+1) λi=>L i else Z (.inr ())else Z (.inl ())
def jJ(e:N M)(a:N (N J))(f:J):((J×(N J))->V ((N J)⊕Z9))->(J×(N J))->V ((N J)⊕Z9):=λL (b,g)=>Y ((if b<(X a:J)then Z ((e,a,f,a,(X a:J),wL))else Z ((e,a,f,a,(X a:J),I)):V ((N M)×(N<|N J)×J×(N<|N J)×J×qR))) λ(l,h,i,j,t,m)=>if m then zI b (X j) λo=>B (j.getD o []) λd=>if(X l:J)<(X d:J)then Z (.inr ())else Y (Xb fu d i) λp=>if !p then Z (.inr ())else jX b λk=>ck (k<=X h)<|B (h.take k) λq=>Y (zg (jR fu i d q) fu (0:J)) λr=>match r with
 |.inl _=>zf (b+1) λs=>L (s,g)
 |.inr _=>Z (.inr ())else Z (.inl g)
def vE(a:N M)(e:N (N J))(b:J):V qR:=Y (u7 fu a b) λ(h,o)=>if(X a:J)=0 then Z I else if(X h:J)=(X a:J)then if(X a:J)<(X e:J)then Z I else Y (zg (jJ fu a e b) fu<|((0:J),h)) λj=>match j with
 |.inl d=>Y (qo fu e b) λk=>zf (((X d:J))-1) λl=>jX l λi=>ck (i<=X d)<|B (d.drop i) λf=>Y (kh fu k f b) λ(g,p)=>Y (Xa fu g d b) λm=>Z m
 |.inr _=>Z I else Z I
def Yj(a:N M)(j:J):(((N M)×M×J×(N M)×(N M))->V ((N M)×M×(N M)×(N M)))->((N M)×M×J×(N M)×(N M))->V ((N M)×M×(N M)×(N M)):=λL (k,l,b,d,f)=>Y ((if b<(X a:J)then Z ((j,a,(X a:J),wL))else Z ((j,a,(X a:J),I)):V (J×(N M)×J×qR))) λ(g,e,B,m)=>if m then zI b (X e) λo=>nm (e.getD o (I,[])) λp=>zf (g+b) λq=>zf (g+b) λr=>zI r (X d) λs=>nm ((d.getD s (I,[]))) λt=>zI g (X f) λu=>nm ((f.getD u (I,[]))) λv=>Y (zF fu v p) λw=>Y (qC fu t w) λy=>zI q (X d) λA=>nm (d.set A y) λh=>zf (b+1) λi=>L (k,l,i,h,f)else Z (k,l,d,f)
def Yk(d:N M)(i:M):((J×(N M)×(N M))->V ((N M)×(N M)))->(J×(N M)×(N M))->V ((N M)×(N M)):=λL (a,b,e)=>if 0<=a then zf (a+((X d:J))) λj=>zf (j-1) λk=>zI k (X b) λl=>B ((b.getD l (I,[]))) λm=>Y (qT fu m i) λ(o,t)=>zI a (X e) λp=>B (e.set p o) λq=>Y (zg (Yj fu d a) fu<|(d,i,(0:J),b,q)) λ(r,s,f,g)=>zf (a-1) λh=>L (h,f,g)else Z (b,e)
def jK(k:N M)(g:N M)(a:M):V ((N M)×(N M)):=Y (xp fu k a) λh=>zf (((X h:J))-((X g:J))) λl=>zf (l+1) λm=>B (max m (0:J)) λo=>jX o λi=>ck (32*i<=281474976710656)<|B (xaa i (I,[])) λj=>zf (((X j:J))-1) λp=>Y (zg (Yk fu g a) fu (p,h,j)) λ(b,d)=>Y (xp fu d a) λe=>Y (xp fu b a) λf=>Z (e,f)
def iJ(e:J)(a:N M)(g:N M)(h:J):((J×(N M)×M)->V (N M))->(J×(N M)×M)->V (N M):=λL (b,d,i)=>Y ((if b<(X a:J)then Z ((a,e,g,h,e,a,(X a:J),wL))else Z ((a,e,g,h,e,a,(X a:J),I)):V ((N M)×J×(N M)×J×J×(N M)×J×qR))) λ(y,j,A,B,C,k,E,l)=>if l then zI b (X k) λm=>nm (k.getD m (I,[])) λo=>zf (j+b) λp=>zf (j+b) λq=>zI q (X d) λr=>nm ((d.getD r (I,[]))) λs=>Y (zF fu i o) λt=>Y (vN fu s t) λu=>zI p (X d) λv=>nm (d.set v u) λf=>zf (b+1) λw=>L (w,f,i)else Z d
def iB(a:N M)(f:N M):((J×(N M))->V (N M))->(J×(N M))->V (N M):=λL (b,g)=>Y ((if b<(X a:J)then Z ((f,a,(X a:J),wL))else Z ((f,a,(X a:J),I)):V ((N M)×(N M)×J×qR))) λ(h,d,i,j)=>if j then zI b (X d) λk=>B (d.getD k (I,[])) λl=>Y (zg (iJ fu b h d i) fu<|((0:J),g,l)) λe=>zf (b+1) λm=>L (m,e)else Z g
def wx(d:N M)(e:N M):V (N M):=zf (((X d:J))+((X e:J))) λg=>jX g λf=>ck (32*f<=281474976710656)<|B (xaa f (I,[])) λh=>Y (zg (iB fu d e) fu<|((0:J),h)) λa=>Y (zM fu a) λb=>Z b
def Y5(d:J)(a:J):V M:=Y (zP fu a) λb=>Z b
def uM(fu:K)(b:N J)(e:J->J->V M):((J×(N M))->V (N M))->(J×(N M))->V (N M):=λL (a,d)=>if a<(X b:J)then zI a (X b) λf=>B (b.getD f 0) λg=>Y (e a g) λh=>zI a (X d) λi=>B (d.set i h) λj=>zf (a+1) λk=>L (k,j)else Z d
def jl(a:N J)(d:J->J->V M):V (N M):=jX ((X a:J)) λb=>ck (32*b<=281474976710656)<|B (xaa b (I,[])) λe=>Y (zg (uM fu a d) fu<|((0:J),e)) λf=>Z f
def jb(a:N J):V (N M):=Y (jl fu a<|λc e=>Y5 fu c e) λb=>Y (zM fu b) λd=>Z d
def JM(a:N J):V (N M):=Y (jb fu a) λb=>Z b
def jN(f:xS (xS Zr))(H:xS Zr)(a:Zr):ww (xS<|xS Zr):=zI 0 (4) λn=>nm (f.getD n []) λi=>zI 1 (4) λc=>nm (f.getD c []) λj=>zI 2 (4) λK=>nm (f.getD K []) λg=>zI 3 (4) λM=>nm (f.getD M []) λh=>Y (wx fu i j) λN=>Y (kj fu H N) λx=>Y (xp fu x a) λG=>Y (wx fu g G) λP=>Y (jK fu P j a) λ(Q,R)=>Y (wx fu h G) λS=>Y (wx fu Q i) λU=>Y (qj fu S U) λV=>Y (qj fu i V) λk=>Y (xp fu k a) λb=>Y (qj fu j R) λl=>Y (xp fu l a) λd=>Y (wx fu g b) λm=>Y (wx fu h d) λo=>Y (qj fu m o) λp=>Y (JM fu [(1:J)]) λq=>Y (kj fu p q) λr=>Y (xp fu r a) λe=>Y (wx fu g e) λs=>Y (jK fu s d a) λ(t,u)=>Y (kj fu g u) λv=>Y (xp fu v a) λw=>Y (wx fu h e) λy=>Y (wx fu t b) λA=>Y (qj fu y A) λB=>Y (kj fu h B) λC=>Y (xp fu C a) λE=>Z [b,d,w,E]
def ZC(a:M×(M×M))(b:M)(d:M×(M×M)):V (M×(M×M)):=Y (zF fu b d.1) λe=>Y (qC fu a.1 e) λf=>Y (zF fu b d.2.1) λg=>Y (qC fu a.2.1 g) λh=>Y (zF fu b d.2.2) λi=>Y (qC fu a.2.2 i) λj=>Z (f,h,j)
def VU:(((M×(M×M))×(M×(M×M)))->V (M×(M×M)))->((M×(M×M))×(M×(M×M)))->V (M×(M×M)):=λL (b,a)=>Y (xy fu a.1) λd=>if d=0 then Z b else Y (Wb fu b.1 a.1) λ(e,g,h)=>Y (ZC fu b e a) λf=>L (a,f)
def Wz(g:M)(h:M):V (M×M×M):=Y (xk fu I g.2) λi=>Y (zP fu (1:J)) λj=>Y (zP fu (0:J)) λk=>Y (xk fu I h.2) λl=>Y (zP fu (0:J)) λm=>Y (zP fu (1:J)) λo=>Y (zg (VU fu) fu<|((i,j,k),(l,m,o))) λa=>Y ((Y (xy fu g) λp=>if p<0 then Y (kR fu a.2.1) λd=>B ((a.1,(d,a.2.2))) λq=>Z q else Z a:V (M×(M×M)))) λb=>Y ((Y (xy fu h) λr=>if r<0 then Y (kR fu b.2.2) λe=>B ((b.1,(b.2.1,e))) λs=>Z s else Z b:V (M×(M×M)))) λf=>Z (f.1,f.2.1,f.2.2)
def QV(a:N M)(b:M):V (N M):=zf (((X a:J))-1) λd=>zI d (X a) λe=>B (a.getD e (I,[])) λf=>Y (Wz fu f b) λ(j,g,k)=>Y (vZ fu a g) λh=>Y (xp fu h b) λi=>Z i
def Z8(g:N M)(h:J)(d:J):((J×(N<|N M))->V (N<|N M))->(J×(N<|N M))->V (N<|N M):=λL (e,a)=>if e<d then zf ((2:J)*e) λi=>B (min i d) λf=>Y (qt fu h f) λ(j,k)=>Y (jN fu a g j) λb=>L (f,b)else Z a
def qb:wr->(xS Zr)->(xS<|xS J)->J->J->Zr->V (xS<|xS Zr)
 |0,_,_,_,_,_=>wF
 |fu+1,d,a,b,i,j=>if(X a:J)=1 then Y (QV fu d j) λE=>Z [E]else ck ((2:J)≠0)<|zf (xdE ((X a:J)) (2:J)) λh=>zf (((X d:J))-1) λG=>jX G λu=>ck (u<=X d)<|nm (d.drop u) λH=>Y (u7 fu H b) λ(n,P)=>jX h λv=>ck (v<=X a)<|nm (a.take v) λc=>Y (qo fu c b) λK=>Y (kh fu K n b) λ(w,Q)=>jX h λy=>ck (y<=X a)<|nm (a.drop y) λM=>Y (qo fu M b) λA=>Y (Zm fu w A b) λ(R,k,l,S)=>Y (jb fu w) λm=>Y (jb fu A) λo=>Y (jb fu k) λp=>Y (jb fu l) λq=>Y (zg (Z8 fu d b i) fu<|((1:J),[m,o,p,q])) λe=>zI 0 (4) λN=>jX h λB=>ck (B<=X a)<|nm (a.take B) λr=>Y (qb fu (e.getD N []) r b i j) λf=>zI 1 (4) λx=>jX h λC=>ck (C<=X a)<|nm (a.drop C) λs=>Y (qb fu (e.getD x []) s b i j) λg=>ck ((X f+X g)*24<=140737488355328)<|nm (f++g) λt=>Z t
def jj(h:N M)(a:N (N J))(b:J)(e:J):V ((N<|N M)×J):=Y (qt fu b e) λ(f,g)=>Y (zM fu h) λd=>if g=0 then if 65<(X d:J)then Z (([],(6:J)))else Y (vE fu d a b) λi=>if !i then Z (([],(1:J)))else if(X a:J)=0 then Z (([],(0:J)))else Y (xp fu d f) λj=>Y (qb fu j a b e f) λk=>Z ((k,(0:J)))else Z ([],g)
def QQ(a:N M)(b:N M)(d:M):V ((N M)×J):=Y (wx fu a b) λe=>Y (Xq fu e d) λ(f,g)=>Z (f,g)
def kq(a:M)(b:M):V J:=Y (qC fu a b) λd=>Y (xy fu d) λe=>Z e
def Y7(e:M)(d:M):V (M×J):=Y (qT fu e d) λ(a,b)=>if b=0 then Y (vN fu a a) λf=>Y (kq fu f d) λg=>if 0<g then Y (qC fu a d) λh=>Z (h,b)else Z (a,b)else Z (a,b)
def WU(a:N M)(b:M):V ((N M)×J):=Y (qA fu a b<|λc f=>Y7 fu c f) λ(d,e)=>Z (d,e)
def uo(e:N (N M))(b:N J)(f:M):(((N M)×J×(N J))->V ((N M)×(N J)))->((N M)×J×(N J))->V ((N M)×(N J)):=λL (g,d,a)=>Y ((if d<(X b:J)then Z ((e,f,(X b:J),wL))else Z ((e,f,(X b:J),I)):V ((N<|N M)×M×J×qR))) λ(h,i,r,j)=>if j then zI d (X a) λk=>B ((a.getD k 0)) λl=>zI l (X h) λm=>B (h.getD m []) λo=>Y (QQ fu g o i) λ(p,s)=>zf (d+1) λq=>L (p,q,a)else Z (g,a)
def jA(a:N M)(g:N (N M))(d:N J)(e:M):V ((N M)×(N J)):=zf (((X a:J))-1) λh=>jX h λf=>ck (f<=X a)<|B (a.drop f) λi=>Y (zg (uo fu g d e) fu<|(i,(0:J),d)) λ(j,k)=>Y (WU fu j e) λ(l,m)=>Y (xA fu l) λb=>Z (b,k)
def qm{X Y R:Type}(fu:K)(n c:J)(g:N J->X->V (N J×(X⊕Y)))(x:X)(xs:N J)(L:X->N J->J->J->J->J->J->V R)(E:X->J->J->N J->V R)(f:Y->N J->V R):V R:=bd (g xs x) λr=>xfH (λd=>zf (n-1) λa=>bd (zg (λL i=>if 0<=i then zI i (lM r.1) λj=>B (r.1.getD j 0) λy=>zf (c-n) λe=>zf (e+i) λe=>if y=e then zf (i-1) λi=>L i else Z i else Z i) fu a) λi=>if i<0 then E d a i r.1 else zI i (lM r.1) λj=>B (r.1.getD j 0) λy=>zf (y+1) λe=>zI i (lM r.1) λj=>B (r.1.set j e) λxs=>zf (i+1) λb=>bd (zg (λL (z:J×N J)=>if z.1<n then zf (z.1-1) λe=>zI e (lM z.2) λj=>B (z.2.getD j 0) λy=>zf (y+1) λe=>zI z.1 (lM z.2) λj=>B (z.2.set j e) λxs=>zf (z.1+1) λi=>L (i,xs)else Z z.2) fu (b,xs)) λxs=>L d xs b i e y a) (λy=>f y r.1) r.2
def vg{X Y:Type}(fu:K)(n b:J)(g:N J->X->V (N J×(X⊕Y)))(a:X):V (X⊕Y):=jX n λm=>ck (8*m<=281474976710656)<|B (xaa m 0) λxs=>bd (zg (λL (z:N J×J)=>if z.2<(lM xs:J)then zI z.2 (lM z.1) λj=>B (z.1.set j z.2) λxs=>zf (z.2+1) λi=>L (xs,i)else Z z.1) fu (xs,0)) λxs=>zg (λL (q:X×N J)=>qm fu n b g q.1 q.2 (λx xs _ _ _ _ _=>L (x,xs)) (λx _ _ _=>Z (.inl x)) λy _=>Z (.inr y)) fu (a,xs)
def K9(fu:K)(b:N J)(d:J):(J->V (Z9⊕J))->J->V (Z9⊕J):=λL a=>if a<(X b:J)then zI a (X b) λe=>B (b.getD e 0) λf=>if d=f then Z (.inr a)else zf (a+1) λg=>L g else Z (.inl ())
def YR(a:N J)(b:J):V J:=Y (zg (K9 fu a b) fu (0:J)) λd=>match d with
 |.inl _=>Z (-1:J)
 |.inr e=>Z e
def vX(fu:K)(b:N J)(d:J):(J->V (Z9⊕J))->J->V (Z9⊕J):=λL a=>if a<(X b:J)then zI a (X b) λe=>B ((b.getD e 0)) λf=>if d=f then Z (.inr a)else zf (a+1) λg=>L g else Z (.inl ())
def qJ(a:N J)(b:J):V (J×(N J)):=Y (zg (vX fu a b) fu (0:J)) λd=>match d with
 |.inl _=>Z<|((-1:J),a)
 |.inr e=>Z (e,a)
def J0(a:N J)(b:J):V qR:=Y (YR fu a b) λd=>if 0<=d then Z wL else Z I
def wg(b:N J)(d:J):V (qR×(N J)):=Y (qJ fu b d) λ(e,a)=>if 0<=e then Z (wL,a)else Z (I,a)
def uG(a:N (N M)):(((N<|N M)×J×(N J))->V ((N<|N M)×(N J)))->((N<|N M)×J×(N J))->V ((N<|N M)×(N J)):=λL (d,b,e)=>Y ((if b<(X a:J)then Z ((a,(X a:J),wL))else Z ((a,(X a:J),I)):V ((N<|N M)×J×qR))) λ(f,p,i)=>if i then zI b (X f) λj=>B (f.getD j []) λg=>Y (wg fu e b) λ(k,h)=>if !k then ck ((X d+X ([g]))*24<=140737488355328)<|B (d++([g])) λl=>zf (b+1) λm=>L (l,m,h)else zf (b+1) λo=>L (d,o,h)else Z (d,e)
def xQ(a:N (N M))(b:N J):V ((N<|N M)×(N J)):=Y (zg (uG fu a) fu<|([],(0:J),b)) λ(d,e)=>Z (d,e)
def qN(b:(qR×N K))(ys:N J)(y:N (qR×N K)×N (N<|qR×N K)×N (N<|qR×N K)):V (N J×((N (qR×N K)×N (N<|qR×N K)×N (N<|qR×N K))⊕(N (qR×N K)×N (N<|qR×N K)×N (N<|qR×N K)))):=Y (jA fu y.1 y.2.1 ys b) λc=>Y (xV fu y.1 c.1) λq=>if q.2=0 then if 1<(X c.1:J)then ck ((X y.2.2+1)*24<=140737488355328)<|B (y.2.2++[c.1]) λpr=>Y (xQ fu y.2.1 c.2) λw=>Z (w.2,.inr (q.1,w.1,pr))else Z (c.2,.inl y)else Z (c.2,.inl y)
def Z1(b:(qR×N K))(x:N (qR×N K)×N (N<|qR×N K)×N (N<|qR×N K)×J)(L:N (qR×N K)×N (N<|qR×N K)×N (N<|qR×N K)×J->V (N (qR×N K)×N (N<|qR×N K)×N (N<|qR×N K))):V (N (qR×N K)×N (N<|qR×N K)×N (N<|qR×N K)):=zf (2*x.2.2.2) λd=>if d<=(X x.2.1:J)then Y (vg fu x.2.2.2 (X x.2.1:J) (qN fu b) (x.1,x.2.1,x.2.2.1)) λr=>xfH (λy=>zf (x.2.2.2+1) λi=>L (y.1,y.2.1,y.2.2,i)) (λy=>L (y.1,y.2.1,y.2.2,x.2.2.2)) r else Z (x.1,x.2.1,x.2.2.1)
def ZN(f:N (qR×N K))(a:N (N<|qR×N K))(b:(qR×N K)):V (N<|N<|qR×N K):=Y (zg (λL x=>Z1 fu b x L) fu (f,a,[],1)) λx=>if 1<(X x.1:J)then Y (xA fu x.1) λq=>ck ((X x.2.2+1)*24<=140737488355328)<|B (x.2.2++[q]) λpr=>Z pr else Z x.2.2
def dq(b:N M)(d:N M):(J->V (Z9⊕qR))->J->V (Z9⊕qR):=λL a=>if 0<=a then zI a (X b) λf=>B ((b.getD f (I,[]))) λg=>zI a (X d) λh=>B ((d.getD h (I,[]))) λi=>Y (kq fu g i) λe=>if e=0 then zf (a-1) λj=>L j else if e<0 then Z (.inr wL)else Z (.inr I)else Z (.inl ())
def Xc(d:N M)(e:N M):V qR:=Y (zM fu d) λa=>Y (zM fu e) λb=>if(X a:J)=(X b:J)then zf (((X a:J))-1) λf=>Y (zg (dq fu a b) fu f) λg=>match g with
 |.inl _=>Z I
 |.inr h=>Z h else if(X a:J)<(X b:J)then Z wL else Z I
def jV(a:N M)(b:N M):V J:=Y (Xc fu a b) λd=>if d then Z (-1:J)else Y (Xc fu b a) λe=>if e then Z (1:J)else Z (0:J)
def WK(f:J)(g:M):((J×M×J×M)->V (J×M×M))->(J×M×J×M)->V (J×M×M):=λL (a,b,d,e)=>if d<f then Y (zF fu e g) λh=>zf (d+1) λi=>L (a,b,i,h)else Z (a,b,e)
def KS(g:M)(d:J):((M×M×M)->V M)->(M×M×M)->V M:=λL (e,a,f)=>Y (vN fu a f) λh=>Y (Uw fu h.2 (1:J)) λi=>Y (xk fu I i) λb=>Y (kq fu b a) λj=>if j=0 then Z a else Y (zP fu (1:J)) λk=>Y (zg (WK fu d b) fu<|(d,g,(0:J),k)) λ(p,l,m)=>Y (kq fu m l) λo=>if o<=0 then L (e,b,f)else L (e,a,b)
def Kj(b:M)(a:J):V (M×J):=if a<1 then Z (((I,[]),(1:J)))else if 64<a then Z (((I,[]),(1:J)))else Y (xy fu b) λe=>if e<0 then Z (((I,[]),(1:J)))else Y (zP fu (0:J)) λf=>Y (uU fu b.2) λg=>ck (a≠0)<|zf (xdE g a) λh=>zf (h+1) λi=>B (min i (262144:J)) λj=>Y (Wc fu [(1:K)] j) λ(k,m)=>Y (xk fu I k) λl=>Y (zg (KS fu b a) fu<|((I,[]),f,l)) λd=>Z<|(d,(0:J))
def XA(b:N M):V J:=Y (zM fu b) λa=>if(X a:J)=0 then Z (8:J)else if 65<(X a:J)then Z (6:J)else Z (0:J)
def dZ(b:N M):((J×(N M)×M×M)->V ((N M)×M×M))->(J×(N M)×M×M)->V ((N M)×M×M):=λL (d,a,e,f)=>Y ((if d<(X b:J)then Z (((X b:J),wL))else Z (((X b:J),I)):V (J×qR))) λ(m,h)=>if h then zI d (X a) λi=>B ((a.getD i (I,[]))) λg=>Y (zF fu g g) λj=>Y (vN fu f j) λk=>zf (d+1) λl=>L (l,a,e,k)else Z (a,e,f)
def vz(a:N M):V (M×J):=Y (XA fu a) λb=>if b=0 then Y (zM fu a) λd=>Y (zP fu (-1:J)) λe=>Y (zg (dZ fu d) fu<|((0:J),d,(I,[]),e)) λ(f,o,g)=>Y (Kj fu g (2:J)) λ(h,p)=>Y (zP fu (1:J)) λi=>Y (vN fu h i) λj=>zf (((X f:J))-1) λk=>Y (Wc fu j.2 k) λ(l,q)=>Y (qd fu (I,l)) λm=>Z ((m,(0:J)))else Z (((I,[]),b))
def VQ(d:J)(e:M):((J×M)->V J)->(J×M)->V J:=λL (a,b)=>Y (kq fu b e) λf=>if f<=0 then Y (zP fu d) λg=>Y (zF fu b g) λh=>zf (a+1) λi=>L (i,h)else Z a
def WC(a:N M)(b:J):V J:=Y (vz fu a) λ(d,m)=>Y (zP fu (2:J)) λe=>zf (((X a:J))-1) λf=>zI f (X a) λg=>B (a.getD g (I,[])) λh=>Y (zF fu d h) λi=>Y (zF fu e i) λj=>Y (zP fu b) λk=>Y (zg (VQ fu b j) fu<|((1:J),k)) λl=>Z l
def QE(a:N M):V qR:=Y (vz fu a) λ(b,k)=>Y (zP fu (2:J)) λd=>zf (((X a:J))-1) λe=>zI e (X a) λf=>B (a.getD f (I,[])) λg=>Y (zF fu b g) λh=>Y (zF fu d h) λi=>Y (uU fu i.2) λj=>if 1000<j then Z wL else Z I
def Wa(fu:K)(b:N J)(d:N J):(J->V (Z9⊕J))->J->V (Z9⊕J):=λL a=>if 0<=a then zI a (X b) λe=>B (b.getD e 0) λf=>zI a (X d) λg=>B (d.getD g 0) λh=>if f<h then Z (.inr (-1:J))else zI a (X b) λi=>B (b.getD i 0) λj=>zI a (X d) λk=>B (d.getD k 0) λl=>if l<j then Z (.inr (1:J))else zf (a-1) λm=>L m else Z (.inl ())
def vG(a:N J)(b:N J):V J:=if(X a:J)=(X b:J)then zf (((X a:J))-1) λd=>Y (zg (Wa fu a b) fu d) λe=>match e with
 |.inl _=>Z (0:J)
 |.inr f=>Z f else zf (((X a:J))-((X b:J))) λg=>Z g
def jD(fu:K)(a:N J)(b:J):V qR:=zI b (X a) λd=>B (a.getD d 0) λe=>if e=0 then Z I else Z wL
def dD(b:N J)(e:J):((J×(N J))->V (N J))->(J×(N J))->V (N J):=λL (a,d)=>if a<(X b:J)then zI a (X b) λf=>B (b.getD f 0) λg=>Y (uY fu g e) λh=>zI a (X d) λi=>B (d.set i h) λj=>zf (a+1) λk=>L (k,j)else Z d
def Xm(a:N J)(d:J):V (N J):=jX ((X a:J)) λb=>ck (8*b<=281474976710656)<|B (xaa b 0) λe=>Y (zg (dD fu a d) fu<|((0:J),e)) λf=>Z f
def dS(fu:K)(a:N (N J)):(J->V (Z9⊕Z9))->J->V (Z9⊕Z9):=λL b=>Y ((if b<(X a:J)then Z ((a,a,(X a:J),wL))else Z ((a,a,(X a:J),I)):V ((N<|N J)×(N<|N J)×J×qR))) λ(d,e,l,g)=>if g then zI b (X e) λh=>B (e.getD h []) λf=>if 64<(X f:J)then Z (.inr ())else zI 0 (X d) λi=>B (d.getD i []) λj=>if(X f:J)=(X j:J)then zf (b+1) λk=>L k else Z (.inr ())else Z (.inl ())
def Xx(a:N (N J))(b:J):V J:=Y (vk fu b) λd=>if d=0 then if 64<(X a:J)then Z (1:J)else Y (zg (dS fu a) fu (0:J)) λe=>match e with
 |.inl _=>Z (0:J)
 |.inr _=>Z (1:J)else Z (1:J)
def qc(xss:N (N J))(ix:N K)(r:K)(a p:J)(lo n:K):V (N<|N J):=Y (zg (λL (x:((N (N J)×N K)×K×K)×(K×K)×K×J)=>if x.2.2.2<(n:J)then zI x.2.2.2 x.2.1.2 λj=>B (x.1.1.2.getD (x.2.1.1+j) 0) λq=>zI a (X (x.1.1.1.getD q [])) λj=>B ((x.1.1.1.getD q []).getD j 0) λy=>Y (zg (λL (z:((N (N J)×N K)×K×K)×(K×K)×K×K×K×J)=>if z.2.2.2.2.2<(X (x.1.1.1.getD x.2.2.1 []):J)then zI z.2.2.2.2.2 (X (z.1.1.1.getD z.2.2.2.1 [])) λj=>B ((z.1.1.1.getD z.2.2.2.1 []).getD j 0) λv=>zI z.2.2.2.2.2 (X (z.1.1.1.getD z.2.2.2.2.1 [])) λj=>B ((z.1.1.1.getD z.2.2.2.2.1 []).getD j 0) λu=>zf (p-y) λe=>zf (e*v) λe=>zf (u+e) λe=>ck (p≠0)<|B (xcv e p) λe=>zI z.2.2.2.2.2 (X (z.1.1.1.getD z.2.2.2.2.1 [])) λj=>B (z.1.1.1.set z.2.2.2.2.1<|(z.1.1.1.getD z.2.2.2.2.1 []).set j e) λb=>zf (z.2.2.2.2.2+1) λi=>L (((b,z.1.1.2),z.1.2),z.2.1,z.2.2.1,z.2.2.2.1,z.2.2.2.2.1,i)else Z (z.1,z.2.1,z.2.2.1)) fu (x.1,x.2.1,x.2.2.1,x.2.2.1,q,0)) λz=>zf (x.2.2.2+1) λi=>L (z.1,z.2.1,z.2.2,i)else Z x.1) fu (((xss,ix),lo,n),(lo,n),r,0)) λx=>ck (x.2.1=lo/\x.2.2=n/\x.1.2=ix)<|some x.1.1
def vP(fu:K)(b:N (N J))(d:(N J)->V qR):(J->V (Z9⊕J))->J->V (Z9⊕J):=λL a=>if a<(X b:J)then zI a (X b) λe=>B (b.getD e []) λf=>Y (d f) λg=>if g then Z (.inr a)else zf (a+1) λh=>L h else Z (.inl ())
def yP(a:N (N J))(b:(N J)->V qR):V J:=Y (zg (vP fu a b) fu (0:J)) λd=>match d with
 |.inl _=>Z (-1:J)
 |.inr e=>Z e
def u5(g:N (N J))(p:J):V (N (N J)×J):=Y (Xx fu g p) λe=>if e=0 then Y (zg (λL (x:(N (N J)×N K)×J)=>if x.2<(X g:J)then zI x.2 (X g) λj=>B (g.getD j []) λy=>Y (Xm fu y p) λr=>ck ((X x.1.2+1)*24<=140737488355328)<|B (x.1.1++[r]) λl=>B (x.1.2++[X x.1.1]) λn=>zf (x.2+1) λi=>L ((l,n),i)else Z x.1) fu (([],[]),0)) λx=>Y (zg (λL (x:(N (N J)×N K)×J×J)=>if x.2.1<(X x.1.2:J)then zI 0 (X x.1.2) λj=>B (x.1.2.getD j 0) λr=>if x.2.2<(X (x.1.1.getD r []):J)then jX x.2.1 λj=>ck (j<=X x.1.2)<|Y (yP fu (xdH (X x.1.2-j)<|xdT j<|x.1.2.map λr=>x.1.1.getD r []) λz=>jD fu z x.2.2) λi=>if i<0 then zf (x.2.2+1) λc=>L (x.1,x.2.1,c)else zf (x.2.1+i) λa=>zf (x.2.1+i) λb=>zI b (X x.1.2) λj=>B (x.1.2.getD j 0) λd=>zI x.2.1 (X x.1.2) λj=>B (x.1.2.getD j 0) λf=>zI x.2.1 (X x.1.2) λj=>B (x.1.2.set j d) λix=>zI a (X ix) λj=>B (ix.set j f) λix=>zI x.2.1 (X ix) λj=>B (ix.getD j 0) λr=>zI x.2.2 (X (x.1.1.getD r [])) λj=>B ((x.1.1.getD r []).getD j 0) λy=>Y (VG fu y p) λq=>zI x.2.1 (X ix) λj=>B (ix.getD j 0) λr=>Y (zg (λL (z:(N (N J)×N K)×K×J)=>if z.2.2<(X (x.1.1.getD r []):J)then zI z.2.2 (X (z.1.1.getD z.2.1 [])) λj=>B ((z.1.1.getD z.2.1 []).getD j 0) λy=>zI x.2.1 (X z.1.2) λj=>B (z.1.2.getD j 0) λr=>zf (y*q.1) λe=>ck (p≠0)<|B (xcv e p) λe=>zI z.2.2 (X (z.1.1.getD r [])) λj=>B (z.1.1.set r<|(z.1.1.getD r []).set j e) λh=>zf (z.2.2+1) λi=>L ((h,z.1.2),z.2.1,i)else Z z.1) fu ((x.1.1,ix),r,0)) λm=>zI x.2.1 (X m.2) λj=>B (m.2.getD j 0) λr=>jX x.2.1 λj=>ck (j<=X m.2)<|Y (qc fu m.1 m.2 r x.2.2 p 0 j) λh=>zI x.2.1 (X m.2) λj=>B (m.2.getD j 0) λr=>zf (x.2.1+1) λe=>jX e λj=>ck (j<=X m.2)<|Y (qc fu h m.2 r x.2.2 p j<|X m.2-j) λh=>zf (x.2.1+1) λk=>zf (x.2.2+1) λc=>L ((h,m.2),k,c)else Z (x.1,x.2.1)else Z (x.1,x.2.1)) fu (x,0,0)) λx=>jX x.2 λj=>ck (j<=X (x.1.2.map λr=>x.1.1.getD r []))<|B (xdH j<|x.1.2.map λr=>x.1.1.getD r []) λys=>Z (ys,0)else Z ([],e)
def ZP(fu:K)(a:J):V qR:=if a=0 then Z I else Z wL
def vm(fu:K)(b:N J)(d:J->V qR):(J->V (Z9⊕J))->J->V (Z9⊕J):=λL a=>if a<(X b:J)then zI a (X b) λe=>B (b.getD e 0) λf=>Y (d f) λg=>if g then Z (.inr a)else zf (a+1) λh=>L h else Z (.inl ())
def xq(a:N J)(b:J->V qR):V J:=Y (zg (vm fu a b) fu (0:J)) λd=>match d with
 |.inl _=>Z (-1:J)
 |.inr e=>Z e
def Vm(a:N J):V J:=Y (xq fu a<|λc=>ZP fu c) λb=>Z b
def jd(a:N J)(b:J):V qR:=Y (Vm fu a) λd=>if d=b then Z wL else Z I
def xW(a:N (N J))(b:(N J)->V qR):V qR:=Y (yP fu a b) λd=>if 0<=d then Z wL else Z I
def KZ(d:J)(i:J)(j:J)(a:N (N J))(k:J):((J×(N<|N J)×(N J))->V ((N<|N J)×(N J)))->(J×(N<|N J)×(N J))->V ((N<|N J)×(N J)):=λL (e,l,f)=>Y ((if e<(X a:J)then Z ((i,j,a,d,k,d,a,(X a:J),wL))else Z ((i,j,a,d,k,d,a,(X a:J),I)):V (J×J×(N<|N J)×J×J×J×(N<|N J)×J×qR))) λ(B,m,C,o,E,G,b,p,q)=>if q then zI e (X b) λr=>nm (b.getD r []) λg=>Y (Vm fu g) λs=>zI o (X g) λt=>nm (g.getD t 0) λu=>zf (0-u) λv=>Y (uY fu v m) λw=>zI s (X f) λy=>nm (f.set y w) λh=>zf (e+1) λA=>L (A,l,h)else Z (l,f)
def gX(b:J)(h:J)(i:N (N J)):(((N<|N J)×J)->V (N<|N J))->((N<|N J)×J)->V (N<|N J):=λL (f,a)=>Y ((if a<b then Z (b,h,i,b,wL)else Z (b,h,i,b,I):V (J×J×(N<|N J)×J×qR))) λ(j,o,k,p,q)=>if q then Y (xW fu k<|λc=>jd fu c a) λr=>if r then zf (a+1) λs=>L (f,s)else jX j λl=>ck (8*l<=281474976710656)<|B (xaa l 0) λm=>zI a (X m) λt=>B (m.set t (1:J)) λu=>Y (zg (KZ fu a j o k p) fu<|((0:J),f,u)) λ(d,e)=>ck ((X d+X ([e]))*24<=140737488355328)<|B (d++([e])) λg=>zf (a+1) λv=>L (g,v)else Z f
def Vg(a:N (N J))(b:J)(d:J):V ((N<|N J)×J):=Y ((Y (Xx fu a d) λf=>if f=0 then if b<0 then Z (.inr ())else if 64<b then Z (.inr ())else if 0<(X a:J)then zI 0 (X a) λg=>B (a.getD g []) λh=>if(X h:J)=b then Z (.inl ())else Z (.inr ())else Z (.inl ())else Z (.inr ()):V (Z9⊕Z9))) λi=>match i with
 |.inl _=>Y (u5 fu a d) λ(j,k)=>Y (zg (gX fu b d j) fu<|([],(0:J))) λe=>Z<|(e,(0:J))
 |.inr _=>Z<|([],(1:J))
def j7(e:N J)(f:N J)(a:J):V ((N J)×(N J)×J):=Y (vk fu a) λb=>if b=0 then Y (ya fu f a) λd=>if(X d:J)=0 then Z (([],[],(3:J)))else Y (ya fu e a) λg=>Y (xL fu g d a) λ(h,i)=>Z ((h,i,(0:J)))else Z ([],[],b)
def We(i:M)(d:J)(j:N J):(((N J)×(N J)×J)->V (N J))->((N J)×(N J)×J)->V (N J):=λL (e,f,a)=>if 0<=a then Y (w7 fu e e d) λl=>Y (xL fu l j d) λ(m,b)=>ck ((64:J)≠0)<|zf (xdE a (64:J)) λo=>zI o (X i.2) λp=>B (i.2.getD p 0) λq=>ck ((64:J)≠0)<|B (xcv a (64:J)) λk=>ck (0<=k)<|B (q/2^(min (k:J).toNat 64)) λr=>B (r &&& ((1:K))) λs=>if(s:J)=(((1:K):K):J)then Y (w7 fu b f d) λg=>Y (xL fu g j d) λ(t,h)=>zf (a-1) λu=>L (h,f,u)else zf (a-1) λv=>L (b,f,v)else Z e
def Ze(f:N J)(d:M)(g:N J)(a:J):V ((N J)×J):=Y (vk fu a) λh=>if h=0 then Y (xy fu d) λi=>if i<0 then Z (([],(1:J)))else Y (ya fu g a) λb=>if(X b:J)=0 then Z (([],(3:J)))else Y (xL fu [(1:J)] b a) λ(p,j)=>Y (ya fu f a) λk=>Y (xL fu k b a) λ(q,l)=>Y (uU fu d.2) λm=>zf (m-1) λo=>Y (zg (We fu d a b) fu (j,l,o)) λe=>Z ((e,(0:J)))else Z (([],(1:J)))
def YV(f:N J)(p:J):V (N<|N J):=zf ((X f:J)-1) λn=>jX n λm=>ck (24*m<=281474976710656)<|B (xaa m 0) λix=>Y (zg (λL (x:(N (N J)×N K)×J)=>if x.2<(X ix:J)then jX n λm=>ck (8*m<=281474976710656)<|B (xaa m 0) λys=>zI x.2 (X x.1.2) λj=>B (x.1.1++[ys]) λxss=>B (x.1.2.set j (X x.1.1)) λix=>zf (x.2+1) λi=>L ((xss,ix),i)else Z x.1) fu (([[]],ix),0)) λx=>Y (zP fu p) λz=>Y (Ze fu [0,1] z f p) λq=>Y (zg (λL (x:(N (N J)×N K)×N J×N J×J)=>if x.2.2.2<n then Y (zg (λL (y:(N (N J)×N K)×J)=>if y.2<(X x.2.1:J)then zI y.2 (X x.2.1) λj=>B (x.2.1.getD j 0) λv=>zI y.2 (X y.1.2) λj=>B (y.1.2.getD j 0) λr=>zI x.2.2.2 (X (y.1.1.getD r [])) λj=>B (y.1.1.set r<|(y.1.1.getD r []).set j v) λa=>zf (y.2+1) λi=>L ((a,y.1.2),i)else Z y.1) fu (x.1,0)) λy=>zI x.2.2.2 (X y.2) λj=>B (y.2.getD j 0) λr=>zI x.2.2.2 (X (y.1.getD r [])) λj=>B ((y.1.getD r []).getD j 0) λv=>zf (v-1) λe=>zI x.2.2.2 (X (y.1.getD r [])) λj=>B (y.1.set r<|(y.1.getD r []).set j e) λa=>Y (kh fu x.2.1 x.2.2.1 p) λu=>Y (j7 fu u.1 f p) λw=>zf (x.2.2.2+1) λi=>L ((a,y.2),w.2.1,x.2.2.1,i)else Z x.1) fu (x,[1],q.1,0)) λx=>Y (Vg fu (x.2.map λr=>x.1.getD r []) n p) λr=>Z r.1
def fY(a:N J)(b:N J)(d:J):V (N J):=Y (j7 fu a b d) λ(e,f,g)=>Z e
def af(a:N J)(b:N J)(d:J):V (N J):=Y (j8 fu a b d) λ(e,f)=>Z e
def ZZ(b:J)(a:N J)(d:J):V J:=if b<(X a:J)then zI b (X a) λe=>B (a.getD e 0) λf=>Y (uY fu f d) λg=>Z g else zf (b-((X a:J))) λh=>Z h
def Ks(d:N J)(e:N J)(a:J):V ((N J)×J):=Y (vk fu a) λb=>if b=0 then Y (ya fu d a) λf=>Y (ya fu e a) λg=>Y (YJ fu f g (1:J) a) λh=>Z ((h,(0:J)))else Z ([],b)
def QP(d:N J)(e:J)(f:N J)(a:J):V (N J):=Y (Ks fu d [e] a) λ(b,l)=>if 2<a then zf (a-1) λg=>ck ((2:J)≠0)<|zf (xdE g (2:J)) λh=>Y (zP fu h) λi=>Y (Ze fu b i f a) λ(j,m)=>Y (W9 fu j [(1:J)] a) λ(k,o)=>Z k else Z b
def Qk(v:J)(w:xS J)(h:xS (xS J))(e:J)(k:xS J)(l:J)(i:J)(m:xS (xS J))(o:J)(j:xS J):(((xS<|xS J)×J)->V ((xS<|xS J)⊕(xS<|xS J)))->((xS<|xS J)×J)->V ((xS<|xS J)⊕(xS<|xS J)):=λL (a,d)=>if d<(X a:J)then if(X a:J)=(X h:J)then Z (.inl a)else Y (ZZ fu i w v) λy=>zI d (X a) λA=>nm ((a.getD A [])) λB=>Y (QP fu j y B e) λp=>zI d (X a) λC=>nm ((a.getD C [])) λq=>Y (af fu p q e) λb=>Y ((if 1<(X b:J)then zI d (X a) λE=>nm ((a.getD E [])) λr=>if(X b:J)<(X r:J)then Z (h,e,k,i,j,m,o,l,wL)else Z (h,e,k,i,j,m,o,l,I)else Z (h,e,k,i,j,m,o,l,I):V ((xS<|xS J)×J×(xS J)×J×(xS J)×(xS<|xS J)×J×J×qR))) λ(G,s,H,Q,c,n,R,S,K)=>if K then zI d (X a) λM=>nm ((a.getD M [])) λt=>Y (fY fu t b s) λf=>ck ((X a+X ([f]))*24<=140737488355328)<|nm (a++([f])) λg=>zI d (X g) λN=>nm (g.set N b) λu=>zf (d+1) λx=>L (u,x)else zf (d+1) λP=>L (a,P)else Z (.inr a)
def Qn(l:J)(m:N J)(j:J)(a:N (N J)):(((N<|N J)×J×(N J)×(N<|N J)×J)->V ((N<|N J)⊕((N<|N J)×J×(N J)×(N<|N J))))->((N<|N J)×J×(N J)×(N<|N J)×J)->V ((N<|N J)⊕((N<|N J)×J×(N J)×(N<|N J))):=λL (d,e,f,k,b)=>Y ((if b<(X a:J)then Z ((j,a,(X a:J),wL))else Z ((j,a,(X a:J),I)):V (J×(N<|N J)×J×qR))) λ(o,g,p,q)=>if q then zI b (X g) λr=>B (g.getD r []) λs=>Y (zg (Qk fu l m d e f b o g p s) fu<|(k,(0:J))) λt=>match t with
 |.inl h=>Z (.inl h)
 |.inr i=>zf (b+1) λu=>L (d,e,f,i,u)else Z (.inr (d,e,f,k))
def Qf(a:N (N J))(b:J)(d:N J):(((N<|N J)×J)->V (N<|N J))->((N<|N J)×J)->V (N<|N J):=λL (h,e)=>zf (b+((X d:J))) λj=>if e<j then jX (1:J) λi=>ck (i<=X a)<|B (a.drop i) λk=>Y (zg (Qn fu b d e k) fu<|(a,b,d,h,(0:J))) λl=>match l with
 |.inl f=>Z f
 |.inr (m,o,p,g)=>zf (e+1) λq=>L (g,q)else Z h
def WY(b:N J)(d:N (N J))(e:J)(f:N J):V (N<|N J):=Y (zg (Qf fu d e f) fu<|([b],(0:J))) λa=>Z a
def jg(e:N J)(b:J):V ((N J)×J):=Y (vk fu b) λd=>if d=0 then Y (ya fu e b) λa=>if(X a:J)=0 then Z (([],(0:J)))else zf (((X a:J))-1) λf=>zI f (X a) λg=>B ((a.getD g 0)) λh=>Y (qx fu a h b) λi=>Z ((i,(0:J)))else Z ([],d)
def aU(d:N J)(e:J):V ((N J)×J):=Y (jg fu d e) λ(a,b)=>if b=0 then if(X a:J)=0 then Z (([],(8:J)))else if 65<(X a:J)then Z (([],(6:J)))else Z ((a,(0:J)))else Z ([],b)
def bM(fu:K)(f:J)(e:N J):(((N J)×J×(N J))->V (N J))->((N J)×J×(N J))->V (N J):=λL (b,a,d)=>Y ((if a<(X e:J)then Z ((f,(X e:J),wL))else Z ((f,(X e:J),I)):V (J×J×qR))) λ(g,q,i)=>if i then zI a (X d) λj=>B ((d.getD j 0)) λk=>if 0<a then ck (g≠0)<|B (xcv a g) λl=>zf (l*k) λh=>ck ((X b+X ([h]))*8<=140737488355328)<|B (b++([h])) λm=>zf (a+1) λo=>L (m,o,d)else zf (a+1) λp=>L (b,p,d)else Z b
def W6(e:N J)(a:J):V ((N J)×J):=Y (vk fu a) λb=>if b=0 then Y (ya fu e a) λd=>Y (zg (bM fu a d) fu<|([],(0:J),d)) λf=>Y (ya fu f a) λg=>Z ((g,(0:J)))else Z ([],b)
def QU(d:N J)(e:J):V ((N J)×J):=Y (jg fu d e) λ(a,b)=>if b=0 then if(X a:J)=0 then Z (([],(8:J)))else Z (a,b)else Z (a,b)
def YA(e:N J)(a:J):V (qR×J):=Y (QU fu e a) λ(b,d)=>if d=0 then Y (W6 fu b a) λ(f,h)=>Y (j8 fu b f a) λ(g,i)=>if(X g:J)=1 then Z ((wL,(0:J)))else Z ((I,(0:J)))else Z (I,d)
def ud(e:N J)(a:J):V ((N J)×J):=Y (aU fu e a) λ(b,d)=>if d=0 then Y (YA fu b a) λ(f,g)=>if !f then Z (([],(1:J)))else Z ((b,(0:J)))else Z ([],d)
def kX(a:K):V J:=Y (xX fu a) λb=>Z b
def u9(fu:K)(g:(N J)->(N J)->V J):((J×J×J×(N<|N J))->V (J×J×(N<|N J)))->(J×J×J×(N<|N J))->V (J×J×(N<|N J)):=λL (d,e,b,a)=>if d<b then zI b (X a) λh=>B ((a.getD h [])) λi=>zf (b-1) λj=>zI j (X a) λk=>B ((a.getD k [])) λl=>Y (g i l) λm=>if m<0 then zf (b-1) λo=>zf (b-1) λp=>zI p (X a) λq=>B ((a.getD q [])) λr=>zI b (X a) λs=>B ((a.getD s [])) λt=>zI b (X a) λu=>B (a.set u r) λf=>zI o (X f) λv=>B (f.set v t) λw=>zf (b-1) λy=>L (d,e,y,w)else Z (d,e,a)else Z (d,e,a)
def uZ(e:J)(b:J)(f:(N J)->(N J)->V J):((J×(N<|N J))->V (N<|N J))->(J×(N<|N J))->V (N<|N J):=λL (a,d)=>if a<b then Y (zg (u9 fu f) fu (e,b,a,d)) λ(i,j,g)=>zf (a+1) λh=>L (h,g)else Z d
def vW(d:N (N J))(b:J)(e:J)(f:(N J)->(N J)->V J):V (N<|N J):=zf (b+1) λg=>Y (zg (uZ fu b e f) fu (g,d)) λa=>Z a
def q8(d:(N J)->(N J)->V J):((J×J×J×(N<|N J))->V (N<|N J))->(J×J×J×(N<|N J))->V (N<|N J):=λL (a,b,e,f)=>zf (b-a) λg=>if g<=12 then Y (vW fu f a b d) λh=>Z h else if e=0 then wF else wF
def jM:K->(N<|N J)->J->J->J->((N J)->(N J)->V J)->V (N<|N J)
 |0,_,_,_,_,_=>wF
 |fu+1,a,b,d,e,f=>Y (zg (q8 fu f) fu (b,d,e,a)) λg=>Z g
def wj(a:N (N J))(b:(N J)->(N J)->V J):V (N<|N J):=B (Cr<|(X a:J)) λd=>Y (kX fu d) λe=>Y (jM fu a (0:J) ((X a:J)) e b) λf=>Z f
def Y9(g:N J)(a:J)(b:N J):V ((N<|N J)×J):=Y (ud fu g a) λ(d,e)=>if e=0 then if(X d:J)=1 then Z ([],e)else Y (YV fu d a) λh=>B (min ((X b:J)) (64:J)) λi=>jX i λf=>ck (f<=X b)<|B (b.take f) λj=>Y (WY fu d h a j) λk=>Y (wj fu k<|λc m=>vG fu c m) λl=>Z ((l,(0:J)))else Z ([],e)
def JU:(J->V J)->J->V J:=λL a=>Y (uX fu a) λb=>if !b then zf (a+1) λd=>L d else Z a
def wM(a:J):V (J×J):=if 65521<=a then Z (((0:J),(5:J)))else B (max a (1:J)) λb=>zf (b+1) λd=>Y (zg (JU fu) fu d) λe=>Z<|(e,(0:J))
def QN(a:N M)(b:J):V (qR×J):=Y (vz fu a) λ(i,d)=>if d=0 then Y (uX fu b) λf=>if !f then Z ((I,(0:J)))else Y (u7 fu a b) λ(e,j)=>Y (zM fu a) λg=>if(X e:J)=(X g:J)then Y (YA fu e b) λ(h,k)=>Z ((h,(0:J)))else Z ((I,(0:J)))else Z (I,d)
def Jk(m:N M)(o:N J):((J×J×(N<|N J)×J×J)->V (J×(N<|N J)))->(J×J×(N<|N J)×J×J)->V (J×(N<|N J)):=λL (b,e,d,a,p)=>if p=0 then if e<5 then Y (QN fu m a) λ(q,v)=>if !q then Y (wM fu a) λ(r,s)=>L (b,e,d,r,s)else zf (e+1) λf=>Y (u7 fu m a) λ(t,w)=>Y (Y9 fu t a o) λ(g,y)=>if b=0 then Y (wM fu a) λ(u,h)=>L (a,f,g,u,h)else if(X g:J)<(X d:J)then Y (wM fu a) λ(i,j)=>L (a,f,g,i,j)else Y (wM fu a) λ(k,l)=>L (b,f,d,k,l)else Z (b,d)else Z (b,d)
def Q5(a:N M)(b:N J):V (J×(N<|N J)):=Y (wM fu (1:J)) λ(d,e)=>Y (zg (Jk fu a b) fu<|((0:J),(0:J),[],d,e)) λ(f,g)=>Z (f,g)
def rU(a:J):((J×M×M)->V (M×M))->(J×M×M)->V (M×M):=λL (b,d,e)=>Y ((if b<a then Z (a,a,wL)else Z (a,a,I):V (J×J×qR))) λ(f,q,g)=>if g then zf (f+b) λh=>zf (h+1) λi=>Y (zP fu i) λj=>Y (zF fu e j) λk=>zf (b+1) λl=>Y (zP fu l) λm=>Y (wk fu k m) λ(o,r)=>zf (b+1) λp=>L (p,d,o)else Z (d,e)
def cJ(a:J):V M:=Y (zP fu (1:J)) λb=>Y (zg (rU fu a) fu<|((0:J),(I,[]),b)) λ(e,d)=>Z d
def AW:((J×M×M)->V M)->(J×M×M)->V M:=λL (b,a,d)=>if 0<b then B (Sl b (1:J)) λe=>if e=1 then Y (zF fu d a) λf=>Y (zF fu a a) λg=>B (xge b<|2^(min (((1:K)):J).toNat 64)) λh=>L (h,g,f)else Y (zF fu a a) λi=>B (xge b<|2^(min (((1:K)):J).toNat 64)) λj=>L (j,i,d)else Z d
def ZS(a:M)(b:J):V M:=Y (zP fu (1:J)) λd=>Y (zg (AW fu) fu (b,a,d)) λe=>Z e
def AG(a:N M)(d:N M):((J×M×M)->V (M×M))->(J×M×M)->V (M×M):=λL (b,e,f)=>Y ((if b<(X a:J)then Z ((d,a,(X a:J),wL))else Z ((d,a,(X a:J),I)):V ((N M)×(N M)×J×qR))) λ(g,h,r,i)=>if i then zI b (X h) λj=>B (h.getD j (I,[])) λk=>zI b (X g) λl=>B (g.getD l (I,[])) λm=>Y (zF fu k m) λo=>Y (vN fu f o) λp=>zf (b+1) λq=>L (q,e,p)else Z (e,f)
def iV(a:N M)(b:N M):V M:=Y (zP fu (0:J)) λd=>Y (zg (AG fu a b) fu<|((0:J),(I,[]),d)) λ(f,e)=>Z e
end
end
section
set_option maxRecDepth 100000
section
variable(fu:wr)
def gZ(a:N M)(b:N M):V (M×J):=if(X a:J)=(X b:J)then Y (iV fu a b) λd=>Z ((d,(0:J)))else Z (((I,[]),(1:J)))
def fL(a:N M):V M:=Y (gZ fu a a) λ(b,d)=>Z b
def CJ(f:M)(a:M):((J×M)->V (Z9⊕J))->(J×M)->V (Z9⊕J):=λL (b,e)=>if b<=1000 then Y (kq fu e f) λg=>if 0<g then Z (.inr b)else Y (zF fu e a) λd=>zf (b+1) λh=>L (h,d)else Z (.inl ())
def nh(g:N M)(h:J)(d:J):V (J×J):=Y (vz fu g) λ(B,i)=>if i=0 then Y (xA fu g) λj=>zf (((X j:J))-1) λa=>Y (uX fu h) λk=>if !k then Z (((0:J),(1:J)))else if d<1 then Z (((0:J),(1:J)))else if a<d then Z (((0:J),(1:J)))else zf (a-1) λe=>Y (zP fu (2:J)) λl=>zf (e*a) λm=>Y (ZS fu l m) λo=>Y (cJ fu e) λp=>Y (ZS fu p a) λq=>Y (fL fu j) λr=>zf (e+a) λs=>Y (ZS fu r s) λt=>Y (zF fu q t) λu=>Y (zF fu o u) λv=>Y (zP fu h) λf=>zf ((2:J)*d) λw=>Y (ZS fu f w) λb=>Y (zg (CJ fu v b) fu<|((1:J),b)) λy=>match y with
 |.inl _=>Z<|((0:J),(6:J))
 |.inr A=>Z ((A,(0:J)))else Z (((0:J),i))
def AE(a:N J)(b:N J)(d:J):V qR:=Y (j7 fu b a d) λ(f,e,g)=>if(X e:J)=0 then Z wL else Z I
def Qe(e:J):(((N M)×(N<|N J))->V ((N M)×(N<|N J)))->((N M)×(N<|N J))->V ((N M)×(N<|N J)):=λL (b,a)=>if 12<(X a:J)then zI 0 (X a) λf=>B (a.getD f []) λg=>zf (((X g:J))-1) λh=>Y (nh fu b e h) λ(i,j)=>if j=0 then Y (jj fu b a e i) λ(d,l)=>if(X d:J)=0 then Z (b,a)else zI 0 (X d) λk=>B ((d.getD k [])) λm=>wF else Z (b,a)else Z (b,a)
def WV(a:N M)(b:N (N J))(d:J):V ((N<|N M)×(N M)×(N<|N J)):=Y (zg (Qe fu d) fu (a,b)) λ(e,f)=>Z ([],e,f)
def km(fu:K)(g:(N M)->(N M)->V J):((J×J×J×(N<|N M))->V (J×J×(N<|N M)))->(J×J×J×(N<|N M))->V (J×J×(N<|N M)):=λL (d,e,b,a)=>if d<b then zI b (X a) λh=>B ((a.getD h [])) λi=>zf (b-1) λj=>zI j (X a) λk=>B ((a.getD k [])) λl=>Y (g i l) λm=>if m<0 then zf (b-1) λo=>zf (b-1) λp=>zI p (X a) λq=>B ((a.getD q [])) λr=>zI b (X a) λs=>B ((a.getD s [])) λt=>zI b (X a) λu=>B (a.set u r) λf=>zI o (X f) λv=>B (f.set v t) λw=>zf (b-1) λy=>L (d,e,y,w)else Z (d,e,a)else Z (d,e,a)
def kn(e:J)(b:J)(f:(N M)->(N M)->V J):((J×(N<|N M))->V (N<|N M))->(J×(N<|N M))->V (N<|N M):=λL (a,d)=>if a<b then Y (zg (km fu f) fu (e,b,a,d)) λ(i,j,g)=>zf (a+1) λh=>L (h,g)else Z d
def vc(d:N (N M))(b:J)(e:J)(f:(N M)->(N M)->V J):V (N<|N M):=zf (b+1) λg=>Y (zg (kn fu b e f) fu (g,d)) λa=>Z a
def vT(d:(N M)->(N M)->V J):((J×J×J×(N<|N M))->V (N<|N M))->(J×J×J×(N<|N M))->V (N<|N M):=λL (a,b,e,f)=>zf (b-a) λg=>if g<=12 then Y (vc fu f a b d) λh=>Z h else if e=0 then wF else wF
def qy:K->(N<|N M)->J->J->J->((N M)->(N M)->V J)->V (N<|N M)
 |0,_,_,_,_,_=>wF
 |fu+1,a,b,d,e,f=>Y (zg (vT fu f) fu (b,d,e,a)) λg=>Z g
def yD(a:N (N M))(b:(N M)->(N M)->V J):V (N<|N M):=B (Cr<|(X a:J)) λd=>Y (kX fu d) λe=>Y (qy fu a (0:J) ((X a:J)) e b) λf=>Z f
def Q3(a:N M)(h:N J):V ((N<|N M)×qR):=if(X a:J)<2 then Z ([],wL)else Y (QE fu a) λi=>if i then Z ([],I)else Y (Q5 fu a h) λ(b,j)=>if b=0 then Z ([],I)else Y (WC fu a b) λf=>Y (qt fu b f) λ(k,r)=>Y (WV fu a j b) λ(d,e,l)=>if 1<(X e:J)then Y (jj fu e l b f) λ(m,s)=>Y (ZN fu e m k) λg=>ck ((X d+X g)*24<=140737488355328)<|B (d++g) λo=>Y (yD fu o<|λc n=>jV fu c n) λp=>Z (p,wL)else Y (yD fu d<|λc n=>jV fu c n) λq=>Z (q,wL)
def og:(((N M)×(N M))->V (N M))->((N M)×(N M))->V (N M):=λL (b,a)=>if 0<(X a:J)then Y (ui fu b a) λ(f,d,g)=>Y (xA fu d) λe=>L (a,e)else Z b
def Wm(a:N M)(b:N M):V (N M):=Y (wi fu a) λd=>Y (wi fu b) λe=>Y (Wk fu d e) λf=>Y (xA fu a) λg=>Y (xA fu b) λh=>Y (zg (og fu) fu (g,h)) λi=>Y (vZ fu i f) λj=>Z j
def Qc(a:J)(b:M):V M:=Y (zP fu a) λd=>Y (zF fu b d) λe=>Z e
def WO(d:N M):V (N M):=Y (zH fu d<|λc h=>Qc fu c h) λa=>B (min ((X a:J)) (1:J)) λe=>jX e λb=>ck (b<=X a)<|B (a.drop b) λf=>Y (zM fu f) λg=>Z g
def rL(a:N M)(b:N M):V (N M):=Y (xV fu a b) λ(d,e)=>Z d
def qE(b:N M):V ((N M)×J):=Y (XA fu b) λd=>if d=0 then Y (xA fu b) λa=>Y (WO fu a) λe=>Y (Wm fu a e) λf=>Y (rL fu a f) λg=>Z ((g,(0:J)))else Z ([],d)
def XV(g:N M)(a:N (N M)):(((N<|(N M)×J)×J×M×(N<|N M))->V ((N<|(N M)×J)×M))->((N<|(N M)×J)×J×M×(N<|N M))->V ((N<|(N M)×J)×M):=λL (b,d,h,e)=>Y ((if d<(X a:J)then Z ((g,(X a:J),wL))else Z ((g,(X a:J),I)):V ((N M)×J×qR))) λ(j,p,k)=>if k then zI d (X e) λl=>B ((e.getD l [])) λf=>Y (YZ fu j f) λi=>ck ((X b+X ([(f,i)]))*32<=140737488355328)<|B (b++([(f,i)])) λm=>zf (d+1) λo=>L (m,o,h,e)else Z (b,h)
def vD(a:N M)(e:N J):V (M×(N<|(N M)×J)×J):=Y (qE fu a) λ(f,b)=>if b=0 then Y (Q3 fu f e) λ(d,g)=>if !g then Z (((I,[]),[],(6:J)))else Y (zg (XV fu a d) fu<|([],(0:J),(I,[]),d)) λ(h,i)=>Y (wi fu a) λj=>Z ((j,h,(0:J)))else Z (((I,[]),[],b))
def wu(d:N M):V (qR×J):=Y (vD fu d []) λ(g,b,a)=>if a=0 then if(X b:J)=1 then zI 0 (X b) λe=>B (((b.getD e ([],0))).2) λf=>if f=1 then Z (wL,a)else Z (I,a)else Z (I,a)else Z (I,a)
def K0(a:N M):((J×(((N M)×(N<|M×(N K)))×(N<|M×(N K))))->V (((N M)×(N<|M×(N K)))×(N<|M×(N K))))->(J×(((N M)×(N<|M×(N K)))×(N<|M×(N K))))->V (((N M)×(N<|M×(N K)))×(N<|M×(N K))):=λL (d,b)=>Y ((if d<(X a:J)then Z ((a,a,(X a:J),wL))else Z ((a,a,(X a:J),I)):V ((N M)×(N M)×J×qR))) λ(e,f,q,h)=>if h then zI d (X f) λi=>B (f.getD i (I,[])) λj=>zf (((X e:J))-1) λk=>zI k (X e) λl=>B (e.getD l (I,[])) λm=>Y (Yu fu j m) λ(g,r)=>ck ((X b.2+X ([g]))*56<=140737488355328)<|B (b.2++([g])) λo=>zf (d+1) λp=>L ((p,(b.1,o)))else Z (b.1,b.2)
def Vs(d:N M):V ((V<|(N M)×(N<|M×(N K)))×J):=Y (xA fu d) λa=>if 17<(X a:J)then Z (((wF:V ((N M)×(N<|M×(N K)))),(6:J)))else if(X a:J)<2 then Z (((wF:V ((N M)×(N<|M×(N K)))),(7:J)))else Y (wu fu a) λ(e,f)=>if f=0 then if !e then Z (((wF:V ((N M)×(N<|M×(N K)))),(7:J)))else Y (zg (K0 fu a) fu<|((0:J),((a,[]),([]:N (M×(N K)))))) λb=>Z (((Z (b.1.1,b.2)),(0:J)))else Z (((wF:V ((N M)×(N<|M×(N K)))),(6:J)))
def XE(fu:K):((J×J×(N K))->V (N K))->(J×J×(N K))->V (N K):=λL (b,d,a)=>if b<d then zI d (X a) λf=>B ((a.getD f 0)) λg=>zI b (X a) λh=>B ((a.getD h 0)) λi=>zI b (X a) λj=>B (a.set j g) λe=>zI d (X e) λk=>B (e.set k i) λl=>zf (b+1) λm=>zf (d-1) λo=>L (m,o,l)else Z a
def ki(a:N K):V (N K):=zf (((X a:J))-1) λb=>Y (zg (XE fu) fu<|((0:J),b,a)) λd=>Z d
def B0(fu:K)(f:qR):((K×(N K))->V (N K))->(K×(N K))->V (N K):=λL (b,a)=>if(((0:K):K):J)<(b:J)then ck ((10:K)≠0)<|B (b%((10:K))) λg=>B ((((48:K))+g)%18446744073709551616) λh=>B (h%256) λd=>ck ((X a+X ([d]))*1<=140737488355328)<|B (a++([d])) λi=>ck ((10:K)≠0)<|B (b/((10:K))) λj=>L (j,i)else if f then if(X a:J)<19 then ck ((10:K)≠0)<|B (b%((10:K))) λk=>B ((((48:K))+k)%18446744073709551616) λl=>B (l%256) λe=>ck ((X a+X ([e]))*1<=140737488355328)<|B (a++([e])) λm=>ck ((10:K)≠0)<|B (b/((10:K))) λo=>L (o,m)else Z a else Z a
def U7(a:K)(b:qR):V (N K):=Y (zg (B0 fu b) fu (a,[])) λd=>Y (ki fu d) λe=>Z e
def ZU(fu:K):((J×J×(N<|N K))->V (N<|N K))->(J×J×(N<|N K))->V (N<|N K):=λL (b,d,a)=>if b<d then zI d (X a) λf=>B ((a.getD f [])) λg=>zI b (X a) λh=>B ((a.getD h [])) λi=>zI b (X a) λj=>B (a.set j g) λe=>zI d (X e) λk=>B (e.set k i) λl=>zf (b+1) λm=>zf (d-1) λo=>L (m,o,l)else Z a
def qI(a:N (N K)):V (N<|N K):=zf (((X a:J))-1) λb=>Y (zg (ZU fu) fu<|((0:J),b,a)) λd=>Z d
def fU(fu:K)(a:N (N K))(b:N K):V (N K):=ck (X a<=140737488355328)<|ck (X (b.intercalate a)<=140737488355328)<|some (b.intercalate a)
def Mg:(((N K)×(N<|N K))->V (N<|N K))->((N K)×(N<|N K))->V (N<|N K):=λL (d,a)=>if 0<(X d:J)then Y (VJ fu d (10000000000000000000:K)) λ(b,e)=>if 0<(X b:J)then Y (U7 fu e wL) λf=>ck ((X a+X ([f]))*16<=140737488355328)<|B (a++([f])) λh=>L (b,h)else Y (U7 fu e I) λg=>ck ((X a+X ([g]))*16<=140737488355328)<|B (a++([g])) λi=>L (b,i)else Z a
def aN(e:N K):V (N K):=Y (wE fu e) λf=>Y (zg (Mg fu) fu (f,[])) λd=>if(X d:J)=0 then Z [48]else Y (qI fu d) λa=>Y (fU fu a []) λb=>Z b
def tK(b:M×(N K)):V (M×qR):=Y (xE fu b) λa=>Y (Wi fu a.2 [(1:K)]) λd=>if d=0 then Z (a.1,wL)else Z (((I,[]),I))
def cV(a:M):V (N K):=Y (xy fu a) λd=>if d<0 then Y (aN fu a.2) λb=>ck (X ([45])+X b<=9223372036854775807)<|B (([45])++b) λe=>Z e else Y (aN fu a.2) λf=>Z f
def Eu(a:M×(N K)):V (N K):=Y (tK fu a) λ(g,h)=>if h then Y (cV fu g) λi=>Z i else Y (xE fu a) λb=>Y (cV fu b.1) λd=>ck (X d+X ([47])<=9223372036854775807)<|B (d++([47])) λe=>Y (aN fu b.2) λf=>ck (X e+X f<=9223372036854775807)<|B (e++f) λj=>Z j
def W3:V qR:=Y (JM fu [(-2:J),(0:J),(1:J)]) λe=>Y (Vs fu e) λ(a,f)=>if f=0 then if(a).isNone=wL then Z I else Y (vU fu (1:J)) λb=>Y (vU fu (1:J)) λd=>Y (wV fu a [b,d]) λ(g,h)=>Y (VE fu a [b,d]) λ(i,j)=>if h=0 then Y (vU fu (-1:J)) λk=>Y (vU fu (1:J)) λl=>Y (xO fu g [k,l]) λm=>if m then if j=0 then Y (Eu fu i) λo=>if o=[45,49]then Z wL else Z I else Z I else Z I else Z I else Z I
def K8(fu:K)(e:J):((J×J×(N<|N<|M×(N K))×J)->V ((J×J×(N<|N<|M×(N K)))⊕Z9))->(J×J×(N<|N<|M×(N K))×J)->V ((J×J×(N<|N<|M×(N K)))⊕Z9):=λL (f,b,a,d)=>zI e (X a) λi=>B (a.getD i []) λj=>if d<(X j:J)then zI e (X a) λk=>B (a.getD k []) λg=>zI d (X g) λl=>B (g.getD l<|((I,[]),[])) λm=>if b<(X m.1.2:J)then Z (.inr ())else zI e (X a) λo=>B (a.getD o []) λh=>zI d (X h) λp=>B (h.getD p<|((I,[]),[])) λq=>if b<(X q.2:J)then Z (.inr ())else zf (d+1) λr=>L (f,b,a,r)else Z (.inl (f,b,a))
def KT(d:J)(e:J)(a:N (N<|M×(N K))):(J->V (Z9⊕Z9))->J->V (Z9⊕Z9):=λL b=>if b<(X a:J)then zI b (X a) λf=>B (a.getD f []) λg=>if d<(X g:J)then Z (.inr ())else Y (zg (K8 fu b) fu<|(d,e,a,(0:J))) λh=>match h with
 |.inl (j,k,l)=>zf (b+1) λi=>L i
 |.inr _=>Z (.inr ())else Z (.inl ())
def Vh(a:J)(b:J)(d:N (N<|M×(N K))):V qR:=Y (zg (KT fu a b d) fu (0:J)) λe=>match e with
 |.inl _=>Z wL
 |.inr _=>Z I
def Uf(fu:K)(a:N M):(J->V (Z9⊕Z9))->J->V (Z9⊕Z9):=λL b=>if b<(X a:J)then zI b (X a) λe=>B (a.getD e (I,[])) λf=>if 1<(X f.2:J)then Z (.inr ())else zI b (X a) λg=>B (a.getD g (I,[])) λh=>if(X h.2:J)=1 then zI b (X a) λi=>B (a.getD i (I,[])) λd=>zI 0 (X d.2) λj=>B (d.2.getD j 0) λk=>if(((1000:K):K):J)<(k:J)then Z (.inr ())else zf (b+1) λl=>L l else zf (b+1) λm=>L m else Z (.inl ())
def Kg(a:N M):V qR:=if 5<(X a:J)then Z I else Y (zg (Uf fu a) fu (0:J)) λb=>match b with
 |.inl _=>Z wL
 |.inr _=>Z I
def eE(fu:K)(b:N K):(J->V J)->J->V J:=λL a=>if 0<a then zf (a-1) λd=>zI d (X b) λe=>B (b.getD e 0) λf=>if(f:J)=(((0:K):K):J)then zf (a-1) λg=>L g else Z a else Z a
def YW(a:N K):V (N K):=Y (zg (eE fu a) fu<|(X a:J)) λe=>jX e λb=>ck (b<=X a)<|B (a.take b) λd=>ck ((X (([]:N K))+X d)*8<=140737488355328)<|B ((([]:N K))++d) λf=>Z f
def y8(b:M):V M:=Y (YW fu b.2) λa=>if b.1=wL then if 0<(X a:J)then Z (wL,a)else Z (I,a)else Z (I,a)
def VA(a:M):V M:=Y (y8 fu (I,a.2)) λb=>Z b
def qq(fu:K)(a:N K)(b:J):V K:=if b<(X a:J)then zI b (X a) λd=>B (a.getD d 0) λe=>Z e else Z (0:K)
def iX(fu:K)(b:N K):(J->V J)->J->V J:=λL a=>if 0<a then zf (a-1) λd=>zI d (X b) λe=>B (b.getD e 0) λf=>if(f:J)=(((0:K):K):J)then zf (a-1) λg=>L g else Z a else Z a
def YG(a:N K):V (N K):=Y (zg (iX fu a) fu<|(X a:J)) λd=>jX d λb=>ck (b<=X a)<|B (a.take b) λe=>Z e
def Wy(fu:K)(a:N K):(((N K)×J)->V (N K))->((N K)×J)->V (N K):=λL (d,b)=>if b<(X a:J)then zI b (X a) λg=>B (a.getD g 0) λh=>B (h &&& ((4294967295:K))) λe=>zI b (X a) λi=>B (a.getD i 0) λj=>B (j/2^(min (((32:K)):J).toNat 64)) λf=>ck ((X d+X ([e,f]))*8<=140737488355328)<|B (d++([e,f])) λk=>zf (b+1) λl=>L (k,l)else Z d
def xK(a:N K):V (N K):=Y (zg (Wy fu a) fu<|([],(0:J))) λb=>Y (YG fu b) λd=>Z d
def VZ(fu:K)(a:N K):(((N K)×J)->V (N K))->((N K)×J)->V (N K):=λL (d,b)=>if b<(X a:J)then zI b (X a) λg=>B (a.getD g 0) λe=>zf (b+1) λh=>if h<(X a:J)then zf (b+1) λi=>zI i (X a) λj=>B (a.getD j 0) λk=>B (k*2^(min (((32:K)):J).toNat 64)%18446744073709551616) λl=>B ((e+l)%18446744073709551616) λf=>ck ((X d+X ([f]))*8<=140737488355328)<|B (d++([f])) λm=>zf (b+2) λo=>L (m,o)else ck ((X d+X ([e]))*8<=140737488355328)<|B (d++([e])) λp=>zf (b+2) λq=>L (p,q)else Z d
def qg(a:N K):V (N K):=Y (zg (VZ fu a) fu<|([],(0:J))) λb=>Y (YW fu b) λd=>Z d
def im(d:N K)(e:N K):(((N K)×K×J)->V (N K))->((N K)×K×J)->V (N K):=λL (b,h,a)=>B (max ((X d:J))<|(X e:J)) λi=>zf (i+1) λj=>if a<j then Y (qq fu d a) λk=>Y (qq fu e a) λl=>B ((k+l)%18446744073709551616) λm=>B ((m+h)%18446744073709551616) λf=>B (f &&& ((4294967295:K))) λg=>ck ((X b+X ([g]))*8<=140737488355328)<|B (b++([g])) λo=>B (f/2^(min (((32:K)):J).toNat 64)) λp=>zf (a+1) λq=>L (o,p,q)else Z b
def Vj(a:N K)(b:N K):V (N K):=Y (xK fu a) λd=>Y (xK fu b) λe=>Y (zg (im fu d e) fu<|([],(0:K),(0:J))) λf=>Y (qg fu f) λg=>Z g
def Xd(b:N K)(d:N K):(J->V (Z9⊕J))->J->V (Z9⊕J):=λL a=>if 0<=a then Y (qq fu b a) λe=>Y (qq fu d a) λf=>if(e:J)<(f:J)then Z (.inr (-1:J))else Y (qq fu b a) λg=>Y (qq fu d a) λh=>if(h:J)<(g:J)then Z (.inr (1:J))else zf (a-1) λi=>L i else Z (.inl ())
def kV(a:N K)(b:N K):V J:=B (max ((X a:J))<|(X b:J)) λd=>zf (d-1) λe=>Y (zg (Xd fu a b) fu e) λf=>match f with
 |.inl _=>Z (0:J)
 |.inr g=>Z g
def JO(d:N K)(g:N K):(((N K)×K×J)->V (N K))->((N K)×K×J)->V (N K):=λL (b,h,a)=>if a<(X d:J)then Y (qq fu d a) λi=>B ((i+((4294967296:K)))%18446744073709551616) λj=>Y (qq fu g a) λk=>B ((j+18446744073709551616-k)%18446744073709551616) λl=>B ((l+18446744073709551616-h)%18446744073709551616) λe=>B (e &&& ((4294967295:K))) λf=>ck ((X b+X ([f]))*8<=140737488355328)<|B (b++([f])) λm=>B (e/2^(min (((32:K)):J).toNat 64)) λo=>B ((((1:K))+18446744073709551616-o)%18446744073709551616) λp=>zf (a+1) λq=>L (m,p,q)else Z b
def Xi(a:N K)(b:N K):V (N K):=Y (zg (JO fu a b) fu<|([],(0:K),(0:J))) λd=>Y (YG fu d) λe=>Z e
def Ue(fu:K)(a:N K):(((N K)×(N K)×(N K)×K×J)->V ((N K)×(N K)×(N K)×K))->((N K)×(N K)×(N K)×K×J)->V ((N K)×(N K)×(N K)×K):=λL (e,f,d,g,b)=>if b<(X a:J)then zI b (X a) λi=>B (a.getD i 0) λj=>B ((j*((2:K)))%18446744073709551616) λk=>B ((k+g)%18446744073709551616) λl=>B (l &&& ((4294967295:K))) λh=>ck ((X d+X ([h]))*8<=140737488355328)<|B (d++([h])) λm=>zI b (X a) λo=>B (a.getD o 0) λp=>B (p/2^(min (((31:K)):J).toNat 64)) λq=>zf (b+1) λr=>L (e,f,m,q,r)else Z (e,f,d,g)
def Uc(r:N K)(g:N K):(((N K)×J×(N K))->V ((N K)×(N K)))->((N K)×J×(N K))->V ((N K)×(N K)):=λL (m,a,d)=>if 0<=a then ck ((32:J)≠0)<|zf (xdE a (32:J)) λs=>zI s (X g) λt=>nm (g.getD t 0) λu=>ck ((32:J)≠0)<|nm (xcv a (32:J)) λo=>ck (0<=o)<|nm (u/2^(min (o:J).toNat 64)) λv=>nm (v &&& ((1:K))) λw=>Y (zg (Ue fu m) fu<|(r,g,[],w,(0:J))) λ(e,y,f,p)=>ck ((X f+X ([p]))*8<=140737488355328)<|nm (f++([p])) λh=>Y (YG fu h) λb=>Y ((Y (kV fu b e) λA=>if(0:J)<=A then Z wL else Z I:V qR)) λB=>if B then Y (Xi fu b e) λi=>ck ((32:J)≠0)<|zf (xdE a (32:J)) λC=>ck ((32:J)≠0)<|zf (xdE a (32:J)) λE=>zI E (X d) λG=>nm ((d.getD G 0)) λH=>ck ((32:J)≠0)<|nm (xcv a (32:J)) λq=>ck (0<=q)<|nm (((1:K))*2^(min (q:J).toNat 64)%18446744073709551616) λm8=>nm (H|||m8) λc=>zI C (X d) λn=>nm (d.set n c) λj=>zf (a-1) λk=>L (i,k,j)else zf (a-1) λl=>L (b,l,d)else Z (m,d)
def Kd(i:N K)(j:N K):V ((N K)×(N K)×J):=Y (xK fu j) λg=>if(X g:J)=0 then Z (([],[],(3:J)))else Y (xK fu i) λa=>jX ((X a:J)) λh=>ck (8*h<=281474976710656)<|B (xaa h 0) λk=>zf ((32:J)*((X a:J))) λl=>zf (l-1) λm=>Y (zg (Uc fu g a) fu ([],m,k)) λ(b,d)=>Y (qg fu d) λe=>Y (qg fu b) λf=>Z<|(e,f,(0:J))
def YD(d:N K)(e:N K):V ((N K)×J):=Y (xK fu d) λa=>Y (xK fu e) λb=>Y (kV fu a b) λf=>if f<0 then Z (([],(1:J)))else Y (Xi fu a b) λg=>Y (qg fu g) λh=>Z<|(h,(0:J))
def Vr(b:M)(d:M):V (M×M×J):=Y (Kd fu b.2 d.2) λ(e,a,f)=>if f=0 then Y ((if b.1=wL then if 0<(X a:J)then Y (Vj fu e [(1:K)]) λg=>Y (YD fu d.2 a) λ(h,o)=>Z (g,h)else Z (e,a)else Z (e,a):V ((N K)×(N K)))) λ(i,j)=>B (!(b.1==d.1)) λk=>Y (y8 fu (k,i)) λl=>Y (y8 fu (I,j)) λm=>Z ((l,m,(0:J)))else Z (((I,[]),(I,[]),f))
def Zq(b:M):V J:=Y (y8 fu b) λa=>if a.1=wL then Z (-1:J)else if 0<(X a.2:J)then Z (1:J)else Z (0:J)
def ib:((M×M)->V M)->(M×M)->V M:=λL (b,a)=>Y (Zq fu a) λd=>if d=0 then Z b else Y (Vr fu b a) λ(f,e,g)=>L (a,e)
def J2(a:M)(b:M):V M:=Y (VA fu a) λd=>Y (VA fu b) λe=>Y (zg (ib fu) fu (d,e)) λf=>Z f
def Ka(a:M):V M:=Y (y8 fu<|((!a.1),a.2)) λb=>Z b
def JA(a:J):V M:=if a<0 then zf (0-a) λb=>B (Cr b) λd=>Y (y8 fu (wL,[d])) λe=>Z e else B (Cr a) λf=>Y (y8 fu (I,[f])) λg=>Z g
def cD(b:N M):(J->V J)->J->V J:=λL a=>if 0<a then zf (a-1) λd=>zI d (X b) λe=>B (b.getD e (I,[])) λf=>Y (Zq fu f) λg=>if g=0 then zf (a-1) λh=>L h else Z a else Z a
def eD(d:N M)(f:J):(((N M)×J)->V (N M))->((N M)×J)->V (N M):=λL (a,b)=>if b<f then zI b (X d) λg=>B (d.getD g (I,[])) λh=>Y (y8 fu h) λe=>ck ((X a+X ([e]))*32<=140737488355328)<|B (a++([e])) λi=>zf (b+1) λj=>L (i,j)else Z a
def vA(a:N M):V (N M):=Y (zg (cD fu a) fu<|(X a:J)) λb=>Y (zg (eD fu a b) fu<|([],(0:J))) λd=>Z d
def Ku(a:N M):((J×M)->V M)->(J×M)->V M:=λL (b,d)=>if b<(X a:J)then zI b (X a) λe=>B ((a.getD e (I,[]))) λf=>Y (J2 fu d f) λg=>zf (b+1) λh=>L (h,g)else Z d
def Yf(d:N M):V M:=Y (vA fu d) λa=>Y (JA fu (0:J)) λe=>Y (zg (Ku fu a) fu<|((0:J),e)) λb=>if 0<(X a:J)then zf (((X a:J))-1) λf=>zI f (X a) λg=>B (((a.getD g (I,[]))).1) λh=>if h then Y (Ka fu b) λi=>Z i else Z b else Z b
def W0(b:M)(d:M):V (M×J):=Y (Vr fu b d) λ(e,f,a)=>if a=0 then Y (Zq fu f) λg=>if g=0 then Z ((e,(0:J)))else Z (((I,[]),(4:J)))else Z (((I,[]),a))
def Vn(a:M)(b:M):V M:=B (a.1==b.1) λd=>if d then Y (Vj fu a.2 b.2) λe=>Y (y8 fu (a.1,e)) λf=>Z f else Y (YD fu a.2 b.2) λ(g,h)=>if h=0 then Y (y8 fu (a.1,g)) λi=>Z i else Y (YD fu b.2 a.2) λ(j,l)=>Y (y8 fu (b.1,j)) λk=>Z k
def Ju(fu:K)(a:N M)(b:J):V M:=if 0<=b then if b<(X a:J)then zI b (X a) λd=>B (a.getD d (I,[])) λe=>Z e else Z (I,[])else Z (I,[])
def iL(d:N M)(e:N M):(((N M)×J)->V (N M))->((N M)×J)->V (N M):=λL (b,a)=>B (max ((X d:J))<|(X e:J)) λg=>if a<g then Y (Ju fu d a) λh=>Y (Ju fu e a) λi=>Y (Vn fu h i) λf=>ck ((X b+X ([f]))*32<=140737488355328)<|B (b++([f])) λj=>zf (a+1) λk=>L (j,k)else Z b
def Vq(a:N M)(b:N M):V (N M):=Y (zg (iL fu a b) fu<|([],(0:J))) λd=>Y (vA fu d) λe=>Z e
def KU(fu:K)(f:J):(((N K)×(N K)×K×J×(N K))->V ((N K)×(N K)×K×(N K)))->((N K)×(N K)×K×J×(N K))->V ((N K)×(N K)×K×(N K)):=λL (e,a,g,b,d)=>if b<(X a:J)then zI f (X e) λi=>B (e.getD i 0) λj=>zI b (X a) λk=>B (a.getD k 0) λl=>B ((j*l)%18446744073709551616) λm=>zf (f+b) λo=>zI o (X d) λp=>B ((d.getD p 0)) λq=>B ((m+q)%18446744073709551616) λr=>B ((r+g)%18446744073709551616) λh=>zf (f+b) λs=>B (h &&& ((4294967295:K))) λt=>zI s (X d) λu=>B (d.set u t) λv=>B (h/2^(min (((32:K)):J).toNat 64)) λw=>zf (b+1) λy=>L (e,a,w,y,v)else Z (e,a,g,d)
def KY(f:N K)(h:N K):((J×(N K))->V (N K))->(J×(N K))->V (N K):=λL (b,g)=>if b<(X f:J)then Y (zg (KU fu b) fu<|(f,h,(0:K),(0:J),g)) λ(m,d,i,a)=>zf (b+((X d:J))) λj=>zI j (X a) λk=>B (a.set k i) λe=>zf (b+1) λl=>L (l,e)else Z g
def Kb(g:N K)(h:N K):V (N K):=Y (xK fu g) λd=>Y (xK fu h) λe=>zf (((X d:J))+((X e:J))) λi=>jX i λf=>ck (8*f<=281474976710656)<|B (xaa f 0) λj=>Y (zg (KY fu d e) fu<|((0:J),j)) λa=>Y (qg fu a) λb=>Z b
def YB(a:M)(b:M):V M:=B (!(a.1==b.1)) λd=>Y (Kb fu a.2 b.2) λe=>Y (y8 fu (d,e)) λf=>Z f
def ie(f:J):(((N M)×(N M)×J×(N M))->V ((N M)×(N M)×(N M)))->((N M)×(N M)×J×(N M))->V ((N M)×(N M)×(N M)):=λL (e,a,b,d)=>if b<(X a:J)then zf (f+b) λg=>zf (f+b) λh=>zI h (X d) λi=>B ((d.getD i (I,[]))) λj=>zI f (X e) λk=>B (e.getD k (I,[])) λl=>zI b (X a) λm=>B (a.getD m (I,[])) λo=>Y (YB fu l o) λp=>Y (Vn fu j p) λq=>zI g (X d) λr=>B (d.set r q) λs=>zf (b+1) λt=>L (e,a,t,s)else Z (e,a,d)
def iQ(b:N M)(e:N M):((J×(N M))->V (N M))->(J×(N M))->V (N M):=λL (a,d)=>if a<(X b:J)then Y (zg (ie fu a) fu<|(b,e,(0:J),d)) λ(h,i,f)=>zf (a+1) λg=>L (g,f)else Z d
def Km(d:N M)(e:N M):V (N M):=zf (((X d:J))+((X e:J))) λg=>jX g λf=>ck (32*f<=281474976710656)<|B (xaa f (I,[])) λh=>Y (zg (iQ fu d e) fu<|((0:J),h)) λa=>Y (vA fu a) λb=>Z b
def b9(a:N M)(f:M):(((N M)×J)->V (N M))->((N M)×J)->V (N M):=λL (b,d)=>if d<(X a:J)then zI d (X a) λg=>B (a.getD g (I,[])) λh=>Y (YB fu h f) λe=>ck ((X b+X ([e]))*32<=140737488355328)<|B (b++([e])) λi=>zf (d+1) λj=>L (i,j)else Z b
def WQ(a:N M)(b:M):V (N M):=Y (zg (b9 fu a b) fu<|([],(0:J))) λd=>Y (vA fu d) λe=>Z e
def Kh(a:N M)(b:N M):V (N M):=Y (JA fu (-1:J)) λd=>Y (WQ fu b d) λe=>Y (Vq fu a e) λf=>Z f
def iR:(((N M)×(N M)×(N M))->V ((N M)⊕Z9))->((N M)×(N M)×(N M))->V ((N M)⊕Z9):=λL (a,b,e)=>if 0<(X b:J)then zf (((X b:J))-((X a:J))) λf=>zf (((X b:J))-1) λk=>zI k (X b) λl=>B ((b.getD l (I,[]))) λm=>zf (((X a:J))-1) λo=>zI o (X a) λp=>B (a.getD p (I,[])) λq=>Y (W0 fu m q) λ(g,r)=>if f<0 then Z (.inr ())else if r=0 then jX f λh=>ck (32*h<=281474976710656)<|B (xaa h (I,[])) λi=>ck ((X i+X ([g]))*32<=140737488355328)<|B (i++([g])) λj=>Y (Vq fu e j) λs=>Y (Km fu j a) λt=>Y (Kh fu b t) λd=>L (a,d,s)else Z (.inr ())else Z (.inl e)
def J3(d:N M)(e:N M):V ((N M)×J):=Y (vA fu e) λb=>if(X b:J)=0 then Z (([],(3:J)))else Y (vA fu d) λf=>Y (zg (iR fu) fu (b,f,[])) λg=>match g with
 |.inl a=>Z<|(a,(0:J))
 |.inr _=>Z<|([],(4:J))
def QF(b:N M):V (N M):=Y (vA fu b) λa=>if(X a:J)=0 then Z []else Y (Yf fu a) λd=>Y (J3 fu a [d]) λ(e,f)=>Z e
def Xo(a:N M):V ((V<|(N M)×(N<|M×(N K)))×(N M)):=Y (Kg fu a) λb=>if !b then Z (((wF:V ((N M)×(N<|M×(N K)))),[]))else Y (Vs fu a) λ(d,e)=>if e=0 then Y (QF fu a) λf=>Z (d,f)else Z (((wF:V ((N M)×(N<|M×(N K)))),[]))
def jx(fu:K)(b:N M):(((N<|M×(N K))×J)->V (N<|M×(N K)))->((N<|M×(N K))×J)->V (N<|M×(N K)):=λL (a,d)=>if d<(X b:J)then zI d (X b) λh=>B ((b.getD h (I,[]))) λg=>ck ((X a+X ([(g,[(1:K)])]))*56<=140737488355328)<|B (a++([(g,[(1:K)])])) λe=>zf (d+1) λf=>L (e,f)else Z a
def uC(y:xS Zr)(f:xS (Zr×(xS wr)))(h:xS (Zr×(xS wr)))(i:xS (Zr×(xS wr))):ww qR:=bd (W3 fu) λj=>bd (Xo fu y) λ(d,A)=>if(d).isNone=wL then Z j else bd (Vh fu (5:J) (1:J) [f,h,i]) λB=>if !B then Z j else bd (yN fu d f h) λ(k,F)=>bd (yN fu d h f) λ(C,L)=>bd (yN fu d h i) λ(E,T)=>bd (yN fu d k i) λ(G,x4)=>bd (yN fu d f E) λ(H,x5)=>bd (wK fu d h i) λ(c,x6)=>bd (yN fu d f c) λ(n,x7)=>bd (yN fu d f i) λ(K,x8)=>bd (wK fu d k K) λ(l,x9)=>bd (wO fu d f) λ(e,M)=>bd (wK fu d f h) λ(m,N)=>bd (q9 fu d m h) λ(o,a0)=>bd (wV fu d f) λ(p,q)=>bd (yN fu d f p) λ(g,P)=>bd (zg (jx fu A) fu<|([],(0:J))) λr=>bd (wO fu d r) λ(a,b)=>if j then bd (xO fu k C) λQ=>if Q then bd (xO fu G H) λR=>if R then bd (xO fu n l) λS=>if S then bd (xO fu o e) λU=>if U then if q=3 then if(lM e:J)=0 then nm (wL==wL) λV=>if V then if(lM e:J)=0 then if b=0 then if(lM a:J)=0 then Z wL else Z I else Z I else bd (vU fu (1:J)) λW=>bd (xO fu g [W]) λX=>if X then if b=0 then if(lM a:J)=0 then Z wL else Z I else Z I else Z I else Z I else nm (wL==I) λY=>if Y then if(lM e:J)=0 then if b=0 then if(lM a:J)=0 then Z wL else Z I else Z I else bd (vU fu (1:J)) λx=>bd (xO fu g [x]) λs=>if s then if b=0 then if(lM a:J)=0 then Z wL else Z I else Z I else Z I else Z I else if(lM e:J)=0 then nm (I==wL) λt=>if t then if(lM e:J)=0 then if b=0 then if(lM a:J)=0 then Z wL else Z I else Z I else bd (vU fu (1:J)) λz=>bd (xO fu g [z]) λu=>if u then if b=0 then if(lM a:J)=0 then Z wL else Z I else Z I else Z I else Z I else nm (I==I) λv=>if v then if(lM e:J)=0 then if b=0 then if(lM a:J)=0 then Z wL else Z I else Z I else bd (vU fu (1:J)) λD=>bd (xO fu g [D]) λw=>if w then if b=0 then if(lM a:J)=0 then Z wL else Z I else Z I else Z I else Z I else Z I else Z I else Z I else Z I else Z I
end
end
section
set_option maxRecDepth 100000
section
open Go.Proofs.Tryz
variable(fu:wr)
def vL:yb ⟨87,[.d (.po (.w1 (.p yH (.l (.p Q yq)))))],[.d .b],λx=>xz fu x.1,0⟩:=sq fu wH func87<|cN
def C6:yb ⟨184,[.d yq,.d .i],[.d .u],λx=>Vu fu x.1 x.2.1,0⟩:=sq fu wH func184<|cN
def Rz:yb ⟨183,[.d .i,.d .u,.q yq,.q yq],[.d .u,.d .u],λx=>eR fu x.1 x.2.1 x.2.2.1 x.2.2.2.1,0⟩:=sq fu wH func183<|D (C6 fu)<|cN
def ZV:yb ⟨182,[.d .i,.fn [.i,.u] [.u,.u]],[.own .u 73,.d .u],λx=>qf fu x.1<|λz0 a=>x.2.1 (z0,a,()),0⟩:=sq fu ⟨[],[],[(4,q1 [(7,.d .u),(13,.d .i),(6,.own .u 73)] 0 [(7,.d .u),(6,.own .u 73)])],[],[],[],[]⟩ func182<|cN
def wZ:yb ⟨136,[.d yq],[.d yq],λx=>wE fu x.1,0⟩:=sq fu ⟨[],[],[(1,q1 [(0,.d yq)] 0 [(0,.d yq)])],[],[],[],[]⟩ func136<|cN
def xb:yb ⟨136,[.own .u 73],[.own .u 73],λx=>xr fu x.1,0⟩:=sq fu ⟨[],[],[(1,q1 [(0,.own .u 73)] 0 [(0,.own .u 73)])],[],[],[],[]⟩ func136<|cN
def rK:yb ⟨139,[.d yq,.d yq],[.own .u 73],λx=>Zu fu x.1 x.2.1,0⟩:=sq fu wH func139<|D (xb fu)<|D (wZ fu)<|D (ZV fu)<|D (Rz fu)<|cN
def NN:yb ⟨225,[.d .i,.d .u,.q yq,.q yq],[.d .u,.d .u],λx=>eK fu x.1 x.2.1 x.2.2.1 x.2.2.2.1,0⟩:=sq fu wH func225<|D (C6 fu)<|cN
def sG:yb ⟨181,[.d yq,.d yq],[.own .u 73,.d .i],λx=>Ja fu x.1 x.2.1,0⟩:=sq fu wH func181<|D (xb fu)<|D (wZ fu)<|D (NN fu)<|D (ZV fu)<|cN
def Ev:yb ⟨138,[.d yq,.d yq],[.own .u 73],λx=>Wo fu x.1 x.2.1,0⟩:=sq fu wH func138<|D (sG fu)<|cN
def tW:yb ⟨140,[.d yq,.d .i],[.own .u 73],λx=>YC fu x.1 x.2.1,0⟩:=sq fu wH func140<|cN
def KN:yb ⟨224,[.d .u,.d .u],[.d .u,.d .u],λx=>qP fu x.1 x.2.1,0⟩:=sq fu wH func224<|cN
def Pn:yb ⟨223,[.d .i,.d .u,.q yq,.q .u],[.d .u,.d .u],λx=>fM fu x.1 x.2.1 x.2.2.1 x.2.2.2.1,0⟩:=sq fu wH func223<|D (KN fu)<|cN
def FO:yb ⟨179,[.d yq,.d .u],[.own .u 73],λx=>Q9 fu x.1 x.2.1,0⟩:=sq fu wH func179<|D (ZV fu)<|D (Pn fu)<|cN
def LF:yb ⟨137,[.d yq,.d yq],[.own .u 73],λx=>QC fu x.1 x.2.1,0⟩:=sq fu ⟨[],[(262149,⟨[5],[(.n,⟨[(0,.d yq),(18,.d yq),(19,.d .i),(21,.d .b)],[]⟩)]⟩),(524297,⟨[5,27],[(.n,⟨[(0,.d yq),(6,.d .i),(18,.d yq),(19,.d .i),(20,.d .i),(28,.d .i),(30,.d .b)],[]⟩)]⟩)],[(3,q1 [(20,.d .i),(5,.own .u 73)] 0 [(5,.own .u 73)]),(7,q1 [(8,.d .u),(29,.d .i),(5,.own .u 73),(27,.own .u 73)] 2 [(5,.own .u 73)])],[],[],[],[]⟩ func137<|D (xb fu)<|D (wZ fu)<|D (FO fu)<|cN
def zcK:VM:=⟨90,[.d yq,.d yq],[.own .u 73],λx=>uh fu x.1 x.2.1,0⟩
def UC:∀fu:K,yb (zcK fu)
 |0=>sg0 i8 λ_=>O
 |fu+1=>sq fu wH func90<|D (xb fu)<|D (wZ fu)<|D (LF fu)<|D (Ev fu)<|D (rK fu)<|D (tW fu)<|D (UC fu)<|cN
def Ae:yb ⟨234,[.d .i],[.d .b],λx=>Z7 fu x.1,0⟩:=sq fu wH func234<|cN
def pV:yb ⟨195,[.d .i,.d .i],[.d .i],λx=>uF fu x.1 x.2.1,0⟩:=sq fu wH func195<|D (Ae fu)<|cN
def mx:yb ⟨235,[.d .u],[.d .b],λx=>kF fu x.1,0⟩:=sq fu wH func235<|cN
def eo:yb ⟨196,[.d .u,.d .u],[.d .i],λx=>qX fu x.1 x.2.1,0⟩:=sq fu wH func196<|D (mx fu)<|cN
def sj:yb ⟨160,[.d yq,.d yq],[.d .i],λx=>Wi fu x.1 x.2.1,0⟩:=sq fu ⟨[],[],[(5,⟨⟨[(5,.d .i)],[]⟩,⟨[],[(.x 0,⟨[],[]⟩),(.r,⟨[(4,.d .i)],[]⟩)]⟩⟩)],[],[],[],[]⟩ func160<|D (xb fu)<|D (wZ fu)<|D (pV fu)<|D (eo fu)<|cN
set_option maxRecDepth 100000 in
set_option maxHeartbeats 1000000 in
def V7(l:N K)(v0:wN)(c:X l<=17592186044416):Fn Tryz.prog 190 [v0].toArray [fV (eS eU) (l) v0] (λu:wN=>u) (λu=>[fV (eS eU) (l) u]) (λ_=>XS):=by
 refine Ny func190 O O λwe Se rest=> ?_;refine zdG (λS w h=>zlO h.1) λhc=> ?_;refine zdG (λS w h=>zeJ h.1) λhd=> ?_;refine Vp ?_;refine vS ?_;refine HF 1 [(0,v0)] O λrest=> ?_;refine kS ?_;refine Vp ?_;refine Vp ?_;refine vS ?_;refine HF 1 [(0,v0),(3,v0)] O λrest=> ?_;refine zir O O (zj4 (e:=eU) (xs:=l) Tryz.underlying42 O O<|λS w h=>h.1) λq1 d=> ?_;refine HF 0 [(0,v0),(4,.bool<|q1)] O λrest=> ?_;refine kS ?_;refine zlG (q1) O (λb=> ?_)<|λb=> ?_
 ·refine Vp ?_;refine vS ?_;refine HF 1 [(2,.slice wF 0 0)] O λrest=> ?_;refine kS ?_;refine zbe ?_;exact zjQ (.slice wF 0 0:wN) Tryz.results190 O wR<|λS w h=>⟨(cvt (show([])=(l)from by first|rfl|simp_all) zdP),wR⟩
 ·refine H6 ?_;refine Vp ?_;refine vS ?_;refine zd2 (e:=eU) O O Tryz.underlying42 zoI λv1=> ?_;refine HF 1 [(5,v1),(6,v0)] O λrest=> ?_;refine zcO (e:=eU) (xs:=[]) (ys:=l) 0 O O Tryz.underlying42 zoI O i0 O O O (λS w h=>h.1) (by first|lia|(simp only[xbP,xaw,xaM,xax,xav,xbX];lia)|(simp;lia)) (by first|lia|(simp only[xbP,xaw,xaM,xax,xav,xbX];lia)|(simp;lia)) λa=> ?_;show TL _ _ _ _ [mO eU 73 a<|[]++l] _ _ _ _ _;refine HF 1 [(2,a)] O λrest=> ?_;refine kS ?_;refine zbe ?_;refine zdc (λw h=>MC 0 h O) ?_;exact zjQ a Tryz.results190 O wR<|λS w h=>⟨(cvt (show([]++l)=(l)from by first|rfl|simp_all) h.1),wR⟩
def VS(a0:N K)(a:wN)(r0:N K)(H:wm fu a0=Z r0):Fn Tryz.prog 190 [a].toArray [fV (eS eU) (a0) a] (λu:wN=>u) (λu=>[fV (eS eU) (r0) u]) (λ_=>XS):=by
 have⟨b,H⟩:=Zo H;obtain rfl:=zmh H;exact V7 a0 a b
def Qg:yb ⟨190,[.d yq],[.d yq],λx=>wm fu x.1,0⟩:=znl (s:=yq) (t:=yq) i8 λx r v h=>VS fu x v r h
def lR:yb ⟨157,[.d yq],[.d yq],λx=>Yn fu x.1,0⟩:=sq fu wH func157<|D (xb fu)<|D (wZ fu)<|D (Qg fu)<|cN
def Pw:yb ⟨264,[.d .i,.d .u,.q yq,.q .i],[.d .u,.d .u],λx=>de fu x.1 x.2.1 x.2.2.1 x.2.2.2.1,0⟩:=sq fu wH func264<|cN
def sF:yb ⟨218,[.d yq,.d .i],[.own .u 73,.d .i],λx=>Wc fu x.1 x.2.1,0⟩:=sq fu ⟨[],[],[],[(4,[23])],[],[],[]⟩ func218<|D (Pw fu)<|D (tW fu)<|D (xb fu)<|D (wZ fu)<|D (ZV fu)<|cN
def Nr:yb ⟨265,[.d .i,.d .u,.q yq,.q .i],[.d .u,.d .u],λx=>eV fu x.1 x.2.1 x.2.2.1 x.2.2.2.1,0⟩:=sq fu wH func265<|D (C6 fu)<|cN
def Gw:yb ⟨220,[.d yq,.d .i],[.own .u 73],λx=>Uw fu x.1 x.2.1,0⟩:=sq fu ⟨[2,3],[],[],[],[],[],[]⟩ func220<|D (xb fu)<|D (wZ fu)<|D (Nr fu)<|D (ZV fu)<|cN
set_option maxRecDepth 100000 in
set_option maxHeartbeats 1000000 in
def pX(fu:K)(a0:K)(b:aw a0)(r0:J)(H:xX fu a0=Z r0):Fn Tryz.prog 263 [uv a0].toArray [] (λ_:Z9=>iv<|r0) (λ_=>[]) (λ_=>KH r0):=by
 unfold xX at H;refine Ny func263 O O λwe Se rest=>Vp<|vS<|Xe 1 [(2,iv 0)] O<|kS<|Vp ?_
 have⟨B,d,e⟩:=r9 H;refine T_X [(.n,JQ we Se (G:=K×J) (λ(d1,i1)=>(⟨[],[],[(0,uv d1),(2,iv<|i1)]⟩:Inv))<|λ(d1,i1)=>(d1,i1)=B/\aw d1/\KH i1)] ?_ ⟨?_,wR⟩
 ·replace H:=d
  refine Vp<|vS<|Xe 1 [(3,uv a0)] O<|SP O O O O (λh1=> ?_) (λh1=> ?_)
  ·replace H:=zmY h1 H
   refine kS<|J6 O<|Vp<|vS<|Xe 1 [(5,uv a0)] O ?_
   have⟨f,r,H⟩:=xR H
   refine ZL O O (DU (c:=(f:J)) O O (xdm _)<|zb3 r<|pR (a:=a0))<|Xe 1 [(0,uv f)] O<|kS<|vS<|Xe 1 [(2,iv 32)] O<|kS ?_
   exact zbY (f,32) (xfK (xdI H)<|xfK (Dt b r) (i0:KH (32))) O<|λw h=>St.weak h<|λS w h=>wR
  replace H:=zmZ h1 H
  refine kS<|Q1 O<|H6 ?_
  exact zbY (a0,0) (xfK (xdI H)<|xfK b (i0:KH (0))) O<|λw h=>St.weak h<|λS w h=>wR
 refine zeT ?_;rintro⟨d1,i1⟩ ⟨g,hi,hn⟩ rest;subst g;replace H:=e;clear d;refine zk5 O<|Vp ?_
 have⟨C,d,e⟩:=r9 H;refine T_X [(.n,JQ we Se (G:=K×J) (λ(d2,i2)=>(⟨[],[],[(0,uv d2),(2,iv<|i2)]⟩:Inv))<|λ(d2,i2)=>(d2,i2)=C/\aw d2/\KH i2)] ?_ ⟨?_,wR⟩
 ·replace H:=d
  refine Vp<|vS<|Xe 1 [(7,uv d1)] O<|SP O O O O (λi=> ?_) (λi=> ?_)
  ·replace H:=zmY i H
   refine kS<|J6 O<|Vp<|vS<|Xe 1 [(9,uv d1)] O ?_
   have⟨j,s,H⟩:=xR H
   refine ZL O O (DU (c:=(j:J)) O O (xdm _)<|zb3 s<|pR (a:=d1))<|Xe 1 [(0,uv j)] O<|kS<|vS<|Xe 1 [(11,iv<|i1)] O ?_
   have⟨k,D,t,H⟩:=Jm H
   refine ZL O O (Ef (c:=k) O O<|w_x D t)<|Xe 1 [(2,iv<|k)] O<|kS ?_
   exact zbY (j,k) (xfK (xdI H)<|xfK (Dt hi s) t) O<|λw h=>St.weak h<|λS w h=>wR
  replace H:=zmZ i H
  refine kS<|Q1 O<|H6 ?_
  exact zbY (d1,i1) (xfK (xdI H)<|xfK hi hn) O<|λw h=>St.weak h<|λS w h=>wR
 refine zeT ?_;rintro⟨d2,i2⟩ ⟨g,P,hv⟩ rest;subst g;replace H:=e;clear d;refine zk5 O<|Vp<|Vp<|vS<|Xe 1 [(13,uv d2)] O<|SP O O O O (λl=> ?_) (λl=> ?_)
 ·replace H:=zmY l H
  refine kS<|J6 O<|Vp<|vS<|Xe 1 [(15,uv d2)] O ?_
  have⟨m,hp,H⟩:=xR H
  refine ZL O O (DU (c:=(m:J)) O O (xdm _)<|zb3 hp<|pR (a:=d2))<|Xe 1 [(0,uv m)] O<|kS<|vS<|Xe 1 [(17,iv<|i2)] O ?_
  have⟨o,E,F,H⟩:=Jm H
  refine ZL O O (Ef (c:=o) O O<|w_x E F)<|Xe 1 [(2,iv<|o)] O<|kS<|Vp<|vS<|Xe 2 [(20,uv m),(19,iv<|o)] O ?_
  have⟨L,p,H⟩:=xR H
  refine ZL O O (Qo (c:=(L:J)) Tryz.underlying73 Tryz.underlying5 O<|lH p<|wu8 _) ?_
  have⟨u,hl,H⟩:=xR H
  refine ZL O O (zhu (z:=u) Tryz.underlying9 O i8 O (H8 p) hl)<|ZL O O (Qo (c:=(u:J)) Tryz.underlying5 Tryz.underlying3 O<|w64<|b_r<|Hg (H8 p) hl) ?_
  have⟨v,M,hc,H⟩:=Jm H
  refine ZL O O (Ef (c:=v) O O<|w_x M hc)<|Xe 1 [(2,iv<|v)] O<|kS<|zbe ?_
  obtain rfl:=zmh H
  exact zjQ () Tryz.results263 O hc<|λS w h=>wR
 replace H:=zmZ l H;refine kS<|Q1 O<|H6<|Vp<|vS<|Xe 2 [(20,uv d2),(19,iv<|i2)] O ?_
 have⟨N,q,H⟩:=xR H;refine ZL O O (Qo (c:=(N:J)) Tryz.underlying73 Tryz.underlying5 O<|lH q<|wu8 _) ?_;have⟨x,y,H⟩:=xR H;refine ZL O O (zhu (z:=x) Tryz.underlying9 O i8 O (H8 q) y)<|ZL O O (Qo (c:=(x:J)) Tryz.underlying5 Tryz.underlying3 O<|w64<|b_r<|Hg (H8 q) y) ?_
 have⟨A,ht,hd,H⟩:=Jm H;refine ZL O O (Ef (c:=A) O O<|w_x ht hd)<|Xe 1 [(2,iv<|A)] O<|kS<|zbe ?_
 obtain rfl:=zmh H;exact zjQ () Tryz.results263 O hd<|λS w h=>wR
def XC:yb ⟨263,[.d .u],[.d .i],λx=>xX fu x.1,0⟩:=zli i8 λx r a h=>pX fu x a r h
def Zn:yb ⟨217,[.d .u],[.d .i],λx=>xI fu x.1,0⟩:=sq fu wH func217<|D (XC fu)<|cN
def J9:yb ⟨197,[.d .u,.d .u,.d .u],[.d .u,.d .u],λx=>qS fu x.1 x.2.1 x.2.2.1,0⟩:=sq fu ⟨[],[],[(17,q1 [(15,.d .u),(16,.d .u)] 0 [(15,.d .u)]),(24,q1 [(16,.d .u),(18,.d .u)] 2 [(18,.d .u)])],[],[],[],[]⟩ func197<|D (Zn fu)<|cN
def RJ:yb ⟨219,[.d .u,.d .u,.d .u,.d .u,.d .u],[.d .u],λx=>Kt fu x.1 x.2.1 x.2.2.1 x.2.2.2.1 x.2.2.2.2.1,0⟩:=sq fu ⟨[],[],[(4,⟨⟨[(11,.d .u),(12,.d .u)],[]⟩,⟨[],[(.r,⟨[(10,.d .u)],[]⟩)]⟩⟩)],[],[],[],[]⟩ func219<|D (KN fu)<|D (J9 fu)<|cN
def tM:yb ⟨161,[.d yq,.d .u],[.own .u 73,.d .u],λx=>VJ fu x.1 x.2.1,0⟩:=sq fu ⟨[],[],[(3,q1 [(7,.d .u),(8,.d .i),(6,.own .u 73)] 0 [(7,.d .u),(6,.own .u 73)])],[],[],[],[]⟩ func161<|D (xb fu)<|D (wZ fu)<|D (J9 fu)<|cN
def Hq:yb ⟨173,[.d yq,.d yq],[.own .u 73,.d yq,.d .i],λx=>U2 fu x.1 x.2.1,0⟩:=sq fu ⟨[],[(196612,⟨[],[(.n,⟨[(23,.d .b)],[]⟩)]⟩),(327686,⟨[],[(.n,⟨[(27,.d .b)],[]⟩)]⟩)],[(16,q1 [(10,.d yq),(16,.d .i),(12,.own .u 73),(15,.own .u 73)] 1 [(12,.own .u 73),(15,.own .u 73)]),(20,⟨⟨[(9,.d .i),(14,.d .i),(17,.d .u),(18,.d yq)],[]⟩,⟨[12,15],[(.x 3,⟨[(9,.d .i),(14,.d .i),(17,.d .u),(18,.d yq)],[]⟩)]⟩⟩)],[(23,[149])],[129],[],[]⟩ func173<|D (sj fu)<|D (tM fu)<|D (xb fu)<|D (wZ fu)<|D (Ev fu)<|D (FO fu)<|D (Zn fu)<|D (sF fu)<|D (RJ fu)<|D (Gw fu)<|D (lR fu)<|cN
def qU:yb ⟨108,[.d .b,.d yq],[.d Q],λx=>xk fu x.1 x.2.1,0⟩:=sq fu wH func108<|D (lR fu)<|cN
def mq:yb ⟨141,[.d Q,.d Q],[.d Q,.d Q,.d .i],λx=>Wb fu x.1 x.2.1,0⟩:=sq fu ⟨[],[(327688,⟨[4,5],[(.n,⟨[(7,.own .u 73),(8,.d yq)],[]⟩)]⟩)],[],[],[],[],[]⟩ func141<|D (rK fu)<|D (qU fu)<|D (Hq fu)<|D (sG fu)<|cN
def Yv:yb ⟨135,[.d Q],[.d Q],λx=>qd fu x.1,0⟩:=sq fu wH func135<|D (qU fu)<|cN
def vC:yb ⟨98,[.d Q],[.d .i],λx=>xy fu x.1,0⟩:=sq fu ⟨[1],[],[],[],[],[],[]⟩ func98<|D (Yv fu)<|cN
def ja:yb ⟨91,[.d Q,.d Q],[.d Q,.d .i],λx=>wk fu x.1 x.2.1,0⟩:=sq fu ⟨[],[(196612,⟨[4,6,7],[(.n,⟨[(16,.d .b)],[]⟩)]⟩)],[],[],[],[],[]⟩ func91<|D (vC fu)<|D (mq fu)<|cN
def lN:yb ⟨130,[.d Q,.d Q],[.d Q],λx=>Wk fu x.1 x.2.1,0⟩:=sq fu ⟨[],[],[(2,⟨⟨[(5,.d yq),(6,.d yq)],[]⟩,⟨[4],[(.x 0,⟨[(5,.d yq)],[]⟩)]⟩⟩)],[],[],[],[]⟩ func130<|D (qU fu)<|D (lR fu)<|D (Hq fu)<|cN
def JS:yb ⟨131,[.d Q],[.d Q],λx=>kR fu x.1,0⟩:=sq fu wH func131<|D (qU fu)<|cN
def ax:yb ⟨83,[.d Q,.d Q],[.d (.p Q yq),.d .i],λx=>Yu fu x.1 x.2.1,0⟩:=sq fu wH func83<|D (vC fu)<|D (ja fu)<|D (JS fu)<|D (lN fu)<|cN
def xm:yb ⟨65,[.d .i],[.d Q],λx=>zP fu x.1,0⟩:=sq fu wH func65<|D (qU fu)<|cN
def du:yb ⟨24,[.d .i],[.d (.p Q yq)],λx=>vU fu x.1,0⟩:=sq fu wH func24<|D (xm fu)<|cN
def td:yb ⟨146,[.d (.p Q yq)],[.d Q],λx=>YM fu x.1,0⟩:=sq fu wH func146<|D (Yv fu)<|cN
def Yr:yb ⟨96,[.d (.p Q yq)],[.d (.p Q yq)],λx=>xE fu x.1,0⟩:=sq fu ⟨[],[],[],[(1,[])],[],[],[]⟩ func96<|D (du fu)<|D (td fu)<|D (ax fu)<|cN
def yO:yb ⟨92,[.d Q,.d Q],[.d Q],λx=>zF fu x.1 x.2.1,0⟩:=sq fu wH func92<|D (UC fu)<|D (qU fu)<|cN
def gf:yb ⟨49,[.d (.p Q yq),.d (.p Q yq)],[.d (.p Q yq)],λx=>Wx fu x.1 x.2.1,0⟩:=sq fu ⟨[2,3],[],[],[],[],[],[]⟩ func49<|D (Yr fu)<|D (UC fu)<|D (yO fu)<|cN
def Ed:yb ⟨51,[.d (.p Q yq)],[.d .i],λx=>JT fu x.1,0⟩:=sq fu wH func51<|D (Yr fu)<|D (vC fu)<|cN
def E5:yb ⟨191,[.d (.p Q yq),.d (.p Q yq),.fn [Q,Q] [Q]],[.d (.p Q yq)],λx=>WB fu x.1 x.2.1<|λz0 a=>x.2.2.1 (z0,a,()),0⟩:=sq fu ⟨[3,4],[],[],[(2,[])],[],[],[]⟩ func191<|D (Yr fu)<|D (td fu)<|D (yO fu)<|D (UC fu)<|cN
def uR:yb ⟨194,[.d Q,.d Q],[.d Q],λx=>vN fu x.1 x.2.1,0⟩:=sq fu ⟨[2,3],[(262150,⟨[4],[(.n,⟨[(2,.var Q 44),(3,.var Q 44)],[]⟩)]⟩)],[],[],[],[],[]⟩ func194<|D (sj fu)<|D (rK fu)<|D (qU fu)<|D (sG fu)<|cN
def X2:yb ⟨193,[.d Q,.d Q],[.d Q],λx=>qC fu x.1 x.2.1,0⟩:=sq fu wH func193<|D (uR fu)<|D (JS fu)<|cN
def B9:yb ⟨192,[.d Q,.d Q,.q .b],[.d Q],λx=>XB fu x.1 x.2.1 x.2.2.1,0⟩:=sq fu wH func192<|D (X2 fu)<|D (uR fu)<|cN
def mN:yb ⟨159,[.d (.p Q yq),.d (.p Q yq),.d .b],[.d (.p Q yq)],λx=>YT fu x.1 x.2.1 x.2.2.1,0⟩:=sq fu wH func159<|D (B9 fu)<|D (E5 fu)<|cN
def GH:yb ⟨113,[.d (.p Q yq),.d (.p Q yq)],[.d (.p Q yq)],λx=>Uu fu x.1 x.2.1,0⟩:=sq fu wH func113<|D (mN fu)<|cN
def jF:yb ⟨89,[.d (.p yH (.l (.p Q yq))),.d (.l (.p Q yq))],[.own (.p Q yq) 46],λx=>yT fu x.1 x.2.1,0⟩:=sq fu ⟨[],[(262149,⟨[5],[(.n,⟨[(2,.q (.p yH (.l (.p Q yq)))),(15,.d (.l (.p Q yq))),(16,.d .i),(18,.d .b)],[]⟩)]⟩),(851982,⟨[5,10],[(.n,⟨[(2,.q (.p yH (.l (.p Q yq)))),(8,.d .i),(45,.d .b)],[]⟩)]⟩),(983056,⟨[5,10],[(.n,⟨[(2,.q (.p yH (.l (.p Q yq)))),(8,.d .i),(9,.d .i),(46,.d .i),(48,.d .b)],[]⟩)]⟩)],[(3,q1 [(17,.d .i),(5,.own (.p Q yq) 46)] 0 [(5,.own (.p Q yq) 46)]),(9,⟨⟨[(5,.own (.p Q yq) 46),(9,.d .i)],[]⟩,⟨[],[(.x 2,⟨[(5,.own (.p Q yq) 46)],[]⟩),(.r,⟨[(4,.own (.p Q yq) 46)],[]⟩)]⟩⟩),(14,q1 [(47,.d .i),(5,.own (.p Q yq) 46),(10,.var (.p Q yq) 46)] 4 [(5,.own (.p Q yq) 46)])],[],[],[],[]⟩ func89<|D (Yr fu)<|D (gf fu)<|D (Ed fu)<|D (GH fu)<|cN
def GL:yb ⟨145,[.d (.p Q yq),.d (.p Q yq)],[.d (.p Q yq)],λx=>UA fu x.1 x.2.1,0⟩:=sq fu wH func145<|D (mN fu)<|cN
def X7:yb ⟨99,[.d (.p yH (.l (.p Q yq))),.d (.l (.p Q yq)),.d (.l (.p Q yq)),.d .i],[.own (.p Q yq) 46],λx=>wG fu x.1 x.2.1 x.2.2.1 x.2.2.2.1,0⟩:=sq fu ⟨[],[(327686,⟨[9],[(.n,⟨[(3,.d .i),(4,.q (.p yH (.l (.p Q yq)))),(21,.d (.l (.p Q yq))),(22,.d .i),(24,.d .b)],[]⟩)]⟩)],[(4,q1 [(23,.d .i),(9,.own (.p Q yq) 46)] 0 [(9,.own (.p Q yq) 46)])],[],[],[],[]⟩ func99<|D (du fu)<|D (gf fu)<|D (GL fu)<|D (jF fu)<|cN
def oO:yb ⟨52,[.d (.po (.w1 (.p yH (.l (.p Q yq))))),.d (.l (.p Q yq)),.d (.l (.p Q yq))],[.own (.p Q yq) 46,.d .i],λx=>wK fu x.1 x.2.1 x.2.2.1,0⟩:=sq fu wH func52<|D (X7 fu)<|D (vL fu)<|cN
def Vx:yb ⟨95,[.d (.p yH (.l (.p Q yq))),.d (.l (.p Q yq)),.d (.l (.p Q yq))],[.own (.p Q yq) 46],λx=>xG fu x.1 x.2.1 x.2.2.1,0⟩:=sq fu ⟨[],[(327686,⟨[2,7],[(.n,⟨[(3,.q (.p yH (.l (.p Q yq)))),(24,.d (.l (.p Q yq))),(25,.d .i),(27,.d .b)],[]⟩)]⟩),(524297,⟨[2,7,9],[(.n,⟨[(3,.q (.p yH (.l (.p Q yq)))),(8,.d .i),(24,.d (.l (.p Q yq))),(25,.d .i),(26,.d .i),(32,.d .i),(34,.d .b)],[]⟩)]⟩)],[(4,q1 [(26,.d .i),(2,.own (.p Q yq) 46),(7,.own (.p Q yq) 46)] 0 [(7,.own (.p Q yq) 46)]),(7,⟨⟨[(33,.d .i),(2,.own (.p Q yq) 46),(7,.own (.p Q yq) 46),(9,.var (.p Q yq) 46)],[(31,.al 2)]⟩,⟨[],[(.x 2,⟨[(2,.own (.p Q yq) 46),(7,.own (.p Q yq) 46)],[]⟩)]⟩⟩)],[],[],[],[]⟩ func95<|D (jF fu)<|D (GL fu)<|D (gf fu)<|cN
def MM:yb ⟨147,[.d (.l (.p Q yq))],[.d (.l (.p Q yq))],λx=>Xl fu x.1,0⟩:=sq fu ⟨[],[],[(1,q1 [(0,.d (.l (.p Q yq)))] 0 [(0,.d (.l (.p Q yq)))])],[],[],[],[]⟩ func147<|D (Ed fu)<|cN
def Hh:yb ⟨101,[.d (.p Q yq),.d (.p Q yq)],[.d (.p Q yq),.d .i],λx=>Jc fu x.1 x.2.1,0⟩:=sq fu ⟨[2,3],[],[],[],[],[],[]⟩ func101<|D (Yr fu)<|D (td fu)<|D (ax fu)<|D (yO fu)<|cN
def sR:yb ⟨100,[.d (.l (.p Q yq)),.d (.l (.p Q yq))],[.d (.l (.p Q yq)),.d (.l (.p Q yq))],λx=>ZD fu x.1 x.2.1,0⟩:=sq fu ⟨[],[(589834,⟨[6,7],[(.n,⟨[(8,.d .i),(50,.d (.l (.p Q yq))),(51,.d .i),(53,.d .b)],[]⟩)]⟩)],[(4,q1 [(8,.d .i),(6,.own (.p Q yq) 46),(7,.own (.p Q yq) 46)] 0 [(6,.own (.p Q yq) 46),(7,.own (.p Q yq) 46)]),(8,q1 [(1,.d (.l (.p Q yq))),(52,.d .i),(6,.own (.p Q yq) 46),(7,.own (.p Q yq) 46)] 2 [(1,.d (.l (.p Q yq))),(6,.own (.p Q yq) 46),(7,.own (.p Q yq) 46)])],[(6,[])],[],[],[]⟩ func100<|D (gf fu)<|D (MM fu)<|D (Hh fu)<|D (GH fu)<|cN
def KA:yb ⟨54,[.d (.po (.w1 (.p yH (.l (.p Q yq))))),.d (.l (.p Q yq))],[.own (.p Q yq) 46,.d .i],λx=>wV fu x.1 x.2.1,0⟩:=sq fu ⟨[],[],[(8,q1 [(6,.d (.l (.p Q yq))),(7,.d (.l (.p Q yq))),(8,.d (.l (.p Q yq))),(9,.d (.l (.p Q yq)))] 0 [(7,.d (.l (.p Q yq))),(9,.d (.l (.p Q yq)))])],[(11,[])],[],[],[]⟩ func54<|D (X7 fu)<|D (sR fu)<|D (Hh fu)<|D (vL fu)<|D (du fu)<|D (jF fu)<|D (Vx fu)<|cN
def nN:yb ⟨47,[.d (.po (.w1 (.p yH (.l (.p Q yq))))),.d (.l (.p Q yq)),.d (.l (.p Q yq))],[.own (.p Q yq) 46,.d .i],λx=>yN fu x.1 x.2.1 x.2.2.1,0⟩:=sq fu wH func47<|D (Vx fu)<|D (vL fu)<|cN
def nS:yb ⟨48,[.d (.po (.w1 (.p yH (.l (.p Q yq))))),.d (.l (.p Q yq))],[.own (.p Q yq) 46,.d .i],λx=>wO fu x.1 x.2.1,0⟩:=sq fu wH func48<|D (jF fu)<|D (vL fu)<|cN
def oj:yb ⟨53,[.d (.po (.w1 (.p yH (.l (.p Q yq))))),.d (.l (.p Q yq)),.d (.l (.p Q yq))],[.own (.p Q yq) 46,.d .i],λx=>q9 fu x.1 x.2.1 x.2.2.1,0⟩:=sq fu wH func53<|D (X7 fu)<|D (vL fu)<|cN
def Fx:yb ⟨94,[.d Q,.d .i],[.d Q],λx=>Ud fu x.1 x.2.1,0⟩:=sq fu ⟨[],[],[(3,⟨⟨[(8,.d .i),(5,.var Q 44)],[]⟩,⟨[4],[(.x 0,⟨[(5,.var Q 44)],[]⟩)]⟩⟩)],[],[],[],[]⟩ func94<|D (xm fu)<|D (yO fu)<|cN
def aY:yb ⟨142,[.d Q,.d .i],[.d Q],λx=>wY fu x.1 x.2.1,0⟩:=sq fu ⟨[],[],[(3,⟨⟨[(8,.d .i),(5,.var Q 44)],[]⟩,⟨[4],[(.x 0,⟨[(5,.var Q 44)],[]⟩)]⟩⟩)],[],[],[],[]⟩ func142<|D (xm fu)<|D (yO fu)<|cN
def Ei:yb ⟨134,[.d .i,.d Q],[.d Q],λx=>Ji fu x.1 x.2.1,0⟩:=sq fu wH func134<|D (Yv fu)<|cN
def xu:yb ⟨127,[.d yH,.fn [.i,Q] [Q]],[.own Q 44],λx=>zH fu x.1<|λz0 a=>x.2.1 (z0,a,()),0⟩:=sq fu ⟨[],[(262149,⟨[5],[(.n,⟨[(11,.d yH),(12,.d .i),(14,.d .b)],[]⟩)]⟩)],[(3,q1 [(13,.d .i),(5,.own Q 44)] 0 [(5,.own Q 44)])],[],[],[],[]⟩ func127<|cN
def xa:yb ⟨88,[.d yH],[.own Q 44],λx=>zM fu x.1,0⟩:=sq fu ⟨[],[],[(1,q1 [(0,.d yH)] 0 [(0,.d yH)])],[],[],[],[]⟩ func88<|D (vC fu)<|D (Ei fu)<|D (xu fu)<|cN
def AX:yb ⟨266,[.d .i,.d Q,.q Q],[.d Q],λx=>VW fu x.1 x.2.1 x.2.2.1,0⟩:=sq fu wH func266<|D (yO fu)<|cN
def WZ:yb ⟨227,[.d yH,.d Q],[.own Q 44],λx=>vZ fu x.1 x.2.1,0⟩:=sq fu wH func227<|D (xa fu)<|D (AX fu)<|D (xu fu)<|cN
def EO:yb ⟨312,[.d .i,.d Q,.q yH],[.d Q],λx=>uk fu x.1 x.2.1 x.2.2.1,0⟩:=sq fu wH func312<|D (uR fu)<|cN
def tX:yb ⟨267,[.d yH,.d yH],[.own Q 44],λx=>qj fu x.1 x.2.1,0⟩:=sq fu ⟨[3],[],[],[],[],[],[]⟩ func267<|D (EO fu)<|D (xa fu)<|D (xu fu)<|cN
def Ab:yb ⟨228,[.d yH,.d yH],[.own Q 44],λx=>kj fu x.1 x.2.1,0⟩:=sq fu wH func228<|D (tX fu)<|D (xm fu)<|D (WZ fu)<|cN
def ll:yb ⟨185,[.d yH,.d yH],[.own Q 44,.own Q 44,.d .i],λx=>ui fu x.1 x.2.1,0⟩:=sq fu ⟨[],[],[(9,⟨⟨[(1,.d yH),(9,.own Q 44),(11,.d .i),(10,.own Q 44)],[]⟩,⟨[8],[(.x 0,⟨[(9,.own Q 44),(10,.own Q 44)],[]⟩)]⟩⟩)],[(12,[]),(13,[1])],[],[],[]⟩ func185<|D (WZ fu)<|D (Ab fu)<|D (aY fu)<|D (xa fu)<|D (ja fu)<|cN
def lv:yb ⟨143,[.d yH],[.d .i],λx=>xw fu x.1,0⟩:=sq fu wH func143<|cN
def eZ:VM:=⟨216,[.d yH,.d yH],[.own Q 44,.d .i],λx=>xV fu x.1 x.2.1,0⟩
def W8:yb (eZ fu):=sq fu ⟨[],[(327687,⟨[1,6],[(.n,⟨[],[]⟩),(.r,⟨[],[(4,.nil),(5,.ci 4)]⟩)]⟩),(1048593,⟨[1,6,7,9],[(.n,⟨[(8,.d .i),(71,.d .i),(73,.d .b)],[]⟩)]⟩)],[(8,⟨⟨[(8,.d .i),(1,.own Q 44),(6,.own Q 44),(7,.own Q 44)],[]⟩,⟨[],[(.x 0,⟨[(6,.own Q 44),(7,.own Q 44)],[]⟩),(.r,⟨[(5,.d .i)],[(4,.nil)]⟩)]⟩⟩),(15,⟨⟨[(72,.d .i),(1,.own Q 44),(6,.own Q 44),(7,.own Q 44),(9,.var Q 44)],[(70,.al 1)]⟩,⟨[],[(.x 2,⟨[(1,.own Q 44),(6,.own Q 44),(7,.own Q 44)],[]⟩)]⟩⟩)],[(10,[])],[],[],[]⟩ func216<|D (xa fu)<|D (X2 fu)<|D (ja fu)<|D (yO fu)<|cN
def LN:yb ⟨186,[.d yH,.d Q],[.own Q 44],λx=>pS fu x.1 x.2.1,0⟩:=sq fu wH func186<|D (W8 fu)<|cN
def UD:yb ⟨144,[.var (.p yH (.p yH (.p Q (.p Q .b)))) 152],[.var (.p yH (.p yH (.p Q (.p Q .b)))) 152],λx=>Yy fu x.1,1⟩:=sgb (fu:=fu) ⟨[],[(131075,⟨[],[(.n,⟨[(0,.var (.p yH (.p yH (.p Q (.p Q .b)))) 152)],[]⟩)]⟩),(393223,⟨[0],[(.n,⟨[(92,.d .b)],[]⟩)]⟩)],[],[(3,[]),(6,[])],[],[],[]⟩ func144 (D (aY fu)<|D (lv fu)<|D (ll fu)<|D (LN fu)<|D (ja fu)<|D (yO fu)<|cN) i8 λa x=>by kernel_rfl
def Z6:yb ⟨126,[.d yH],[.d Q],λx=>wi fu x.1,0⟩:=sq fu ⟨[],[(327686,⟨[0,2,3],[(.n,⟨[(10,.d .i),(12,.d .b)],[]⟩)]⟩)],[(4,⟨⟨[(11,.d .i),(0,.own Q 44),(2,.var Q 44),(3,.var Q 44)],[(9,.al 0)]⟩,⟨[],[(.x 0,⟨[(0,.own Q 44),(2,.var Q 44),(3,.var Q 44)],[]⟩)]⟩⟩)],[],[],[],[]⟩ func126<|D (xa fu)<|D (xm fu)<|D (lN fu)<|D (JS fu)<|cN
def CY:yb ⟨128,[.d .i,.d Q,.q Q],[.d Q],λx=>Jv fu x.1 x.2.1 x.2.2.1,0⟩:=sq fu wH func128<|D (ja fu)<|cN
def aj:VM:=⟨81,[.d yH],[.own Q 44],λx=>xA fu x.1,0⟩
def kO:yb (aj fu):=sq fu wH func81<|D (xa fu)<|D (CY fu)<|D (Z6 fu)<|D (xu fu)<|cN
def sJ:yb ⟨93,[.d yH,.d yH],[.d Q,.d .i],λx=>Uz fu x.1 x.2.1,0⟩:=sq fu ⟨[53],[(196612,⟨[0,1,4],[(.n,⟨[(15,.d .b)],[]⟩)]⟩),(589836,⟨[],[(.n,⟨[(4,.var Q 44),(6,.var Q 44),(7,.var (.p yH (.p yH (.p Q (.p Q .b)))) 152)],[]⟩)]⟩),(589834,⟨[4,6,7],[(.n,⟨[(0,.d yH),(1,.d yH),(58,.d .b)],[]⟩)]⟩),(1179669,⟨[],[(.n,⟨[(4,.var Q 44),(6,.var Q 44),(7,.var (.p yH (.p yH (.p Q (.p Q .b)))) 152),(9,.var Q 44)],[]⟩)]⟩),(1245204,⟨[4,6,7,9],[(.n,⟨[(121,.d .b)],[]⟩)]⟩)],[(12,⟨⟨[(7,.var (.p yH (.p yH (.p Q (.p Q .b)))) 152)],[(8,.bm 7 144)]⟩,⟨[4,6],[(.x 1,⟨[(7,.var (.p yH (.p yH (.p Q (.p Q .b)))) 152)],[]⟩)]⟩⟩)],[(9,[]),(16,[]),(19,[])],[],[],[]⟩ func93<|D (xm fu)<|D (JS fu)<|D (aY fu)<|D (lv fu)<|D (UD fu)<|D (kO fu)<|D (xa fu)<|D (ja fu)<|D (yO fu)<|D (Z6 fu)<|cN
def dK:yb ⟨46,[.d (.po (.w1 (.p yH (.l (.p Q yq))))),.d (.l (.p Q yq))],[.d (.p Q yq),.d .i],λx=>VE fu x.1 x.2.1,0⟩:=sq fu ⟨[],[(458760,⟨[1,4,6],[(.n,⟨[(0,.d (.po (.w1 (.p yH (.l (.p Q yq)))))),(29,.d .i),(31,.d .b)],[]⟩)]⟩),(851982,⟨[1,4,9],[(.n,⟨[(0,.d (.po (.w1 (.p yH (.l (.p Q yq)))))),(43,.d .i),(45,.d .b)],[]⟩)]⟩)],[(6,⟨⟨[(6,.own .u 73),(30,.d .i),(1,.own (.p Q yq) 46),(4,.var (.p Q yq) 46)],[(28,.al 1)]⟩,⟨[],[(.x 0,⟨[(6,.own .u 73),(1,.own (.p Q yq) 46),(4,.var (.p Q yq) 46)],[]⟩)]⟩⟩),(12,⟨⟨[(6,.d yq),(44,.d .i),(1,.own (.p Q yq) 46),(4,.var (.p Q yq) 46),(9,.own Q 44)],[(42,.al 1)]⟩,⟨[],[(.x 2,⟨[(6,.d yq),(1,.own (.p Q yq) 46),(4,.var (.p Q yq) 46),(9,.own Q 44)],[]⟩)]⟩⟩)],[(14,[6])],[],[],[]⟩ func46<|D (ax fu)<|D (vL fu)<|D (jF fu)<|D (UC fu)<|D (ja fu)<|D (yO fu)<|D (sJ fu)<|D (Fx fu)<|cN
def n4:yb ⟨97,[.d yq,.d yq],[.d .b],λx=>YY fu x.1 x.2.1,0⟩:=sq fu ⟨[],[],[(4,⟨⟨[(5,.d .i)],[]⟩,⟨[],[(.x 0,⟨[],[]⟩),(.r,⟨[],[(4,.kb I)]⟩)]⟩⟩)],[],[],[],[]⟩ func97<|cN
def LD:yb ⟨86,[.d Q,.d Q],[.d .b],λx=>Q8 fu x.1 x.2.1,0⟩:=sq fu wH func86<|D (n4 fu)<|cN
def HZ:yb ⟨50,[.d (.p Q yq),.d (.p Q yq)],[.d .b],λx=>QG fu x.1 x.2.1,0⟩:=sq fu wH func50<|D (n4 fu)<|D (LD fu)<|cN
def Ih:yb ⟨23,[.d (.l (.p Q yq)),.d (.l (.p Q yq))],[.d .b],λx=>QD fu x.1 x.2.1,0⟩:=sq fu ⟨[],[],[(4,⟨⟨[(5,.d .i)],[]⟩,⟨[],[(.x 0,⟨[],[]⟩),(.r,⟨[],[(4,.kb I)]⟩)]⟩⟩)],[],[],[],[]⟩ func23<|D (HZ fu)<|cN
def pB:yb ⟨55,[.d (.l (.p Q yq)),.d (.l (.p Q yq))],[.d .b],λx=>xO fu x.1 x.2.1,0⟩:=sq fu wH func55<|D (Ih fu)<|cN
def HV:yb ⟨172,[.d yH,.d yH],[.d .i],λx=>YZ fu x.1 x.2.1,0⟩:=sq fu ⟨[],[],[(3,q1 [(5,.d .i),(6,.own Q 44),(7,.d .i)] 0 [(5,.d .i)])],[],[],[],[]⟩ func172<|D (W8 fu)<|cN
def Jy:yb ⟨247,[.d .i],[.d .b],λx=>uX fu x.1,0⟩:=sq fu ⟨[],[(131075,⟨[],[(.n,⟨[(3,.d .b)],[]⟩)]⟩)],[(3,q1 [(3,.d .b),(4,.d .i)] 0 [(3,.d .b)])],[],[],[],[]⟩ func247<|cN
def bh:yb ⟨241,[.d yq],[.d .i],λx=>uU fu x.1,0⟩:=sq fu wH func241<|D (xb fu)<|D (wZ fu)<|D (XC fu)<|cN
def SK:yb ⟨248,[.d Q,.d .i],[.d Q,.d .i],λx=>aa fu x.1 x.2.1,0⟩:=sq fu ⟨[],[(131075,⟨[4],[(.n,⟨[(8,.d .b)],[]⟩)]⟩)],[(7,⟨⟨[(1,.d .i),(7,.var Q 44),(6,.var Q 44)],[]⟩,⟨[4],[(.x 1,⟨[(6,.var Q 44)],[]⟩)]⟩⟩)],[],[],[],[]⟩ func248<|D (xm fu)<|D (bh fu)<|D (yO fu)<|D (Yv fu)<|cN
def JB:yb ⟨210,[.d .i,.d .i],[.d Q,.d .i],λx=>qt fu x.1 x.2.1,0⟩:=sq fu wH func210<|D (SK fu)<|D (xm fu)<|D (Jy fu)<|cN
def eY:yb ⟨339,[.d yH,.d Q,.fn [Q,Q] [Q,.i]],[.own Q 44,.d .i],λx=>qA fu x.1 x.2.1<|λz0 a=>x.2.2.1 (z0,a,()),0⟩:=sq fu ⟨[],[(393223,⟨[8],[(.n,⟨[(4,.q Q),(17,.d yH),(18,.d .i),(20,.d .b)],[]⟩)]⟩)],[(5,q1 [(19,.d .i),(8,.own Q 44)] 0 [(8,.own Q 44)])],[],[],[],[]⟩ func339<|D (xa fu)<|D (vC fu)<|cN
def QS:yb ⟨315,[.d Q,.d Q],[.d Q,.d .i],λx=>qT fu x.1 x.2.1,0⟩:=sq fu wH func315<|D (vC fu)<|D (mq fu)<|cN
def ny:yb ⟨298,[.d yH,.d Q],[.own Q 44,.d .i],λx=>Xq fu x.1 x.2.1,0⟩:=sq fu wH func298<|D (QS fu)<|D (eY fu)<|cN
def QW:yb ⟨256,[.d yH,.d Q],[.own Q 44],λx=>xp fu x.1 x.2.1,0⟩:=sq fu wH func256<|D (ny fu)<|cN
def jm:yb ⟨287,[.d .i],[.d .i],λx=>vk fu x.1,0⟩:=sq fu wH func287<|D (Jy fu)<|cN
def fI:yb ⟨319,[.d .i,.d .i],[.d .i],λx=>uY fu x.1 x.2.1,0⟩:=sq fu wH func319<|cN
def DZ:VM:=⟨331,[.d .i,.d .i],[.d .i,.d .i],λx=>VG fu x.1 x.2.1,0⟩
def BM:yb (DZ fu):=sq fu ⟨[],[],[(5,⟨⟨[(7,.d .i),(8,.d .i),(9,.d .i),(10,.d .i)],[]⟩,⟨[],[(.x 0,⟨[(10,.d .i)],[]⟩),(.r,⟨[],[(4,.ci 0),(5,.ci 3)]⟩)]⟩⟩)],[],[],[],[]⟩ func331<|D (fI fu)<|D (jm fu)<|cN
def wb:yb ⟨288,[.d xg,.d .i],[.own .i 3],λx=>ya fu x.1 x.2.1,0⟩:=sq fu ⟨[],[],[(3,q1 [(13,.d .i),(5,.own .i 3)] 0 [(5,.own .i 3)]),(7,q1 [(5,.own .i 3)] 2 [(5,.own .i 3)])],[],[],[],[]⟩ func288<|D (fI fu)<|cN
def Qa:yb ⟨289,[.d xg,.d xg,.d .i],[.own .i 3,.own .i 3],λx=>xL fu x.1 x.2.1 x.2.2.1,0⟩:=sq fu ⟨[],[(851982,⟨[8,12],[(.n,⟨[(9,.d .i),(13,.d .i),(61,.d xg),(62,.d .i),(64,.d .b)],[]⟩)]⟩)],[(7,q1 [(9,.d .i),(8,.own .i 3),(12,.own .i 3)] 0 [(8,.own .i 3),(12,.own .i 3)]),(12,q1 [(1,.d xg),(2,.d .i),(10,.d .i),(63,.d .i),(8,.own .i 3),(12,.own .i 3)] 2 [(1,.d xg),(2,.d .i),(10,.d .i),(8,.own .i 3),(12,.own .i 3)])],[],[],[],[]⟩ func289<|D (wb fu)<|D (BM fu)<|cN
def Yd:yb ⟨332,[.d xg,.d xg,.d .i],[.own .i 3],λx=>w7 fu x.1 x.2.1 x.2.2.1,0⟩:=sq fu ⟨[],[(262149,⟨[7],[(.n,⟨[(1,.d xg),(2,.d .i),(18,.d xg),(19,.d .i),(21,.d .b)],[]⟩)]⟩),(458760,⟨[7],[(.n,⟨[(1,.d xg),(2,.d .i),(8,.d .i),(9,.d .i),(18,.d xg),(19,.d .i),(20,.d .i),(25,.d xg),(26,.d .i),(28,.d .b)],[]⟩)]⟩)],[(3,q1 [(20,.d .i),(7,.own .i 3)] 0 [(7,.own .i 3)]),(6,q1 [(27,.d .i),(7,.own .i 3)] 2 [(7,.own .i 3)])],[],[],[],[]⟩ func332<|D (wb fu)<|cN
def dB:yb ⟨369,[.d xg,.d xg,.d .i,.d .i],[.own .i 3],λx=>YJ fu x.1 x.2.1 x.2.2.1 x.2.2.2.1,0⟩:=sq fu ⟨[],[(327686,⟨[9],[(.n,⟨[(2,.d .i),(3,.d .i),(21,.d xg),(22,.d .i),(24,.d .b)],[]⟩)]⟩)],[(4,q1 [(23,.d .i),(9,.own .i 3)] 0 [(9,.own .i 3)])],[],[],[],[]⟩ func369<|D (wb fu)<|cN
def Mo:yb ⟨335,[.d (.a 3 xg),.d (.a 3 xg),.d .i],[.d (.a 3 xg)],λx=>Xv fu x.1 x.2.1 x.2.2.1,0⟩:=sq fu ⟨[3],[(262149,⟨[3,6],[(.n,⟨[(2,.d .i),(4,.q (.a 3 xg)),(20,.d .b)],[]⟩)]⟩)],[(3,⟨⟨[(7,.d xg),(19,.d .i),(3,.var (.a 3 xg) 301),(6,.var (.a 3 xg) 301)],[]⟩,⟨[8],[(.x 0,⟨[(3,.var (.a 3 xg) 301),(6,.var (.a 3 xg) 301)],[]⟩)]⟩⟩)],[],[],[],[]⟩ func335<|D (Qa fu)<|D (Yd fu)<|D (dB fu)<|cN
def cY:yb ⟨336,[.d xg,.d .i,.d .i],[.own .i 3],λx=>qx fu x.1 x.2.1 x.2.2.1,0⟩:=sq fu wH func336<|D (BM fu)<|D (Yd fu)<|cN
def ef:yb ⟨296,[.d xg,.d xg,.d .i],[.d xg,.d xg,.d xg,.d .i],λx=>Zm fu x.1 x.2.1 x.2.2.1,0⟩:=sq fu ⟨[],[(589834,⟨[11],[(.n,⟨[(44,.d .b)],[]⟩)]⟩)],[(5,q1 [(11,.var (.a 3 xg) 301),(12,.var (.a 3 xg) 301)] 0 [(11,.var (.a 3 xg) 301)]),(11,q1 [(51,.d .i),(11,.var (.a 3 xg) 301)] 2 [(11,.var (.a 3 xg) 301)])],[],[],[],[]⟩ func296<|D (wb fu)<|D (cY fu)<|D (Mo fu)<|D (jm fu)<|cN
def fc:yb ⟨291,[.d xg,.d xg,.d .i],[.d xg,.d .i],λx=>j8 fu x.1 x.2.1 x.2.2.1,0⟩:=sq fu wH func291<|D (ef fu)<|cN
def Kz:yb ⟨292,[.d xg,.d xg,.d .i],[.own .i 3,.d .i],λx=>kh fu x.1 x.2.1 x.2.2.1,0⟩:=sq fu wH func292<|D (wb fu)<|D (Yd fu)<|D (jm fu)<|cN
def tQ:yb ⟨333,[.d xg,.d xg,.d .i],[.own .i 3,.d .i],λx=>W9 fu x.1 x.2.1 x.2.2.1,0⟩:=sq fu wH func333<|D (wb fu)<|D (dB fu)<|D (jm fu)<|cN
def CU:yb ⟨294,[.d xg,.d xg,.d .i],[.d .b],λx=>Xa fu x.1 x.2.1 x.2.2.1,0⟩:=sq fu wH func294<|D (tQ fu)<|cN
def Dx:yb ⟨290,[.d xg,.d .i],[.d .b],λx=>Xb fu x.1 x.2.1,0⟩:=sq fu ⟨[],[],[(2,⟨⟨[(9,.d .i)],[]⟩,⟨[],[(.x 0,⟨[],[]⟩),(.r,⟨[],[(4,.kb I)]⟩)]⟩⟩)],[],[],[],[]⟩ func290<|cN
def Uy:yb ⟨293,[.d (.l xg),.d .i],[.own .i 3],λx=>qo fu x.1 x.2.1,0⟩:=sq fu ⟨[],[],[(3,q1 [(5,.own .i 3),(11,.d .i)] 0 [(5,.own .i 3)])],[],[],[],[]⟩ func293<|D (Kz fu)<|cN
def L8:yb ⟨316,[.d Q],[.d .i,.d .b],λx=>QT fu x.1,0⟩:=sq fu ⟨[1],[(196612,⟨[1],[(.n,⟨[(6,.d .b)],[]⟩)]⟩),(327686,⟨[1],[(.n,⟨[(11,.d .b)],[]⟩)]⟩),(458760,⟨[1],[(.n,⟨[(16,.d .b)],[]⟩)]⟩)],[],[],[],[],[]⟩ func316<|D (Yv fu)<|cN
def NB:yb ⟨274,[.d Q,.d .i],[.d .i,.d .i],λx=>KI fu x.1 x.2.1,0⟩:=sq fu ⟨[],[],[],[(1,[])],[],[],[]⟩ func274<|D (xm fu)<|D (QS fu)<|D (L8 fu)<|cN
def Fa:yb ⟨273,[.d .i,.d Q,.q .i],[.d .i],λx=>WX fu x.1 x.2.1 x.2.2.1,0⟩:=sq fu wH func273<|D (NB fu)<|cN
def K4:yb ⟨272,[.d yH,.fn [.i,Q] [.i]],[.own .i 3],λx=>jq fu x.1<|λz0 a=>x.2.1 (z0,a,()),0⟩:=sq fu ⟨[],[(262149,⟨[5],[(.n,⟨[(11,.d yH),(12,.d .i),(14,.d .b)],[]⟩)]⟩)],[(3,q1 [(13,.d .i),(5,.own .i 3)] 0 [(5,.own .i 3)])],[],[],[],[]⟩ func272<|cN
def Vo:yb ⟨244,[.d yH,.d .i],[.own .i 3,.d .i],λx=>u7 fu x.1 x.2.1,0⟩:=sq fu ⟨[],[],[(4,q1 [(6,.own .i 3)] 0 [(6,.own .i 3)])],[],[],[],[]⟩ func244<|D (K4 fu)<|D (Fa fu)<|cN
def Da:yb ⟨254,[.d yH,.d (.l xg),.d .i],[.d .b],λx=>vE fu x.1 x.2.1 x.2.2.1,0⟩:=sq fu ⟨[],[(393223,⟨[7],[(.n,⟨[(0,.d yH),(1,.d (.l xg)),(2,.d .i),(40,.d (.l xg)),(41,.d .i),(43,.d .b)],[]⟩)]⟩)],[(5,⟨⟨[(42,.d .i),(7,.own .i 3)],[]⟩,⟨[],[(.x 0,⟨[(7,.own .i 3)],[]⟩),(.r,⟨[],[(6,.kb I)]⟩)]⟩⟩),(10,⟨⟨[(62,.d .i)],[]⟩,⟨[7],[(.x 2,⟨[],[]⟩),(.r,⟨[],[(6,.kb I)]⟩)]⟩⟩)],[],[],[],[]⟩ func254<|D (Dx fu)<|D (fc fu)<|D (Kz fu)<|D (Uy fu)<|D (CU fu)<|D (Vo fu)<|cN
def si:yb ⟨338,[.d yH,.d yH,.d Q],[.d yH,.own Q 44],λx=>jK fu x.1 x.2.1 x.2.2.1,0⟩:=sq fu ⟨[],[(589834,⟨[8,9],[(.n,⟨[(10,.d .i),(47,.d yH),(48,.d .i),(50,.d .b)],[]⟩)]⟩)],[(4,q1 [(10,.d .i),(8,.own Q 44),(9,.own Q 44)] 0 [(8,.own Q 44),(9,.own Q 44)]),(8,q1 [(1,.d yH),(5,.q Q),(49,.d .i),(8,.own Q 44),(9,.own Q 44)] 2 [(1,.d yH),(5,.q Q),(8,.own Q 44),(9,.own Q 44)])],[(6,[])],[],[],[]⟩ func338<|D (QW fu)<|D (X2 fu)<|D (QS fu)<|D (yO fu)<|cN
def tT:yb ⟨337,[.d yH,.d yH],[.own Q 44],λx=>wx fu x.1 x.2.1,0⟩:=sq fu ⟨[],[(262149,⟨[5],[(.n,⟨[(1,.d yH),(16,.d yH),(17,.d .i),(19,.d .b)],[]⟩)]⟩),(458760,⟨[5,7],[(.n,⟨[(1,.d yH),(6,.d .i),(16,.d yH),(17,.d .i),(18,.d .i),(23,.d yH),(24,.d .i),(26,.d .b)],[]⟩)]⟩)],[(3,q1 [(18,.d .i),(5,.own Q 44)] 0 [(5,.own Q 44)]),(6,q1 [(25,.d .i),(5,.own Q 44),(7,.var Q 44)] 2 [(5,.own Q 44)])],[],[],[],[]⟩ func337<|D (xa fu)<|D (uR fu)<|D (yO fu)<|cN
def Du:yb ⟨149,[.d .i,.d .i],[.d Q],λx=>Y5 fu x.1 x.2.1,0⟩:=sq fu wH func149<|D (xm fu)<|cN
def KX:yb ⟨148,[.d xg,.fn [.i,.i] [Q]],[.own Q 44],λx=>jl fu x.1<|λz0 a=>x.2.1 (z0,a,()),0⟩:=sq fu ⟨[],[],[(3,q1 [(13,.d .i),(5,.own Q 44)] 0 [(5,.own Q 44)])],[],[],[],[]⟩ func148<|cN
def pJ:yb ⟨102,[.d xg],[.own Q 44],λx=>jb fu x.1,0⟩:=sq fu wH func102<|D (xa fu)<|D (KX fu)<|D (Du fu)<|cN
def DB:yb ⟨56,[.d xg],[.own Q 44],λx=>JM fu x.1,0⟩:=sq fu wH func56<|D (pJ fu)<|cN
def rm:yb ⟨297,[.d (.a 4 yH),.d yH,.d Q],[.d (.a 4 yH)],λx=>jN fu x.1 x.2.1 x.2.2.1,0⟩:=sq fu wH func297<|D (QW fu)<|D (Ab fu)<|D (tX fu)<|D (tT fu)<|D (si fu)<|D (DB fu)<|cN
def sM:yb ⟨370,[.d (.p Q (.p Q Q)),.d Q,.d (.p Q (.p Q Q))],[.d (.p Q (.p Q Q))],λx=>ZC fu x.1 x.2.1 x.2.2.1,0⟩:=sq fu wH func370<|D (X2 fu)<|D (yO fu)<|cN
def EH:yb ⟨334,[.d Q,.d Q],[.d Q,.d Q,.d Q],λx=>Wz fu x.1 x.2.1,0⟩:=sq fu ⟨[],[(393224,⟨[4,5,6],[(.n,⟨[(7,.var (.p Q (.p Q Q)) 335)],[]⟩)]⟩),(524298,⟨[4,5,6],[(.n,⟨[(7,.var (.p Q (.p Q Q)) 335)],[]⟩)]⟩)],[(2,⟨⟨[(7,.var (.p Q (.p Q Q)) 335),(8,.var (.p Q (.p Q Q)) 335)],[]⟩,⟨[4,5,6],[(.x 0,⟨[(7,.var (.p Q (.p Q Q)) 335)],[]⟩)]⟩⟩)],[(1,[]),(9,[])],[],[],[]⟩ func334<|D (xm fu)<|D (vC fu)<|D (JS fu)<|D (qU fu)<|D (mq fu)<|D (sM fu)<|cN
def LA:yb ⟨295,[.d yH,.d Q],[.own Q 44],λx=>QV fu x.1 x.2.1,0⟩:=sq fu ⟨[],[],[],[(1,[])],[],[],[]⟩ func295<|D (QW fu)<|D (WZ fu)<|D (EH fu)<|cN
def EJ:VM:=⟨255,[.d yH,.d (.l xg),.d .i,.d .i,.d Q],[.own yH 22],λx=>qb fu x.1 x.2.1 x.2.2.1 x.2.2.2.1 x.2.2.2.2.1,0⟩
def ia:∀fu:K,yb (EJ fu)
 |0=>sg0 i8 λ_=>O
 |fu+1=>sq fu ⟨[],[],[(10,q1 [(22,.d .i),(21,.var (.a 4 yH) 273)] 0 [(21,.var (.a 4 yH) 273)])],[(14,[])],[],[],[]⟩ func255<|D (Kz fu)<|D (Uy fu)<|D (pJ fu)<|D (LA fu)<|D (ef fu)<|D (rm fu)<|D (JB fu)<|D (Vo fu)<|D (ia fu)<|cN
def lu:yb ⟨212,[.d yH,.d (.l xg),.d .i,.d .i],[.own yH 22,.d .i],λx=>jj fu x.1 x.2.1 x.2.2.1 x.2.2.2.1,0⟩:=sq fu wH func212<|D (QW fu)<|D (JB fu)<|D (xa fu)<|D (Da fu)<|D (ia fu)<|cN
def Mc:yb ⟨300,[.d yH,.d yH,.d Q],[.d yH,.d .i],λx=>QQ fu x.1 x.2.1 x.2.2.1,0⟩:=sq fu wH func300<|D (tT fu)<|D (ny fu)<|cN
def JE:yb ⟨246,[.d Q,.d Q],[.d .i],λx=>kq fu x.1 x.2.1,0⟩:=sq fu wH func246<|D (X2 fu)<|D (vC fu)<|cN
def Lh:yb ⟨340,[.d Q,.d Q],[.d Q,.d .i],λx=>Y7 fu x.1 x.2.1,0⟩:=sq fu wH func340<|D (X2 fu)<|D (uR fu)<|D (QS fu)<|D (JE fu)<|cN
def Ff:yb ⟨301,[.d yH,.d Q],[.own Q 44,.d .i],λx=>WU fu x.1 x.2.1,0⟩:=sq fu wH func301<|D (eY fu)<|D (Lh fu)<|cN
def ZH:VM:=⟨258,[.d yH,.d tzQ,.own .i 3,.d Q],[.d yH,.own .i 3],λx=>jA fu x.1 x.2.1 x.2.2.1 x.2.2.2.1,1⟩
def gN:yb (ZH fu):=sgb (fu:=fu) ⟨[],[(262149,⟨[2],[(.n,⟨[(1,.d tzQ),(7,.q Q),(18,.d .i),(20,.d .b)],[]⟩)]⟩)],[(3,⟨⟨[(9,.d yH),(19,.d .i),(2,.own .i 3)],[(17,.al 2)]⟩,⟨[],[(.x 0,⟨[(9,.d yH),(2,.own .i 3)],[]⟩)]⟩⟩)],[],[],[],[]⟩ func258 (D (kO fu)<|D (Mc fu)<|D (Ff fu)<|cN) i8 λa x=>by kernel_rfl
def Wh:E8:=⟨299,[.q .i,.q .i],.i,3,λx _ _ g x0=>vg fu x.1 x.2.1 g x0⟩
def anC:An:=⟨[],[],[(2,⟨⟨[(4,.own .i 3),(12,.d .i)],[]⟩,⟨[0],[(.x 0,⟨[(4,.own .i 3)],[]⟩)]⟩⟩),(8,⟨⟨[(6,.d .i)],[]⟩,⟨[0,4],[(.x 4,⟨[(6,.d .i)],[]⟩)]⟩⟩),(13,⟨⟨[(7,.d .i),(4,.own .i 3)],[]⟩,⟨[0],[(.x 6,⟨[(4,.own .i 3)],[]⟩)]⟩⟩)],[],[],[],[]⟩
def zkE:Wr->Wr|.seq a _=>a|c=>c
def Gj:Wr->Wr|.seq _ b=>b|c=>c
def kIn:Wr->Wr|.block _ c=>c|.loop c=>c|c=>c
def FX(f:JP):Wr:=match f.body with|some c=>c|none=> .skip
noncomputable def kA:Wr:=zkE<|FX f299
noncomputable def kB:Wr:=zkE<|Gj<|FX f299
noncomputable def kC:Wr:=kIn<|kIn<|Gj<|Gj<|FX f299
section
variable{X Y R:Type}{mX:X->wN->MF}{mY:Y->wN->MF}{g:xS wl->X->ww (xS wl×(X⊕Y))}{n all:wl}
def cfC:Cf:=⟨tt,[],anC,fu,ex,[],[],[]⟩
def S0(mX:X->wN->MF)(mY:Y->wN->MF)(g:N J->X->V (N J×(X⊕Y)))(n all:J)(x0:X):Sg:=⟨1,[(0,0,.yd 0),(1,0,.q .i n),(2,0,.q .i all)],[(0,.hid .i 3 X Y mX mY g x0)]⟩
def S1(mX:X->wN->MF)(mY:Y->wN->MF)(g:N J->X->V (N J×(X⊕Y)))(n all:J)(x0:X)(xs:N J):Sg:=⟨2,[(4,0,.ow 1),(9,0,.ow 1),(8,0,.d .i n),(0,0,.yd 0),(1,0,.q .i n),(2,0,.q .i all)],[(1,.own .i 3 xs),(0,.hid .i 3 X Y mX mY g x0)]⟩
def S2(mX:X->wN->MF)(mY:Y->wN->MF)(g:N J->X->V (N J×(X⊕Y)))(n all:J)(x0:X)(xs ys:N J):Sg:=⟨3,[(4,0,.ow 2),(4,0,.ow 2),(11,0,.d .i (lM xs:J)),(8,0,.d .i n),(0,0,.yd 0),(1,0,.q .i n),(2,0,.q .i all)],[(2,.own .i 3 ys),(0,.hid .i 3 X Y mX mY g x0)]⟩
def Sn(mX:X->wN->MF)(mY:Y->wN->MF)(g:N J->X->V (N J×(X⊕Y)))(n all:J)(x:X)(xs:N J)(b a c y x0:J):Sg:=
 ⟨5,[(4,0,.ow 4),(4,0,.ow 4),(51,0,.d .i b),(50,0,.d .i a),(48,0,.d .i c),(47,0,.d .i y),(45,0,.d .i a),(43,0,.kb I),(42,0,.d .i a),(6,0,.d .i a),(6,0,.d .i a),(25,0,.d .i x0),(24,0,.d .i n),(23,0,.kb I),(22,0,.kb wL),(20,0,.yd 2),(0,0,.yd 2),(1,0,.q .i n),(2,0,.q .i all)],[(4,.own .i 3 xs),(2,.hid .i 3 X Y mX mY g x)]⟩
def Sr(mX:X->wN->MF)(mY:Y->wN->MF)(g:N J->X->V (N J×(X⊕Y)))(n all:J)(x:X)(x0 a:J)(xs:N J):Sg:=
 ⟨4,[(43,0,.kb wL),(42,0,.d .i a),(6,0,.d .i a),(6,0,.d .i a),(25,0,.d .i x0),(24,0,.d .i n),(23,0,.kb I),(22,0,.kb wL),(21,0,.ow 1),(20,0,.yd 2),(4,0,.ow 1),(0,0,.yd 2),(1,0,.q .i n),(2,0,.q .i all)],[(2,.hid .i 3 X Y mX mY g x),(1,.own .i 3 xs)]⟩
def Sy(mY:Y->wN->MF)(n all:J)(y:Y)(xs:N J):Sg:=
 ⟨3,[(23,0,.kb wL),(22,0,.kb I),(21,0,.ow 1),(20,0,.yd 2),(4,0,.ow 1),(0,0,.yd 2),(1,0,.q .i n),(2,0,.q .i all)],[(2,.hiy Y mY y),(1,.own .i 3 xs)]⟩
def zqA(x0:X)(K:Tg->Sg->V R):den (cfC fu) kA ⟨0,[],[]⟩ (S0 mX mY g n all x0) K=jX n λm=>ck (8*m<=281474976710656)<|B (xaa m 0) λxs=>K .n (S1 mX mY g n all x0 xs):=i8
def zp2(x0:X)(xs:N J)(K:Tg->Sg->V R):den (cfC fu) kB ⟨0,[],[]⟩ (S1 mX mY g n all x0 xs) K=bd (zg (λL (z:N J×J)=>
 if z.2<(lM xs:J)then
  zI z.2 (lM z.1) λj=>
  B (z.1.set j z.2) λxs=>
  zf (z.2+1) λi=>L (xs,i)
 else Z z.1) fu (xs,0)) λys=>K .n (S2 mX mY g n all x0 xs ys):=i8
def zp3(x:X)(xs:N J)(K:Tg->Sg->V R):den (cfC fu) kC ⟨0,[],[]⟩ (chS 3 mX mY g n all x xs) K=
 qm fu n all g x xs (λx xs a b c d e=>K .n<|Sn mX mY g n all x xs a b c d e) (λx a b xs=>K .r<|Sr mX mY g n all x a b xs) λy xs=>K .r (Sy mY n all y xs):=i8
def zh6(g:xS J->X->V (xS J×(X⊕Y)))(x0:X)(r:X⊕Y)(l:wr)(v1 E u:wN)(we:wP)(Se:wr->Prop)(F:xS MF)(G:xS FF)(w:wP)(hY:RL Tryz.prog l eI 3 mX mY g)
 (hi:St we Se (mX x0 u::F) (ZE Tryz.prog [.q .i,.q .i] (n,all,()) [v1,E]++G) w) (hM:vg fu n all g x0=Z r):
 UP Tryz.prog 299 #[.func (.yield l) #[] #[],v1,E] w λe w'=>(∃v,e=.returned v)/\∃C,St we Se (xfH (λx=>mX x C) (λy=>mY y C) r::F) G w':=by
 have hX:ED Tryz.prog (cfC fu):=.of R0 O;have U:∀c,TU 66 c=wL->GN Tryz.prog (cfC fu) 66 c:=λc h=>XO zab zao R5 cN hX c h;refine UX (args:=[.func (.yield l) #[] #[],v1,E]) (c:=FX f299) func299 O i8 λrest=> ?_;have hj:Yw Tryz.prog (Fr.wd ⟨we,Se,F,G⟩ []) ⟨0,[],[]⟩ (S0 mX mY g n all x0) (L ((([Value.func (.yield l) #[] #[],v1,E]:xS wN).zipIdx 0).map λx=>(x.2,x.1)) rest) w:=by
  refine⟨⟨λe D=> ?_,λ_ D=>wS D Nm,λe D q hq=> ?_,λ_ D=>wS D Nm⟩,λ_=>UG (.int .i64 (l:J)) [u],?_⟩
  ·obtain rfl:=xag.1 D;exact xdY
  ·simp only[S0,xaf,Nm,fD]at D;obtain rfl|rfl|rfl:=D<;>cases hq<;>exact xdY
  ·have h1:St we Se (JZ (λ_=>UG (.int .i64 (l:J)) [u]) (0,.hid .i 3 X Y mX mY g x0)::F) (ZE Tryz.prog [.q .i,.q .i] (n,all,()) [v1,E]++G) w:=St.grp.2<|St.pr hY hi;exact h1.weak λS w Q=>⟨O,Q.1,Q.2.1,Q.2.2⟩
 have⟨f2,hf⟩:∃f2:xS J->V (X⊕Y),f2=λxs=>zg (λL (q:X×xS J)=>qm fu n all g q.1 q.2 (λx xs _ _ _ _ _=>L (x,xs)) (λx _ _ _=>Z (.inl x)) λy _=>Z (.inr y)) fu (x0,xs):=⟨_,O⟩;have⟨f1,hg⟩:∃f1:xS J->V (X⊕Y),f1=λxs=>bd (zg (λL (z:xS J×J)=>
  if z.2<(lM xs:J)then
   zI z.2 (lM z.1) λj=>
   B (z.1.set j z.2) λxs=>
   zf (z.2+1) λi=>L (xs,i)
  else Z z.1) fu (xs,0)) f2:=⟨_,O⟩
 have hm:(jX n λm=>ck (8*m<=281474976710656)<|B (xaa m 0) f1)=Z r:=by rw[hg,hf];exact hM
 refine Be (x:=kA) (y:=Gj<|FX f299) ?_;have⟨K,k1,k2⟩:=zgc (λxs:xS J=>(Tg.n,S1 mX mY g n all x0 xs)) f1 (λi j h=>by
  have f:Od.own .i 3 i=Od.own .i 3 j:=by simpa[S1]using h
  cases f;rfl)
 have k1:∀xs,K .n (S1 mX mY g n all x0 xs)=f1 xs:=k1;refine U kA i8 (N:=Nd.of 66) (K:=K) O (.inl O) (r:=r) ((zqA fu x0 K).trans<|by simp only[k1];exact hm) (λt σ' H Ds env w _ s=> ?_) hj;have⟨xs,e1,e2⟩:=k2 _ _ _ H;cases e1;refine Be (x:=kB) (y:=Gj<|Gj<|FX f299) ?_;have⟨K,k1,k2⟩:=zgc (λys:xS J=>(Tg.n,S2 mX mY g n all x0 xs ys)) f2 (λi j h=>by
  have f:Od.own .i 3 i=Od.own .i 3 j:=by simpa[S2]using h
  cases f;rfl)
 have k1:∀ys,K .n (S2 mX mY g n all x0 xs ys)=f2 ys:=k1;refine U kB i8 (N:=Nd.of 66) (K:=K) O (.inl O) (r:=r) ((zp2 fu x0 xs K).trans<|by simp only[k1];rw[hg]at e2;exact e2) (λt σ' H Ds env w _ s=> ?_) s;have⟨ys,e3,e4⟩:=k2 _ _ _ H;cases e3;have hn:Yw Tryz.prog (Fr.wd ⟨we,Se,F,G⟩ Ds) ⟨0,[],[]⟩ (chS 3 mX mY g n all x0 ys) env w:=zkF (o:=0) (p:=2) O O O O O O O s;refine Gy (id:=2) (c:=.loop kC) ?_;have⟨body,hc⟩:∃body:((X×xS J)->V (X⊕Y))->(X×xS J)->V (X⊕Y),body=λL q=>qm fu n all g q.1 q.2 (λx xs _ _ _ _ _=>L (x,xs)) (λx _ _ _=>Z (.inl x)) λy _=>Z (.inr y):=⟨_,O⟩;refine OB (G:=wr×(X×xS J)) (λq Ds env w=>zg body q.1 q.2=Z r/\Yw Tryz.prog (Fr.wd ⟨we,Se,F,G⟩ Ds) ⟨0,[],[]⟩ (chS 3 mX mY g n all q.2.1 q.2.2) env w) (λq=>q.1) (fu,(x0,ys)) ⟨by rw[hc];rw[hf]at e4;exact e4,hn⟩ ?_;rintro⟨k,x,xs⟩ Ds env w ⟨hl,s⟩
 cases k with
 |zero=>exact(zby hl).elim
 |succ k=>
  have hl:=zbN hl
  have⟨K,k1,k2⟩:=zgc (ι:=(X×xS J×J×J×J×J×J)⊕((X×J×J×xS J)⊕(Y×xS J)))
   (λq=>match q with
    |.inl (x,xs,a,b,c,d,e)=>(Tg.n,Sn mX mY g n all x xs a b c d e)
    |.inr (.inl (x,a,b,xs))=>(Tg.r,Sr mX mY g n all x a b xs)
    |.inr (.inr (y,xs))=>(Tg.r,Sy mY n all y xs))
   (λq=>match q with
    |.inl (x,xs,_,_,_,_,_)=>zg body k (x,xs)
    |.inr (.inl (x,_,_,_))=>Z (.inl x)
    |.inr (.inr (y,_))=>Z (.inr y)) (λi j h=>by
   rcases i with⟨x,xs,a,b,c,d,e⟩|⟨x,a,b,xs⟩|⟨y,xs⟩<;>rcases j with⟨T,A,a',b',c',d',e'⟩|⟨T,a',b',A⟩|⟨y',A⟩
   ·have f:=ut (λq:Tg×Sg=>q.2.ob) h
    simp only[Sn,xeQ,xcI,cE,gC]at f
    have⟨M,h4⟩:=f
    cases M;cases h4;rfl
   ·cases ut Prod.fst h
   ·cases ut Prod.fst h
   ·cases ut Prod.fst h
   ·have f:=ut (λq:Tg×Sg=>q.2.ob) h
    simp only[Sr,xeQ,xcI,cE,gC]at f
    have⟨M,h4⟩:=f
    cases M;rfl
   ·exact wS (ut (λq:Tg×Sg=>q.2.nx) h)<|by simp[Sr,Sy]
   ·cases ut Prod.fst h
   ·exact wS (ut (λq:Tg×Sg=>q.2.nx) h)<|by simp[Sr,Sy]
   ·have f:=ut (λq:Tg×Sg=>q.2.ob) h
    simp only[Sy,xeQ,xcI,cE,gC]at f
    have⟨M,h4⟩:=f
    cases M;rfl)
  have q1:∀x xs a b c d e,K .n (Sn mX mY g n all x xs a b c d e)=zg body k (x,xs):=λx xs a b c d e=>k1 (.inl (x,xs,a,b,c,d,e));have q2:∀x a b xs,K .r (Sr mX mY g n all x a b xs)=Z (.inl x):=λx a b xs=>k1 (.inr (.inl (x,a,b,xs)));have q3:∀y xs,K .r (Sy mY n all y xs)=Z (.inr y):=λy xs=>k1 (.inr (.inr (y,xs)));refine U kC i8 (N:=Nd.of 66) (K:=K) O (.inl O) (r:=r) ((zp3 fu x xs K).trans<|by simp only[q1,q2,q3];rw[hc]at hl⊢;exact hl) (λt σ' H Ds env w _ s=> ?_) s;have⟨i,e5,e6⟩:=k2 _ _ _ H
  have P:∀(t:Tg) (env:y7) (w:wP),(∃C,St we Se (xfH (λx=>mX x C) (λy=>mY y C) r::F) G<|jr Ds w)->DK Ds w->∀a:Kw,yJ a=env->
   ∃v,(Jp f299 a.tmps).run Tryz.prog (jr Ds w)=.ok v (jr Ds w)/\(∃v',xeR v=.returned v')/\∃C,St we Se (xfH (λx=>mX x C) (λy=>mY y C) r::F) G (jr Ds w):=λt env w h1 f a Q=>⟨_,VC (rs:=[]) (vs:=[]) O wR,⟨_,O⟩,h1⟩
  rcases i with⟨T,A,a,b,c,d,e⟩|⟨T,a,b,A⟩|⟨y',A⟩
  ·cases e5;exact⟨(k,(T,A)),⟨e6,zkF (o:=2) (p:=4) O O O O O O O s⟩,xbR k⟩
  ·cases e5;cases e6;have⟨hd,s⟩:=JR s;exact⟨.inr O,hd,P .r _ _ (zlW (o:=2) O s) hd⟩
  ·cases e5;cases e6;have⟨hd,s⟩:=JR s;exact⟨.inr O,hd,P .r _ _ (zmR (o:=2) O s) hd⟩
end
def sL:zdO Tryz.prog (Wh fu):=by
 refine⟨i8,?_⟩;rintro⟨n,a,_⟩ X Y f h g x0 r b l vs c d u we Se F G w hc
 match vs,c with
 |[v1,e],_=>exact zh6 fu g x0 r l v1 e u we Se F G w d hc b
def Xw:Ns:=⟨257,[.i,.i],299,λx=>[⟨.i,x.2.1⟩,⟨.i,x.1⟩]⟩
def CK:S4 Tryz.prog Xw:=zmM (s:=Xw) (cf:=⟨tt,[],wH,0,ex,[],[],[]⟩) zab zao R5 cN (.of R0 O) func257 i8 λx=>by kernel_rfl
def Y3:yb ⟨341,[.d xg,.d .i],[.d .i],λx=>YR fu x.1 x.2.1,0⟩:=sq fu ⟨[],[],[(2,⟨⟨[(8,.d .i)],[]⟩,⟨[],[(.x 0,⟨[],[]⟩),(.r,⟨[(4,.d .i)],[]⟩)]⟩⟩)],[],[],[],[]⟩ func341<|cN
def J1:yb ⟨341,[.own .i 3,.d .i],[.d .i,.own .i 3],λx=>qJ fu x.1 x.2.1,1⟩:=sgb (fu:=fu) ⟨[],[],[(2,⟨⟨[(8,.d .i)],[]⟩,⟨[0],[(.x 0,⟨[],[]⟩),(.r,⟨[(4,.d .i)],[]⟩)]⟩⟩)],[],[],[],[]⟩ func341 (cN) i8 λa x=>by kernel_rfl
def JY:yb ⟨302,[.d xg,.d .i],[.d .b],λx=>J0 fu x.1 x.2.1,0⟩:=sq fu wH func302<|D (Y3 fu)<|cN
def VP:yb ⟨302,[.own .i 3,.d .i],[.d .b,.own .i 3],λx=>wg fu x.1 x.2.1,1⟩:=sgb (fu:=fu) wH func302 (D (J1 fu)<|D (Y3 fu)<|cN) i8 λa x=>by kernel_rfl
def qK:VM:=⟨259,[.d tzQ,.own .i 3],[.d tzQ,.own .i 3],λx=>xQ fu x.1 x.2.1,1⟩
def JX:yb (qK fu):=sgb (fu:=fu) ⟨[],[(262149,⟨[1,5],[(.n,⟨[(8,.d tzQ),(9,.d .i),(11,.d .b)],[]⟩)]⟩)],[(3,q1 [(5,.own yH 22),(10,.d .i),(1,.own .i 3)] 0 [(5,.own yH 22),(1,.own .i 3)])],[],[],[],[]⟩ func259 (D (VP fu)<|D (JY fu)<|cN) i8 λa x=>by kernel_rfl
def iF:VM:=⟨213,[.d yH,.d tzQ,.d Q],[.own yH 22],λx=>ZN fu x.1 x.2.1 x.2.2.1,0⟩
def Fq:yb (iF fu):=SL (s:=iF fu) (cf:=⟨tt,[ZH fu,eZ fu,qK fu,aj fu],⟨[3,4],[],[(3,q1 [(3,.var yH 22),(4,.var tzQ 105),(7,.bo yH 22 105),(8,.d .i)] 0 [(3,.var yH 22),(4,.var tzQ 105),(7,.bo yH 22 105)]),(6,q1 [(3,.var yH 22),(4,.var tzQ 105),(7,.bo yH 22 105)] 1 [])],[(13,[56,57])],[],[7],[]⟩,fu,ex,[],[Xw],[Wh fu]⟩) zab zao R5 (D (gN fu)<|D (W8 fu)<|D (JX fu)<|D (kO fu)<|cN) ⟨R0,λs h=>by obtain rfl:=xag.1 h;exact CK,λ_ h=>wS h Nm,λs h=>by obtain rfl:=xag.1 h;exact sL fu,O⟩ func213 i8 O λx r h=>(id i8:SD ⟨tt,[ZH fu,eZ fu,qK fu,aj fu],⟨[3,4],[],[(3,q1 [(3,.var yH 22),(4,.var tzQ 105),(7,.bo yH 22 105),(8,.d .i)] 0 [(3,.var yH 22),(4,.var tzQ 105),(7,.bo yH 22 105)]),(6,q1 [(3,.var yH 22),(4,.var tzQ 105),(7,.bo yH 22 105)] 1 [])],[(13,[56,57])],[],[7],[]⟩,fu,ex,[],[Xw],[Wh fu]⟩ f213 [.d yH,.d tzQ,.d Q] [.own yH 22] x=ZN fu x.1 x.2.1 x.2.2.1).trans h
def IM:yb ⟨262,[.d yH,.d yH],[.d .b],λx=>Xc fu x.1 x.2.1,0⟩:=sq fu ⟨[],[],[(5,⟨⟨[(5,.d .i)],[]⟩,⟨[0,1],[(.x 0,⟨[],[]⟩),(.r,⟨[(4,.d .b)],[]⟩)]⟩⟩)],[],[],[],[]⟩ func262<|D (xa fu)<|D (JE fu)<|cN
def BZ:yb ⟨215,[.d yH,.d yH],[.d .i],λx=>jV fu x.1 x.2.1,0⟩:=sq fu wH func215<|D (IM fu)<|cN
def NW:yb ⟨270,[.d Q,.d .i],[.d Q,.d .i],λx=>Kj fu x.1 x.2.1,0⟩:=sq fu ⟨[],[],[(6,⟨⟨[(4,.var Q 44),(6,.var Q 44),(9,.var Q 44)],[]⟩,⟨[],[(.r,⟨[(4,.var Q 44)],[(5,.ci 0)]⟩)]⟩⟩),(11,⟨⟨[(1,.d .i),(2,.q Q),(52,.d .i),(11,.var Q 44)],[]⟩,⟨[4,6,9,10],[(.x 2,⟨[(1,.d .i),(2,.q Q),(11,.var Q 44)],[]⟩)]⟩⟩)],[],[],[],[]⟩ func270<|D (xm fu)<|D (vC fu)<|D (uR fu)<|D (qU fu)<|D (yO fu)<|D (bh fu)<|D (JE fu)<|D (sF fu)<|D (Gw fu)<|cN
def nP:yb ⟨203,[.d yH],[.d .i],λx=>XA fu x.1,0⟩:=sq fu wH func203<|D (xa fu)<|cN
def QJ:yb ⟨240,[.d yH],[.d Q,.d .i],λx=>vz fu x.1,0⟩:=sq fu ⟨[],[(524297,⟨[0,2,5],[(.n,⟨[(22,.d .i),(24,.d .b)],[]⟩)]⟩)],[(7,⟨⟨[(23,.d .i),(0,.own Q 44),(2,.var Q 44),(5,.var Q 44)],[(21,.al 0)]⟩,⟨[],[(.x 0,⟨[(0,.own Q 44),(2,.var Q 44),(5,.var Q 44)],[]⟩)]⟩⟩)],[],[],[],[]⟩ func240<|D (xm fu)<|D (uR fu)<|D (Yv fu)<|D (nP fu)<|D (NW fu)<|D (xa fu)<|D (sF fu)<|D (yO fu)<|cN
def Fe:yb ⟨209,[.d yH,.d .i],[.d .i],λx=>WC fu x.1 x.2.1,0⟩:=sq fu ⟨[],[],[(5,⟨⟨[(9,.d .i),(8,.var Q 44)],[]⟩,⟨[5,7],[(.x 0,⟨[(9,.d .i)],[]⟩)]⟩⟩)],[(2,[])],[],[],[]⟩ func209<|D (QJ fu)<|D (xm fu)<|D (yO fu)<|D (JE fu)<|cN
def Mi:yb ⟨207,[.d yH],[.d .b],λx=>QE fu x.1,0⟩:=sq fu ⟨[],[],[],[(2,[])],[],[],[]⟩ func207<|D (QJ fu)<|D (xm fu)<|D (yO fu)<|D (bh fu)<|cN
def Eh:yb ⟨279,[.d xg,.d xg],[.d .i],λx=>vG fu x.1 x.2.1,0⟩:=sq fu ⟨[],[],[(4,⟨⟨[(5,.d .i)],[]⟩,⟨[],[(.x 0,⟨[],[]⟩),(.r,⟨[(4,.d .i)],[]⟩)]⟩⟩)],[],[],[],[]⟩ func279<|cN
def X5:VM:=⟨373,[.d xg,.q .i],[.d .b],λx=>jD fu x.1 x.2.1,0⟩
def rQ:yb (X5 fu):=sq fu wH func373<|cN
def aI:VM:=⟨372,[.d xg,.d .i],[.own .i 3],λx=>Xm fu x.1 x.2.1,0⟩
def L9:yb (aI fu):=sq fu ⟨[],[],[(3,q1 [(13,.d .i),(5,.own .i 3)] 0 [(5,.own .i 3)])],[],[],[],[]⟩ func372<|D (fI fu)<|cN
def ai:VM:=⟨349,[.d (.l xg),.d .i],[.d .i],λx=>Xx fu x.1 x.2.1,0⟩
def oQ:yb (ai fu):=sq fu ⟨[],[(393223,⟨[],[(.n,⟨[(0,.d (.l xg)),(17,.d (.l xg)),(18,.d .i),(20,.d .b)],[]⟩)]⟩)],[(5,⟨⟨[(19,.d .i)],[]⟩,⟨[],[(.x 0,⟨[],[]⟩),(.r,⟨[],[(4,.ci 1)]⟩)]⟩⟩)],[],[],[],[]⟩ func349<|D (jm fu)<|cN
def WE:Cc:=⟨374,.i,125,3,λxss ix r a p lo n=>qc fu xss ix r a p lo n⟩
def Fy(b:wN)(xss:N (N J))(ix:N K)(r:K)(a p:J)(lo n:K):znd ⟨tt,[],(⟨[],[],[(1,q1 [(3,.matv .i 125 3),(13,.view 0),(0,.row 0),(15,.d .i)] 0 [(3,.matv .i 125 3)]),(5,q1 [(3,.matv .i 125 3),(13,.view 0),(0,.row 0),(23,.row 0),(9,.row 0),(25,.d .i)] 2 [(3,.matv .i 125 3),(13,.view 0),(0,.row 0)])],[],[],[],[]⟩:An),fu,ex,[],[],[]⟩ f374 .i 125 3 b xss ix r a p lo n=qc fu xss ix r a p lo n:=i8
def FB:SU Tryz.prog (WE fu):=zm3 (s:=WE fu) (cf:=⟨tt,[],(⟨[],[],[(1,q1 [(3,.matv .i 125 3),(13,.view 0),(0,.row 0),(15,.d .i)] 0 [(3,.matv .i 125 3)]),(5,q1 [(3,.matv .i 125 3),(13,.view 0),(0,.row 0),(23,.row 0),(9,.row 0),(25,.d .i)] 2 [(3,.matv .i 125 3),(13,.view 0),(0,.row 0)])],[],[],[],[]⟩:An),fu,ex,[],[],[]⟩) zab zao R5 cN (.of R0 O) func374 i8 λb xss ix r a p lo n z h=>(Fy fu b xss ix r a p lo n).trans h
def qF:VM:=⟨286,[.d (.l xg),.fn [xg] [.b]],[.d .i],λx=>yP fu x.1<|λz0=>x.2.1 (z0,()),0⟩
def uO:yb (qF fu):=sq fu ⟨[],[],[(2,⟨⟨[(8,.d .i)],[]⟩,⟨[],[(.x 0,⟨[],[]⟩),(.r,⟨[(4,.d .i)],[]⟩)]⟩⟩)],[],[],[],[]⟩ func286<|cN
def dU:VM:=⟨350,[.d (.l xg),.d .i],[.d (.l xg),.d .i],λx=>u5 fu x.1 x.2.1,0⟩
def DE:yb (dU fu):=SL (s:=dU fu) (cf:=⟨tt,[ai fu,aI fu,qF fu,DZ fu,X5 fu],⟨[],[],[(6,q1 [(7,.mat .i 125 3),(25,.d .i)] 0 [(7,.mat .i 125 3)]),(12,q1 [(7,.mat .i 125 3),(10,.d .i),(11,.var .i 3)] 2 [(7,.mat .i 125 3),(10,.d .i)]),(19,q1 [(7,.mat .i 125 3),(90,.row 0),(92,.d .i)] 4 [(7,.mat .i 125 3)])],[(16,[]),(23,[]),(24,[])],[52,117,128],[33],[]⟩,fu,ex,[WE fu],[],[]⟩) zab zao R5 (D (oQ fu)<|D (L9 fu)<|D (uO fu)<|D (BM fu)<|D (rQ fu)<|cN) ⟨R0,λ_ h=>wS h Nm,λs h=>by obtain rfl:=xag.1 h;exact FB fu,λ_ h=>wS h Nm,O⟩ func350 i8 O λx r h=>(id i8:SD ⟨tt,[ai fu,aI fu,qF fu,DZ fu,X5 fu],⟨[],[],[(6,q1 [(7,.mat .i 125 3),(25,.d .i)] 0 [(7,.mat .i 125 3)]),(12,q1 [(7,.mat .i 125 3),(10,.d .i),(11,.var .i 3)] 2 [(7,.mat .i 125 3),(10,.d .i)]),(19,q1 [(7,.mat .i 125 3),(90,.row 0),(92,.d .i)] 4 [(7,.mat .i 125 3)])],[(16,[]),(23,[]),(24,[])],[52,117,128],[33],[]⟩,fu,ex,[WE fu],[],[]⟩ f350 [.d (.l xg),.d .i] [.d (.l xg),.d .i] x=u5 fu x.1 x.2.1).trans h
def EG:yb ⟨376,[.d .i],[.d .b],λx=>ZP fu x.1,0⟩:=sq fu wH func376<|cN
def VT:yb ⟨375,[.d xg,.fn [.i] [.b]],[.d .i],λx=>xq fu x.1<|λz0=>x.2.1 (z0,()),0⟩:=sq fu ⟨[],[],[(2,⟨⟨[(8,.d .i)],[]⟩,⟨[],[(.x 0,⟨[],[]⟩),(.r,⟨[(4,.d .i)],[]⟩)]⟩⟩)],[],[],[],[]⟩ func375<|cN
def tV:yb ⟨353,[.d xg],[.d .i],λx=>Vm fu x.1,0⟩:=sq fu wH func353<|D (EG fu)<|D (VT fu)<|cN
def Fi:yb ⟨352,[.d xg,.q .i],[.d .b],λx=>jd fu x.1 x.2.1,0⟩:=sq fu wH func352<|D (tV fu)<|cN
def VK:yb ⟨351,[.d (.l xg),.fn [xg] [.b]],[.d .b],λx=>xW fu x.1<|λz0=>x.2.1 (z0,()),0⟩:=sq fu wH func351<|D (uO fu)<|cN
def N9:yb ⟨324,[.d (.l xg),.d .i,.d .i],[.own xg 125,.d .i],λx=>Vg fu x.1 x.2.1 x.2.2.1,0⟩:=sq fu ⟨[],[(131076,⟨[],[(.n,⟨[],[]⟩),(.r,⟨[],[(6,.nil),(7,.ci 1)]⟩)]⟩),(458760,⟨[10],[(.n,⟨[(1,.d .i),(2,.d .i),(8,.d (.l xg)),(46,.d .i),(48,.d .b)],[]⟩)]⟩),(851982,⟨[10,12],[(.n,⟨[(1,.d .i),(2,.d .i),(8,.d (.l xg)),(11,.q .i),(46,.d .i),(47,.d .i),(58,.d (.l xg)),(59,.d .i),(61,.d .b)],[]⟩)]⟩)],[(6,q1 [(10,.own xg 125),(47,.d .i)] 0 [(10,.own xg 125)]),(12,q1 [(60,.d .i),(10,.own xg 125),(12,.own .i 3)] 2 [(10,.own xg 125),(12,.own .i 3)])],[],[],[],[]⟩ func324<|D (Fi fu)<|D (tV fu)<|D (fI fu)<|D (oQ fu)<|D (DE fu)<|D (VK fu)<|cN
def dn:yb ⟨253,[.d xg,.d xg,.d .i],[.own .i 3,.own .i 3,.d .i],λx=>j7 fu x.1 x.2.1 x.2.2.1,0⟩:=sq fu wH func253<|D (wb fu)<|D (Qa fu)<|D (jm fu)<|cN
def fJ:yb ⟨323,[.d xg,.d Q,.d xg,.d .i],[.own .i 3,.d .i],λx=>Ze fu x.1 x.2.1 x.2.2.1 x.2.2.2.1,0⟩:=sq fu ⟨[],[],[(9,⟨⟨[(11,.own .i 3),(13,.d xg),(14,.d .i)],[]⟩,⟨[10,12],[(.x 0,⟨[(11,.own .i 3)],[]⟩)]⟩⟩)],[],[],[],[]⟩ func323<|D (wb fu)<|D (Qa fu)<|D (vC fu)<|D (Yd fu)<|D (bh fu)<|D (jm fu)<|cN
def Ic:yb ⟨277,[.d xg,.d .i],[.own xg 125],λx=>YV fu x.1 x.2.1,0⟩:=sq fu ⟨[],[],[(4,q1 [(6,.mat .i 125 3),(23,.d .i)] 0 [(6,.mat .i 125 3)]),(11,q1 [(6,.mat .i 125 3),(10,.d xg),(8,.d xg),(43,.d .i)] 2 [(6,.mat .i 125 3)]),(14,q1 [(6,.mat .i 125 3),(48,.d .i)] 4 [(6,.mat .i 125 3)])],[],[],[20],[]⟩ func277<|D (xm fu)<|D (fJ fu)<|D (Kz fu)<|D (dn fu)<|D (N9 fu)<|cN
def zdi:yb ⟨322,[.d xg,.d xg,.d .i],[.own .i 3],λx=>fY fu x.1 x.2.1 x.2.2.1,0⟩:=sq fu wH func322<|D (dn fu)<|cN
def Si:yb ⟨320,[.d xg,.d xg,.d .i],[.d xg],λx=>af fu x.1 x.2.1 x.2.2.1,0⟩:=sq fu wH func320<|D (fc fu)<|cN
def AL:yb ⟨318,[.d .i,.q xg,.q .i],[.d .i],λx=>ZZ fu x.1 x.2.1 x.2.2.1,0⟩:=sq fu wH func318<|D (fI fu)<|cN
def OM:yb ⟨348,[.d xg,.d xg,.d .i],[.own .i 3,.d .i],λx=>Ks fu x.1 x.2.1 x.2.2.1,0⟩:=sq fu wH func348<|D (wb fu)<|D (dB fu)<|D (jm fu)<|cN
def Mm:yb ⟨321,[.d xg,.d .i,.d xg,.d .i],[.own .i 3],λx=>QP fu x.1 x.2.1 x.2.2.1 x.2.2.2.1,0⟩:=sq fu wH func321<|D (xm fu)<|D (fJ fu)<|D (OM fu)<|D (tQ fu)<|cN
def FC:yb ⟨276,[.d xg,.d (.l xg),.d .i,.d xg],[.own xg 125],λx=>WY fu x.1 x.2.1 x.2.2.1 x.2.2.2.1,0⟩:=sq fu ⟨[],[(524297,⟨[10],[(.n,⟨[(11,.d .i),(28,.d (.l xg)),(29,.d .i),(31,.d .b)],[]⟩)]⟩),(983056,⟨[10],[(.n,⟨[(1,.d (.l xg)),(6,.q .i),(7,.q xg),(11,.d .i),(13,.d xg),(28,.d (.l xg)),(29,.d .i),(30,.d .i),(73,.d .b)],[]⟩)]⟩)],[(4,q1 [(10,.own xg 125),(11,.d .i)] 0 [(10,.own xg 125)]),(7,⟨⟨[(1,.d (.l xg)),(6,.q .i),(7,.q xg),(10,.own xg 125),(30,.d .i)],[]⟩,⟨[],[(.x 0,⟨[(10,.own xg 125)],[]⟩),(.x 2,⟨[(1,.d (.l xg)),(6,.q .i),(7,.q xg),(10,.own xg 125)],[]⟩)]⟩⟩),(10,⟨⟨[(10,.own xg 125),(14,.d .i)],[]⟩,⟨[],[(.x 0,⟨[(10,.own xg 125)],[]⟩),(.x 4,⟨[(10,.own xg 125)],[]⟩)]⟩⟩)],[],[],[],[]⟩ func276<|D (Si fu)<|D (Mm fu)<|D (zdi fu)<|D (AL fu)<|cN
def iY:yb ⟨347,[.d xg,.d .i],[.own .i 3,.d .i],λx=>jg fu x.1 x.2.1,0⟩:=sq fu wH func347<|D (wb fu)<|D (cY fu)<|D (jm fu)<|cN
def IK:yb ⟨317,[.d xg,.d .i],[.own .i 3,.d .i],λx=>aU fu x.1 x.2.1,0⟩:=sq fu wH func317<|D (iY fu)<|cN
def Fu:yb ⟨314,[.d xg,.d .i],[.own .i 3,.d .i],λx=>W6 fu x.1 x.2.1,0⟩:=sq fu ⟨[],[(458760,⟨[7,17],[(.n,⟨[(1,.d .i),(18,.d .i),(20,.d .b)],[]⟩)]⟩)],[(6,q1 [(7,.own .i 3),(19,.d .i),(17,.own .i 3)] 0 [(7,.own .i 3)])],[],[],[],[]⟩ func314<|D (wb fu)<|D (jm fu)<|cN
def Lg:yb ⟨313,[.d xg,.d .i],[.own .i 3,.d .i],λx=>QU fu x.1 x.2.1,0⟩:=sq fu wH func313<|D (iY fu)<|cN
def Hy:yb ⟨271,[.d xg,.d .i],[.d .b,.d .i],λx=>YA fu x.1 x.2.1,0⟩:=sq fu wH func271<|D (Lg fu)<|D (Fu fu)<|D (fc fu)<|cN
def FM:yb ⟨275,[.d xg,.d .i],[.d xg,.d .i],λx=>ud fu x.1 x.2.1,0⟩:=sq fu wH func275<|D (IK fu)<|D (Hy fu)<|cN
def cd:yb ⟨261,[.d .u],[.d .i],λx=>kX fu x.1,0⟩:=sq fu wH func261<|D (XC fu)<|cN
def ZI:yb ⟨354,[.own xg 125,.d .i,.d .i,.fn [xg,xg] [.i]],[.own xg 125],λx=>vW fu x.1 x.2.1 x.2.2.1<|λz0 a=>x.2.2.2.1 (z0,a,()),1⟩:=sgb (fu:=fu) ⟨[],[],[(1,q1 [(8,.d .i),(0,.own xg 125)] 0 [(0,.own xg 125)]),(4,q1 [(1,.d .i),(2,.d .i),(9,.d .i),(0,.own xg 125)] 2 [(1,.d .i),(2,.d .i),(0,.own xg 125)])],[(6,[])],[],[],[]⟩ func354 (cN) i8 λb x=>by kernel_rfl
def X3:VM:=⟨325,[.own xg 125,.d .i,.d .i,.d .i,.fn [xg,xg] [.i]],[.own xg 125],λx=>jM fu x.1 x.2.1 x.2.2.1 x.2.2.2.1<|λz0 a=>x.2.2.2.2.1 (z0,a,()),1⟩
def jE:∀fu:K,yb (X3 fu)
 |0=>sg0 i8 λ_=>O
 |fu+1=>sgb (fu:=fu) ⟨[],[],[(2,⟨⟨[(1,.d .i),(2,.d .i),(3,.d .i),(0,.own xg 125)],[(10,.kb wL),(11,.kb wL)]⟩,⟨[],[(.r,⟨[(0,.own xg 125)],[]⟩)]⟩⟩)],[],[],[],[]⟩ func325 (D (ZI fu)<|D (jE fu)<|cN) i8 λa x=>by kernel_rfl
def Ql:yb ⟨278,[.own xg 125,.fn [xg,xg] [.i]],[.own xg 125],λx=>wj fu x.1<|λz0 a=>x.2.1 (z0,a,()),1⟩:=sgb (fu:=fu) wH func278 (D (jE fu)<|D (cd fu)<|cN) i8 λb x=>by kernel_rfl
def LK:yb ⟨245,[.d xg,.d .i,.d xg],[.own xg 125,.d .i],λx=>Y9 fu x.1 x.2.1 x.2.2.1,0⟩:=sq fu wH func245<|D (FM fu)<|D (FC fu)<|D (Ic fu)<|D (Ql fu)<|D (Eh fu)<|cN
def Me:yb ⟨242,[.d .i],[.d .i,.d .i],λx=>wM fu x.1,0⟩:=sq fu ⟨[],[],[(4,q1 [(0,.d .i)] 0 [(0,.d .i)])],[],[],[],[]⟩ func242<|D (Jy fu)<|cN
def MN:yb ⟨243,[.d yH,.d .i],[.d .b,.d .i],λx=>QN fu x.1 x.2.1,0⟩:=sq fu wH func243<|D (Hy fu)<|D (QJ fu)<|D (Vo fu)<|D (Jy fu)<|D (xa fu)<|cN
def Mh:yb ⟨208,[.d yH,.d xg],[.d .i,.own xg 125],λx=>Q5 fu x.1 x.2.1,0⟩:=sq fu ⟨[],[],[(4,q1 [(6,.d .i),(7,.d .i),(8,.own xg 125),(9,.d .i),(10,.d .i)] 0 [(6,.d .i),(8,.own xg 125)])],[],[],[],[]⟩ func208<|D (Me fu)<|D (MN fu)<|D (Vo fu)<|D (LK fu)<|cN
def Cv:yb ⟨281,[.d .i],[.d Q],λx=>cJ fu x.1,0⟩:=sq fu ⟨[],[(262149,⟨[2,3],[(.n,⟨[(0,.d .i),(6,.d .i),(8,.d .b)],[]⟩)]⟩)],[(3,q1 [(7,.d .i),(2,.var Q 44),(3,.var Q 44)] 0 [(2,.var Q 44),(3,.var Q 44)])],[(5,[])],[],[],[]⟩ func281<|D (xm fu)<|D (ja fu)<|D (yO fu)<|cN
def FA:yb ⟨280,[.d Q,.d .i],[.d Q],λx=>ZS fu x.1 x.2.1,0⟩:=sq fu ⟨[2],[],[(2,⟨⟨[(1,.d .i),(2,.var Q 44),(5,.var Q 44)],[]⟩,⟨[4],[(.x 0,⟨[(5,.var Q 44)],[]⟩)]⟩⟩)],[],[],[],[]⟩ func280<|D (xm fu)<|D (yO fu)<|cN
def Fh:yb ⟨362,[.d yH,.d yH],[.d Q],λx=>iV fu x.1 x.2.1,0⟩:=sq fu ⟨[],[(262149,⟨[4,5],[(.n,⟨[(1,.d yH),(9,.d yH),(10,.d .i),(12,.d .b)],[]⟩)]⟩)],[(3,q1 [(11,.d .i),(4,.var Q 44),(5,.var Q 44)] 0 [(4,.var Q 44),(5,.var Q 44)])],[],[],[],[]⟩ func362<|D (xm fu)<|D (uR fu)<|D (yO fu)<|cN
def E4:yb ⟨326,[.d yH,.d yH],[.d Q,.d .i],λx=>gZ fu x.1 x.2.1,0⟩:=sq fu wH func326<|D (Fh fu)<|cN
def C0:yb ⟨282,[.d yH],[.d Q],λx=>fL fu x.1,0⟩:=sq fu wH func282<|D (E4 fu)<|cN
def L4:yb ⟨249,[.d yH,.d .i,.d .i],[.d .i,.d .i],λx=>nh fu x.1 x.2.1 x.2.2.1,0⟩:=sq fu ⟨[],[],[(13,⟨⟨[(16,.d .i),(15,.var Q 44)],[]⟩,⟨[8,13,14],[(.x 0,⟨[],[]⟩),(.r,⟨[(6,.d .i)],[(7,.ci 0)]⟩)]⟩⟩)],[],[],[],[]⟩ func249<|D (xm fu)<|D (QJ fu)<|D (kO fu)<|D (JE fu)<|D (Jy fu)<|D (FA fu)<|D (Cv fu)<|D (C0 fu)<|D (yO fu)<|cN
def Az:yb ⟨252,[.d xg,.q xg,.q .i],[.d .b],λx=>AE fu x.1 x.2.1 x.2.2.1,0⟩:=sq fu wH func252<|D (dn fu)<|cN
def ER:yb ⟨211,[.d yH,.d (.l xg),.d .i],[.own yH 22,.d yH,.d (.l xg)],λx=>WV fu x.1 x.2.1 x.2.2.1,0⟩:=sq fu ⟨[],[],[(2,⟨⟨[(0,.d yH),(1,.d (.l xg))],[(9,.nil)]⟩,⟨[],[(.x 0,⟨[(0,.d yH),(1,.d (.l xg))],[(9,.nil)]⟩)]⟩⟩)],[],[],[],[]⟩ func211<|D (lu fu)<|D (Vo fu)<|D (W8 fu)<|D (L4 fu)<|D (Az fu)<|cN
def uq:yb ⟨303,[.own yH 22,.d .i,.d .i,.fn [yH,yH] [.i]],[.own yH 22],λx=>vc fu x.1 x.2.1 x.2.2.1<|λz0 a=>x.2.2.2.1 (z0,a,()),1⟩:=sgb (fu:=fu) ⟨[],[],[(1,q1 [(8,.d .i),(0,.own yH 22)] 0 [(0,.own yH 22)]),(4,q1 [(1,.d .i),(2,.d .i),(9,.d .i),(0,.own yH 22)] 2 [(1,.d .i),(2,.d .i),(0,.own yH 22)])],[(6,[])],[],[],[]⟩ func303 (cN) i8 λb x=>by kernel_rfl
def Yo:VM:=⟨260,[.own yH 22,.d .i,.d .i,.d .i,.fn [yH,yH] [.i]],[.own yH 22],λx=>qy fu x.1 x.2.1 x.2.2.1 x.2.2.2.1<|λz0 a=>x.2.2.2.2.1 (z0,a,()),1⟩
def qB:∀fu:K,yb (Yo fu)
 |0=>sg0 i8 λ_=>O
 |fu+1=>sgb (fu:=fu) ⟨[],[],[(2,⟨⟨[(1,.d .i),(2,.d .i),(3,.d .i),(0,.own yH 22)],[(10,.kb wL),(11,.kb wL)]⟩,⟨[],[(.r,⟨[(0,.own yH 22)],[]⟩)]⟩⟩)],[],[],[],[]⟩ func260 (D (qB fu)<|D (uq fu)<|cN) i8 λa x=>by kernel_rfl
def ZJ:yb ⟨214,[.own yH 22,.fn [yH,yH] [.i]],[.own yH 22],λx=>yD fu x.1<|λz0 a=>x.2.1 (z0,a,()),1⟩:=sgb (fu:=fu) wH func214 (D (qB fu)<|D (cd fu)<|cN) i8 λb x=>by kernel_rfl
def LY:yb ⟨171,[.d yH,.d xg],[.own yH 22,.d .b],λx=>Q3 fu x.1 x.2.1,0⟩:=sq fu wH func171<|D (Mi fu)<|D (Mh fu)<|D (Fe fu)<|D (JB fu)<|D (ER fu)<|D (lu fu)<|D (Fq fu)<|D (ZJ fu)<|D (BZ fu)<|cN
def SC:yb ⟨205,[.d yH,.d yH],[.own Q 44],λx=>Wm fu x.1 x.2.1,0⟩:=sq fu ⟨[],[],[(3,⟨⟨[(6,.d yH),(7,.own Q 44)],[]⟩,⟨[5],[(.x 0,⟨[(6,.d yH)],[]⟩)]⟩⟩)],[],[],[],[]⟩ func205<|D (lN fu)<|D (WZ fu)<|D (kO fu)<|D (ll fu)<|D (Z6 fu)<|cN
def Ag:yb ⟨239,[.d .i,.d Q],[.d Q],λx=>Qc fu x.1 x.2.1,0⟩:=sq fu wH func239<|D (xm fu)<|D (yO fu)<|cN
def EF:yb ⟨206,[.d yH],[.own Q 44],λx=>WO fu x.1,0⟩:=sq fu wH func206<|D (xa fu)<|D (Ag fu)<|D (xu fu)<|cN
def zcu:yb ⟨204,[.d yH,.d yH],[.own Q 44],λx=>rL fu x.1 x.2.1,0⟩:=sq fu wH func204<|D (W8 fu)<|cN
def BU:yb ⟨170,[.d yH],[.own Q 44,.d .i],λx=>qE fu x.1,0⟩:=sq fu wH func170<|D (nP fu)<|D (zcu fu)<|D (SC fu)<|D (EF fu)<|D (kO fu)<|cN
def Dm:yb ⟨129,[.d yH,.d xg],[.d Q,.own (.p yH .i) 61,.d .i],λx=>vD fu x.1 x.2.1,0⟩:=sq fu ⟨[],[(655371,⟨[4,11,32],[(.n,⟨[(0,.d yH),(33,.d .i),(35,.d .b)],[]⟩)]⟩)],[(9,q1 [(11,.own (.p yH .i) 61),(34,.d .i),(4,.var Q 44),(32,.own yH 22)] 0 [(11,.own (.p yH .i) 61),(4,.var Q 44)])],[],[],[],[]⟩ func129<|D (BU fu)<|D (LY fu)<|D (HV fu)<|D (Z6 fu)<|cN
def lK:yb ⟨82,[.d yH],[.d .b,.d .i],λx=>wu fu x.1,0⟩:=sq fu wH func82<|D (Dm fu)<|cN
def tI:yb ⟨40,[.d yH],[.d (.po (.w1 (.p yH (.l (.p Q yq))))),.d .i],λx=>Vs fu x.1,0⟩:=sq fu ⟨[],[(917519,⟨[6],[(.n,⟨[(0,.d yH),(32,.d yH),(33,.d .i),(35,.d .b)],[]⟩)]⟩)],[(13,q1 [(34,.d .i),(6,.vr (.p yH (.l (.p Q yq))) 101 (.p Q yq) 46 2 1)] 1 [(6,.vr (.p yH (.l (.p Q yq))) 101 (.p Q yq) 46 2 1)])],[(15,[])],[],[],[(6,1,46),(31,1,46)]⟩ func40<|D (kO fu)<|D (lK fu)<|D (ax fu)<|cN
def Vy:yb ⟨198,[.own .ch 5],[.own .ch 5],λx=>ki fu x.1,1⟩:=sgb (fu:=fu) ⟨[],[],[(1,q1 [(2,.d .i),(3,.d .i),(0,.own .ch 5)] 0 [(0,.own .ch 5)])],[(3,[])],[],[],[]⟩ func198 (cN) i8 λa x=>by kernel_rfl
def HX:yb ⟨162,[.d .u,.d .b],[.d .tx],λx=>U7 fu x.1 x.2.1,0⟩:=sq fu ⟨[],[],[(2,q1 [(0,.d .u),(5,.own .ch 5)] 0 [(5,.own .ch 5)])],[],[],[],[]⟩ func162<|D (Vy fu)<|cN
def YO:yb ⟨163,[.own .tx 9],[.own .tx 9],λx=>qI fu x.1,1⟩:=sgb (fu:=fu) ⟨[],[],[(1,q1 [(2,.d .i),(3,.d .i),(0,.own .tx 9)] 0 [(0,.own .tx 9)])],[(3,[])],[],[],[]⟩ func163 (cN) i8 λa x=>by kernel_rfl
def DV:yb ⟨164,[.d (.l .tx),.d .tx],[.d .tx],λx=>fU fu x.1 x.2.1,0⟩:=zf8 i8 Tryz.strings_Join_none Tryz.strings_Join
def BH:yb ⟨117,[.d yq],[.d .tx],λx=>aN fu x.1,0⟩:=sq fu ⟨[],[],[(3,q1 [(0,.d yq),(3,.own .tx 9)] 0 [(3,.own .tx 9)])],[],[],[],[]⟩ func117<|D (tM fu)<|D (HX fu)<|D (YO fu)<|D (DV fu)<|D (xb fu)<|D (wZ fu)<|cN
def PC:yb ⟨115,[.d (.p Q yq)],[.d Q,.d .b],λx=>tK fu x.1,0⟩:=sq fu ⟨[1],[],[],[],[],[],[]⟩ func115<|D (Yr fu)<|D (sj fu)<|cN
def RF:yb ⟨116,[.d Q],[.d .tx],λx=>cV fu x.1,0⟩:=sq fu wH func116<|D (vC fu)<|D (BH fu)<|cN
def Td:yb ⟨77,[.d (.p Q yq)],[.d .tx],λx=>Eu fu x.1,0⟩:=sq fu ⟨[1],[],[],[],[],[],[]⟩ func77<|D (Yr fu)<|D (PC fu)<|D (RF fu)<|D (BH fu)<|cN
def Fo:yb ⟨37,[],[.d .b],λx=>W3 fu,0⟩:=sq fu wH func37<|D (tI fu)<|D (Td fu)<|D (dK fu)<|D (KA fu)<|D (pB fu)<|D (DB fu)<|D (du fu)<|cN
def Ou:yb ⟨45,[.d .i,.d .i,.d (.l (.l (.p Q yq)))],[.d .b],λx=>Vh fu x.1 x.2.1 x.2.2.1,0⟩:=sq fu ⟨[],[],[(2,⟨⟨[(7,.d .i)],[]⟩,⟨[],[(.x 0,⟨[],[]⟩),(.r,⟨[],[(6,.kb I)]⟩)]⟩⟩),(7,⟨⟨[(0,.d .i),(1,.d .i),(2,.d (.l (.l (.p Q yq)))),(8,.d .i)],[]⟩,⟨[],[(.x 2,⟨[(0,.d .i),(1,.d .i),(2,.d (.l (.l (.p Q yq))))],[]⟩),(.r,⟨[],[(6,.kb I)]⟩)]⟩⟩)],[],[],[],[]⟩ func45<|cN
def RA:yb ⟨39,[.d yH],[.d .b],λx=>Kg fu x.1,0⟩:=sq fu ⟨[],[],[(4,⟨⟨[(3,.d .i)],[]⟩,⟨[],[(.x 0,⟨[],[]⟩),(.r,⟨[],[(2,.kb I)]⟩)]⟩⟩)],[],[],[],[]⟩ func39<|cN
def pN:yb ⟨165,[.d yq],[.own .u 73],λx=>YW fu x.1,0⟩:=sq fu ⟨[],[],[(2,q1 [(3,.d .i)] 0 [(3,.d .i)])],[],[],[],[]⟩ func165<|cN
def jc:yb ⟨119,[.d Q],[.d Q],λx=>y8 fu x.1,0⟩:=sq fu wH func119<|D (pN fu)<|cN
def NH:yb ⟨169,[.d Q],[.d Q],λx=>VA fu x.1,0⟩:=sq fu wH func169<|D (jc fu)<|cN
def lJ:yb ⟨230,[.d yq,.d .i],[.d .u],λx=>qq fu x.1 x.2.1,0⟩:=sq fu wH func230<|cN
def eG:yb ⟨238,[.d yq],[.d yq],λx=>YG fu x.1,0⟩:=sq fu ⟨[],[],[(2,q1 [(3,.d .i)] 0 [(3,.d .i)])],[],[],[],[]⟩ func238<|cN
def Xk:yb ⟨229,[.d yq],[.d yq],λx=>xK fu x.1,0⟩:=sq fu ⟨[],[],[(3,q1 [(3,.own .u 73),(4,.d .i)] 0 [(3,.own .u 73)])],[],[],[],[]⟩ func229<|D (eG fu)<|cN
def W5:yb ⟨231,[.d yq],[.own .u 73],λx=>qg fu x.1,0⟩:=sq fu ⟨[],[],[(3,q1 [(3,.own .u 73),(4,.d .i)] 0 [(3,.own .u 73)])],[],[],[],[]⟩ func231<|D (pN fu)<|cN
def tE:yb ⟨187,[.d yq,.d yq],[.own .u 73],λx=>Vj fu x.1 x.2.1,0⟩:=sq fu ⟨[],[],[(6,q1 [(7,.own .u 73),(8,.d .u),(9,.d .i)] 0 [(7,.own .u 73)])],[],[],[],[]⟩ func187<|D (Xk fu)<|D (lJ fu)<|D (W5 fu)<|cN
def bL:yb ⟨232,[.d yq,.d yq],[.d .i],λx=>kV fu x.1 x.2.1,0⟩:=sq fu ⟨[],[],[(2,⟨⟨[(5,.d .i)],[]⟩,⟨[],[(.x 0,⟨[],[]⟩),(.r,⟨[(4,.d .i)],[]⟩)]⟩⟩)],[],[],[],[]⟩ func232<|D (lJ fu)<|cN
def oo:yb ⟨233,[.d yq,.d yq],[.d yq],λx=>Xi fu x.1 x.2.1,0⟩:=sq fu ⟨[],[],[(4,q1 [(5,.own .u 73),(6,.d .u),(7,.d .i)] 0 [(5,.own .u 73)])],[],[],[],[]⟩ func233<|D (lJ fu)<|D (eG fu)<|cN
def PX:yb ⟨202,[.d yq,.d yq],[.own .u 73,.own .u 73,.d .i],λx=>Kd fu x.1 x.2.1,0⟩:=sq fu ⟨[],[(1245204,⟨[9],[(.n,⟨[(72,.d .b)],[]⟩)]⟩)],[(8,q1 [(10,.d yq),(11,.d .i),(9,.own .u 73)] 0 [(10,.d yq),(9,.own .u 73)]),(13,⟨⟨[(7,.d yq),(8,.d yq),(12,.own .u 73),(13,.d .u),(14,.d .i)],[]⟩,⟨[9],[(.x 2,⟨[(7,.d yq),(8,.d yq),(12,.own .u 73),(13,.d .u)],[]⟩)]⟩⟩)],[],[],[],[]⟩ func202<|D (Xk fu)<|D (W5 fu)<|D (bL fu)<|D (oo fu)<|D (eG fu)<|cN
def tJ:yb ⟨188,[.d yq,.d yq],[.own .u 73,.d .i],λx=>YD fu x.1 x.2.1,0⟩:=sq fu wH func188<|D (bL fu)<|D (oo fu)<|D (Xk fu)<|D (W5 fu)<|cN
def tz:yb ⟨166,[.d Q,.d Q],[.d Q,.d Q,.d .i],λx=>Vr fu x.1 x.2.1,0⟩:=sq fu ⟨[],[(327688,⟨[4,5],[(.n,⟨[(7,.own .u 73),(8,.own .u 73)],[]⟩)]⟩)],[],[],[],[],[]⟩ func166<|D (PX fu)<|D (tE fu)<|D (tJ fu)<|D (jc fu)<|cN
def aL:yb ⟨118,[.d Q],[.d .i],λx=>Zq fu x.1,0⟩:=sq fu wH func118<|D (jc fu)<|cN
def O7:yb ⟨124,[.d Q,.d Q],[.d Q],λx=>J2 fu x.1 x.2.1,0⟩:=sq fu ⟨[],[],[(3,⟨⟨[(5,.var Q 44),(6,.var Q 44)],[]⟩,⟨[4],[(.x 0,⟨[(5,.var Q 44)],[]⟩)]⟩⟩)],[],[],[],[]⟩ func124<|D (NH fu)<|D (tz fu)<|D (aL fu)<|cN
def Ru:yb ⟨125,[.d Q],[.d Q],λx=>Ka fu x.1,0⟩:=sq fu wH func125<|D (jc fu)<|cN
def BN:yb ⟨112,[.d .i],[.d Q],λx=>JA fu x.1,0⟩:=sq fu wH func112<|D (jc fu)<|cN
def Zy:yb ⟨78,[.d yH],[.own Q 44],λx=>vA fu x.1,0⟩:=sq fu ⟨[],[],[(2,q1 [(3,.d .i)] 0 [(3,.d .i)]),(6,q1 [(4,.own Q 44),(5,.d .i)] 2 [(4,.own Q 44)])],[],[],[],[]⟩ func78<|D (aL fu)<|D (jc fu)<|cN
def Ax:yb ⟨80,[.d yH],[.d Q],λx=>Yf fu x.1,0⟩:=sq fu ⟨[],[],[(4,⟨⟨[(5,.d .i),(4,.var Q 44)],[]⟩,⟨[2,3],[(.x 0,⟨[(4,.var Q 44)],[]⟩)]⟩⟩)],[],[],[],[]⟩ func80<|D (BN fu)<|D (O7 fu)<|D (Ru fu)<|D (Zy fu)<|cN
def EN:yb ⟨120,[.d Q,.d Q],[.d Q,.d .i],λx=>W0 fu x.1 x.2.1,0⟩:=sq fu wH func120<|D (aL fu)<|D (tz fu)<|cN
def tZ:yb ⟨154,[.d Q,.d Q],[.d Q],λx=>Vn fu x.1 x.2.1,0⟩:=sq fu wH func154<|D (tE fu)<|D (tJ fu)<|D (jc fu)<|cN
def Tc:yb ⟨167,[.d yH,.d .i],[.d Q],λx=>Ju fu x.1 x.2.1,0⟩:=sq fu wH func167<|cN
def tj:yb ⟨121,[.d yH,.d yH],[.own Q 44],λx=>Vq fu x.1 x.2.1,0⟩:=sq fu ⟨[],[],[(3,q1 [(5,.own Q 44),(6,.d .i)] 0 [(5,.own Q 44)])],[],[],[],[]⟩ func121<|D (tZ fu)<|D (Zy fu)<|D (Tc fu)<|cN
def O0:yb ⟨189,[.d yq,.d yq],[.own .u 73],λx=>Kb fu x.1 x.2.1,0⟩:=sq fu ⟨[],[],[(5,q1 [(8,.d .i),(7,.own .u 73)] 0 [(7,.own .u 73)]),(9,q1 [(5,.d yq),(6,.d yq),(9,.d .u),(10,.d .i),(7,.own .u 73)] 2 [(5,.d yq),(6,.d yq),(9,.d .u),(7,.own .u 73)])],[],[],[],[]⟩ func189<|D (Xk fu)<|D (W5 fu)<|cN
def tw:yb ⟨155,[.d Q,.d Q],[.d Q],λx=>YB fu x.1 x.2.1,0⟩:=sq fu wH func155<|D (O0 fu)<|D (jc fu)<|cN
def Rr:yb ⟨123,[.d yH,.d yH],[.own Q 44],λx=>Km fu x.1 x.2.1,0⟩:=sq fu ⟨[],[],[(3,q1 [(6,.d .i),(5,.own Q 44)] 0 [(5,.own Q 44)]),(6,q1 [(0,.d yH),(1,.d yH),(7,.d .i),(5,.own Q 44)] 2 [(0,.d yH),(1,.d yH),(5,.own Q 44)])],[],[],[],[]⟩ func123<|D (tZ fu)<|D (tw fu)<|D (Zy fu)<|cN
def EW:yb ⟨168,[.d yH,.d Q],[.own Q 44],λx=>WQ fu x.1 x.2.1,0⟩:=sq fu ⟨[],[],[(3,q1 [(5,.own Q 44),(6,.d .i)] 0 [(5,.own Q 44)])],[],[],[],[]⟩ func168<|D (tw fu)<|D (Zy fu)<|cN
def P7:yb ⟨122,[.d yH,.d yH],[.own Q 44],λx=>Kh fu x.1 x.2.1,0⟩:=sq fu wH func122<|D (BN fu)<|D (tj fu)<|D (EW fu)<|cN
def Nh:yb ⟨79,[.d yH,.d yH],[.own Q 44,.d .i],λx=>J3 fu x.1 x.2.1,0⟩:=sq fu ⟨[],[],[(6,⟨⟨[(6,.d yH),(7,.own Q 44),(8,.own Q 44)],[]⟩,⟨[],[(.x 0,⟨[(8,.own Q 44)],[]⟩),(.r,⟨[],[(4,.nil),(5,.ci 4)]⟩)]⟩⟩)],[(8,[])],[],[],[]⟩ func79<|D (Zy fu)<|D (EN fu)<|D (tj fu)<|D (P7 fu)<|D (Rr fu)<|cN
def IA:yb ⟨38,[.d yH],[.own Q 44],λx=>QF fu x.1,0⟩:=sq fu wH func38<|D (Ax fu)<|D (Zy fu)<|D (Nh fu)<|cN
def Mq:yb ⟨44,[.d yH],[.d (.po (.w1 (.p yH (.l (.p Q yq))))),.own Q 44],λx=>Xo fu x.1,0⟩:=sq fu wH func44<|D (tI fu)<|D (IA fu)<|D (RA fu)<|cN
def oq:yb ⟨10,[.d yH,.d (.l (.p Q yq)),.d (.l (.p Q yq)),.d (.l (.p Q yq))],[.d .b],λx=>uC fu x.1 x.2.1 x.2.2.1 x.2.2.2.1,0⟩:=sq fu ⟨[],[],[(21,⟨⟨[(40,.own (.p Q yq) 46),(41,.d .i)],[]⟩,⟨[11,14,18,20,24,28,30,34,38],[(.x 0,⟨[(40,.own (.p Q yq) 46)],[]⟩)]⟩⟩)],[],[],[],[]⟩ func10<|D (Fo fu)<|D (Mq fu)<|D (Ou fu)<|D (nN fu)<|D (nS fu)<|D (oO fu)<|D (oj fu)<|D (KA fu)<|D (pB fu)<|D (du fu)<|cN
end
end
section
variable{r a b l:xS wr}{k:wr}
def nv:N K->K
 |[]=>0
 |x::r=>x+18446744073709551616*nv r
def va:K->K->N K
 |0,_=>[]
 |k+1,n=>n%18446744073709551616::va k (n/18446744073709551616)
def mo:K->K->N K
 |0,_=>[]
 |f+1,n=>if n=0 then[]else n%18446744073709551616::mo f (n/18446744073709551616)
def yB(n:K):N K:=mo n n
def FW:N K->N K
 |[]=>[]
 |x::r=>match FW r with
  |[]=>if x=0 then[]else[x]
  |y::s=>x::y::s
def zm.nil:zm []:=λx c=>wS c Nm
def zm.cons{x:K}(h:x<18446744073709551616)(c:zm r):zm (x::r):=λy hy=>by
 obtain rfl|hy:=xaf.1 hy
 ·exact h
 ·exact c y hy
def zm.head{x:K}(h:zm (x::r)):x<18446744073709551616:=h x<|H1
def zm.tail{x:K}(h:zm (x::r)):zm r:=λy c=>h y<|UV _ c
def zm.append(c:zm a)(d:zm b):zm (a++b):=λx e=>by
 obtain h|h:=So.1 e
 ·exact c x h
 ·exact d x h
theorem zm.take{a:N K}(h:zm a)(k:K):zm (a.take k):=λx c=>h x<|xdo c
theorem zm.drop{a:N K}(h:zm a)(k:K):zm (a.drop k):=λx c=>h x<|xeX c
theorem zm.getD{a:N K}(h:zm a)(k:K):a.getD k 0<18446744073709551616:=by
 rw[FS];by_cases c:k<X a
 ·rw[xab c];exact h _<|xbQ c
 ·rw[xbB W];exact Nat.zero_lt_succ _
def zm.replicate(k:K):zm (xaa k 0):=λx c=>by rw[List.eq_of_mem_replicate c];exact Nat.zero_lt_succ _
def Ca:nv []=0:=O
def kD(x:K)(r:N K):nv (x::r)=x+18446744073709551616*nv r:=O
def ug:∀(a b:N K),nv (a++b)=nv a+18446744073709551616^X a*nv b
 |[],b=>by simp[nv]
 |x::a,b=>by
  rw[xbC,kD,ug a b,kD,xax,xba,xbn];rw[xaS (18446744073709551616^X a) 18446744073709551616,xaT,xcH]
def Q7:∀k,nv (xaa k 0)=0
 |0=>rfl
 |k+1=>by rw[xdw,kD,Q7 k]
theorem vv:∀{l:N K},zm l->nv l<18446744073709551616^X l
 |[],_=>by simp[nv]
 |x::r,h=>by
  have h1:=h.head;have c:=vv h.tail;rw[kD,xax,xba];lia
theorem nD(l:N K)(x:K):nv (l++[x])=nv l+18446744073709551616^X l*x:=by
 rw[ug,kD,Ca];simp
def zY:∀k n,X (va k n)=k
 |0,_=>rfl
 |k+1,n=>by rw[va,xax,zY]
def wq:∀k n,zm (va k n)
 |0,_=>zm.nil
 |k+1,n=>zm.cons (xaU _ i0)<|wq k _
def kv:∀k n,nv (va k n)=n%18446744073709551616^k
 |0,n=>by simp[va,nv,Nat.mod_one]
 |k+1,n=>by rw[va,kD,kv k,xba,xaS<|18446744073709551616^k,Nat.mod_mul]
def gA:∀{l:N K},zm l->va (X l) (nv l)=l
 |[],_=>rfl
 |x::r,h=>by
  have h1:=h.head;rw[xax,va,kD,xcc,xaq h1,xcw _ _ i0,xbi h1,xaK,gA h.tail]
def se(c:zm a)(d:zm b)(hl:X a=X b)(h:nv a=nv b):a=b:=by
 rw[<-gA c,<-gA d,hl,h]
def HI:∀k,va k 0=xaa k 0
 |0=>rfl
 |k+1=>by rw[va,xgf,Nat.zero_div,HI k,xdw]
def Uv:∀k n,va (k+1) n=va k n++[n/18446744073709551616^k%18446744073709551616]
 |0,n=>by simp[va]
 |k+1,n=>by rw[va,Uv k,va,xbC,xaF,<-xdV]
def Er:∀f n,zm (mo f n)
 |0,_=>zm.nil
 |f+1,n=>by
  rw[mo];split
  ·exact zm.nil
  ·exact zm.cons (xaU _ i0)<|Er f _
theorem zp(n:K):zm (yB n):=Er n n
def zbP:∀f n,n<=f->nv (mo f n)=n
 |0,n,h=>by rw[mo,Ca];lia
 |f+1,n,h=>by
  rw[mo];split
  ·rename_i h0;rw[Ca,h0]
  ·rename_i h0;have c:n/18446744073709551616<=f:=by
    have:=Nat.div_lt_self (n:=n) (k:=18446744073709551616) W i0;lia
   rw[kD,zbP f _ c,xet]
theorem zT(n:K):nv (yB n)=n:=zbP n n<|IR _
def zay:∀f f' n,n<=f->n<=f'->mo f n=mo f' n
 |0,f',n,h,c=>by
  have:n=0:=W
  subst this;cases f'<;>simp[mo]
 |f+1,0,n,h,c=>by
  have:n=0:=W
  subst this;simp[mo]
 |f+1,f'+1,n,h,c=>by
  rw[mo,mo];split
  ·rfl
  ·rename_i h0;have:=Nat.div_lt_self (n:=n) (k:=18446744073709551616) W i0;rw[zay f f' _ W W]
theorem dG:yB 0=[]:=O
theorem py{n:K}(h:0<n):yB n=n%18446744073709551616::yB (n/18446744073709551616):=by
 have e:yB n=mo ((n-1)+1) n:=by unfold yB;congr 1;lia
 have:=Nat.div_lt_self (n:=n) (k:=18446744073709551616) h i0;rw[e,mo,zB];congr 1;exact zay _ _ _ W W
theorem GJ{n:K}(h0:0<n)(h:n<18446744073709551616):yB n=[n]:=by grind [py,dG,xaq,xbi]
theorem MG{n:K}:yB n=[]↔n=0:=by
 constructor
 ·intro h;rw[<-zT n,h];rfl
 ·rintro rfl;rfl
theorem qe{n:K}(h:0<n):0<X (yB n):=by rw[py h,xax];lia
def zK:∀(k n:K),X (yB n)<=k↔n<18446744073709551616^k
 |0,n=>by rw[Nat.le_zero,xbh,MG];simp;
 |k+1,n=>by
  by_cases h:n=0
  ·subst h;simp[dG];exact xaV i0
  ·rw[py W,xax,Nat.add_le_add_iff_right,zK k,xbb i0,xba]
def zeD{n:K}(h:0<n):(yB n).getD (X (yB n)-1) 0≠0:=by
 intro h0;have hp:=qe h;have e:=gA<|zp n;rw[zT]at e;have⟨k,c⟩:∃k,X (yB n)=k+1:=⟨X (yB n)-1,W⟩;have h1:=(zK k n).2;rw[c,Uv]at e;rw[<-e]at h0;rw[(i7:X (va k n++[n/18446744073709551616^k%18446744073709551616])-1=X (va k n))]at h0;simp at h0;have d:n<18446744073709551616^(k+1):=(zK (k+1) n).1 W;have f:n/18446744073709551616^k<18446744073709551616:=by rw[xbb<|xaV i0];rwa[xba,xaS]at d
 rw[xaq f]at h0;have g:n<18446744073709551616^k:=by
  obtain h|h:=Nat.div_eq_zero_iff.1 h0
  ·have:=xaV (n:=k) (i0:0<18446744073709551616);lia
  ·exact h
 have:=h1 g;lia
def iK:∀(l:N K) (k:K),k+1=X l->l.getD k 0≠0->FW l=l
 |[],_,h,_=>by simp at h
 |[x],0,_,h=>by simp at h;simp[FW,h]
 |[x],k+1,h,_=>by simp at h
 |x::y::r,0,h,_=>by simp at h
 |x::y::r,k+1,h,h0=>by
  have:=iK (y::r) k (by simpa using h) (by simpa using h0);simp only[FW]at this⊢;rw[this]
def ND:∀{l:N K},zm l->FW l=yB (nv l)
 |[],_=>rfl
 |x::r,h=>by
  have e:=ND h.tail;have c:=h.head;rw[FW,e,kD];by_cases f:nv r=0
  ·rw[f,dG];by_cases h0:x=0
   ·simp[h0,dG]
   ·simp only[h0,uS,xcO,xbD];rw[GJ W c]
  ·have e1:=py (n:=nv r) W;have d:=py (n:=x+18446744073709551616*nv r) W;rw[xcc,xaq c,xcw _ _ i0,xbi c,xaK]at d;rw[d,e1]
theorem NY(hl:zm l)(h:l=[]\/l.getD (X l-1) 0≠0):yB (nv l)=l:=by
 rw[<-ND hl];obtain rfl|h:=h
 ·rfl
 ·cases hn:X l with
  |zero=>rw[xbm hn];rfl
  |succ k=>exact iK l k hn.symm<|by rw[hn]at h;exact h
def BB(hl:zm l)(k:K):nv (l.take k)=nv l%18446744073709551616^k:=by
 by_cases c:k<=X l
 ·have e:=ug (l.take k)<|l.drop k;rw[xbv,xav,xcq c]at e;have:=vv<|hl.take k;rw[xav,xcq c]at this;rw[e,xcc,xaq this]
 ·rw[xaQ W,xaq];exact xah (vv hl)<|xal i0 W
def Ml(hl:zm l)(k:K):nv (l.drop k)=nv l/18446744073709551616^k:=by
 by_cases c:k<=X l
 ·have e:=ug (l.take k)<|l.drop k;rw[xbv,xav,xcq c]at e;have:=vv<|hl.take k;rw[xav,xcq c]at this;rw[e,xcw _ _ (xaV i0),xbi this,xaK]
 ·rw[xbW W,Ca,xbi];exact xah (vv hl)<|xal i0 W
def Kc:∀{l:N K},zm l->∀k,l.getD k 0=nv l/18446744073709551616^k%18446744073709551616
 |[],_,k=>by simp[nv]
 |x::r,h,0=>by rw[List.getD_cons_zero,kD,xez,xeq,xcc,xaq h.head]
 |x::r,h,k+1=>by rw[xdz,Kc h.tail k,kD,xdV,<-xaF,xcw _ _ i0,xbi h.head,xaK]
def zbU{α:Type}{l:N α}{n:K}{z x:α}(hl:X l=k)(d:k<n):(l++xaa (n-k) z).set k x=(l++[x])++xaa (n-(k+1)) z:=by
 have⟨m,c⟩:∃m,n-k=m+1:=⟨n-k-1,W⟩;rw[c,xdw,xdJ _ _ W,hl,xcD,List.set_cons_zero,xad];congr 2;rw[(W:n-(k+1)=m)];rfl
def vb(step:K->K->K×K):K->N K×K
 |0=>([],0)
 |k+1=>((vb step k).1++[(step k (vb step k).2).1],(step k (vb step k).2).2)
theorem wy(step:K->K->K×K):∀k,(vb step k).1.length=k
 |0=>rfl
 |k+1=>by rw[vb,xaw,wy step k];rfl
def Av(a b:N K)(k c:K):K×K:=((a.getD k 0+b.getD k 0+c)%18446744073709551616,(a.getD k 0+b.getD k 0+c)/18446744073709551616)
theorem Tk{c:K}(d:zm a)(e:zm b)(hc:c<=1):(Av a b k c).2<=1:=by grind [Av,zm.getD]
theorem qV(l:N K):∀k,nv (l.take<|k+1)=nv (l.take k)+18446744073709551616^k*l.getD k 0:=by
 induction l with
 |nil=>intro k;simp[nv]
 |cons x r c=>
  intro k
  cases k with
  |zero=>simp[nv]
  |succ k=>
   rw[xeB,kD,c k,xeB,kD,xdz,xba,xbn];rw[xaS (18446744073709551616^k) 18446744073709551616,xaT,xcH]
theorem B8(a b:N K):∀k,nv (vb (Av a b) k).1+18446744073709551616^k*(vb (Av a b) k).2=nv (a.take k)+nv (b.take k)/\zm (vb (Av a b) k).1
 |0=>⟨by simp[vb,nv],zm.nil⟩
 |k+1=>by
  have⟨f,d⟩:=B8 a b k;rw[vb,qV,qV,nD,wy];refine⟨?_,d.append<|zm.cons (xaU _ i0) zm.nil⟩;generalize hc:(vb (Av a b) k).2=c at*
  simp only[Av];have e:=xet (a.getD k 0+b.getD k 0+c) 18446744073709551616;generalize(a.getD k 0+b.getD k 0+c)%18446744073709551616=r at*
  generalize(a.getD k 0+b.getD k 0+c)/18446744073709551616=q at*
  rw[xba];generalize 18446744073709551616^k=p at*
  have g:p*r+p*18446744073709551616*q=p*(a.getD k 0)+p*(b.getD k 0)+p*c:=by rw[xaT,<-xbn,e,xbn,xbn]
  lia
theorem zhr{n:K}(c:X a<=n)(d:X b<=n):nv ((vb (Av a b) n).1++[(vb (Av a b) n).2])=nv a+nv b:=by grind [nD,wy,B8,xaQ]
end
section
variable{y k m j i:wr}{l a b o o0 r:xS wr}
def CN{x:K}(h:X (yB x)<X (yB y)):x<y:=by
 have h1:=(zK (X (yB x)) x).1<|IR _;have d:¬y<18446744073709551616^X (yB x):=λc=>by have:=(zK _ y).2 c;lia
 lia
theorem Jl(x B k:K)(c:0<B):x/B^k=B*(x/B^(k+1))+x/B^k%B:=by grind [xbu,xaF,xba]
def zgJ{x:K}(h:x/18446744073709551616^(k+1)=y/18446744073709551616^(k+1))(hd:x/18446744073709551616^k%18446744073709551616<y/18446744073709551616^k%18446744073709551616):x<y:=by
 have h1:=Jl x 18446744073709551616 k i0;have e:=Jl y 18446744073709551616 k i0;refine xdr λd=> ?_;have f:=Nat.div_le_div_right (c:=18446744073709551616^k) d;lia
theorem zmT{x:K}(h:x/18446744073709551616^(k+1)=y/18446744073709551616^(k+1))(hd:x/18446744073709551616^k%18446744073709551616=y/18446744073709551616^k%18446744073709551616):
 x/18446744073709551616^k=y/18446744073709551616^k:=by grind [Jl]
theorem Vc(n k:K):(yB n).getD k 0=n/18446744073709551616^k%18446744073709551616:=by rw[Kc<|zp n,zT]
def ze9{x:K}(h:X (yB x)=X (yB y)):x/18446744073709551616^X (yB x)=y/18446744073709551616^X (yB x):=by
 rw[xbi<|(zK _ x).1<|IR _,xbi<|(zK _ y).1 W]
theorem xf(h:zm l):X (yB<|nv l)<=X l:=(zK _ _).2<|vv h
theorem zd1{x:K}(c:0<m)(h:x/18446744073709551616^m=y/18446744073709551616^m)(hd:(yB x).getD (m-1) 0=(yB y).getD (m-1) 0):x/18446744073709551616^(m-1)=y/18446744073709551616^(m-1):=by grind [zmT,Vc]
def zj1{x:K}(h:X (yB x)≠X (yB y)):jH (X (yB x):K) (X (yB y):K)=jH x y:=by
 obtain h|h:=Nat.lt_or_gt_of_ne h
 ·have:=CN h;rw[qG W,qG W]
 ·have:=CN h;rw[vM W,vM W]
def zds{x:K}(d:0<m)(h:x/18446744073709551616^m=y/18446744073709551616^m)(hd:(yB x).getD (m-1) 0≠(yB y).getD (m-1) 0):
 jH ((yB x).getD (m-1) 0:K) ((yB y).getD (m-1) 0:K)=jH x y:=by
 rw[(W:m=m-1+1)]at h;obtain hd|hd:=Nat.lt_or_gt_of_ne hd
 ·have c:=hd;rw[Vc,Vc]at c;have:=zgJ h c;rw[qG W,qG W]
 ·have c:=hd;rw[Vc,Vc]at c;have:=zgJ h.symm c;rw[vM W,vM W]
def UW(a b:N K)(k c:K):K×K:=((a.getD k 0+18446744073709551616-b.getD k 0-c)%18446744073709551616,if a.getD k 0<b.getD k 0+c then 1 else 0)
def Eg(a b:N K)(k c:K):(UW a b k c).2<=1:=by
 simp only[UW];split<;>lia
def Rk{a b:N K}(d:zm a)(f:zm b):∀k,nv (vb (UW a b) k).1+nv (b.take k)=nv (a.take k)+18446744073709551616^k*(vb (UW a b) k).2/\zm (vb (UW a b) k).1/\(vb (UW a b) k).2<=1
 |0=>⟨by simp[vb,nv],zm.nil,xan _⟩
 |k+1=>by
  have⟨h,g,n⟩:=Rk d f k;rw[vb,qV,qV,nD,wy];refine⟨?_,g.append<|zm.cons (xaU _ i0) zm.nil,Eg a b k _⟩;generalize hc:(vb (UW a b) k).2=c at*
  simp only[UW];have h1:=d.getD k;have s:=f.getD k;generalize a.getD k 0=x at*
  generalize b.getD k 0=y at*
  rw[xba];generalize 18446744073709551616^k=p at*
  have e:(x+18446744073709551616-y-c)%18446744073709551616+y+c=x+18446744073709551616*(if x<y+c then 1 else 0):=by split<;>lia
  generalize(x+18446744073709551616-y-c)%18446744073709551616=r at*
  generalize(if x<y+c then 1 else 0:K)=q at*
  have t:p*r+p*y+p*c=p*x+p*18446744073709551616*q:=by rw[xaT,<-xbn,<-xbn,e,xbn]
  lia
def CB{n:K}(c:zm a)(d:zm b)(hc:X a<=n)(hd:X b<=n):
 nv (vb (UW a b) n).1+nv b=nv a+18446744073709551616^n*(vb (UW a b) n).2/\zm (vb (UW a b) n).1/\(vb (UW a b) n).2<=1:=by
 have:=Rk c d n;rwa[xaQ hc,xaQ hd]at this
def Hz{n:K}(c:zm a)(d:zm b)(hc:X a<=n)(hd:X b<=n):0<(vb (UW a b) n).2↔nv a<nv b:=by
 have⟨h1,e,g⟩:=CB c d hc hd;have f:=vv e;rw[wy]at f;constructor
 ·intro h;have:(vb (UW a b) n).2=1:=W
  rw[this,xea]at h1;lia
 ·intro h;refine xcJ λh0=> ?_;rw[h0,xcO]at h1;lia
def zdd{n:K}(c:zm a)(d:zm b)(hc:X a<=n)(hd:X b<=n)(h:¬nv a<nv b):nv (vb (UW a b) n).1=nv a-nv b:=by
 have⟨h1,e,f⟩:=CB c d hc hd;have:¬0<(vb (UW a b) n).2:=λhp=>h<|(Hz c d hc hd).1 hp;have:(vb (UW a b) n).2=0:=W
 rw[this,xcO]at h1;lia
def aV(a:N K)(x:K)(k c:K):K×K:=((a.getD k 0*x+c)%18446744073709551616,(a.getD k 0*x+c)/18446744073709551616)
def ra{a x c:K}(d:a<18446744073709551616)(e:x<18446744073709551616)(hc:c<18446744073709551616):(a*x+c)/18446744073709551616<18446744073709551616:=by
 have:a*x<=18446744073709551615*18446744073709551615:=xck W W;lia
def TN{x c:K}(d:zm a)(e:x<18446744073709551616)(hc:c<18446744073709551616):(aV a x k c).2<18446744073709551616:=ra (d.getD k) e hc
def Rn(a:N K)(x:K):∀k,nv (vb (aV a x) k).1+18446744073709551616^k*(vb (aV a x) k).2=nv (a.take k)*x/\zm (vb (aV a x) k).1
 |0=>⟨by simp[vb,nv],zm.nil⟩
 |k+1=>by
  have⟨f,d⟩:=Rn a x k;rw[vb,qV,nD,wy];refine⟨?_,d.append<|zm.cons (xaU _ i0) zm.nil⟩;generalize hc:(vb (aV a x) k).2=c at*
  simp only[aV];have e:=xet (a.getD k 0*x+c) 18446744073709551616;generalize(a.getD k 0*x+c)%18446744073709551616=r at*
  generalize(a.getD k 0*x+c)/18446744073709551616=q at*
  rw[xba];generalize 18446744073709551616^k=p at*
  have g:p*r+p*18446744073709551616*q=p*(a.getD k 0*x)+p*c:=by rw[xaT,<-xbn,e,xbn]
  rw[xbf,xaT p (a.getD k 0) x];lia
def PA{x:K}(hc:(vb (aV a x) (X a)).2<18446744073709551616):(vb (aV a x) (X a)).1++[(vb (aV a x) (X a)).2]=va (X a+1) (nv a*x):=by
 have⟨h1,c⟩:=Rn a x (X a);have hl:zm ((vb (aV a x) (X a)).1++[(vb (aV a x) (X a)).2]):=c.append<|zm.cons hc zm.nil;have hn:nv ((vb (aV a x) (X a)).1++[(vb (aV a x) (X a)).2])=nv a*x:=by rw[nD,wy,h1,xaQ<|IR _]
 have:=gA hl;rw[hn,xaw,wy]at this;exact this.symm
def C5{x:K}(c:zm a)(d:x<18446744073709551616):nv a*x<18446744073709551616^(X a+1):=by
 have:=vv c;rw[xba]
 calc nv a*x<=nv a*18446744073709551616:=xaC _ W
  _<_:=xbI this i0
theorem zfz:∀(o:N K) (j v:K),j<X o->nv (o.set j v)+18446744073709551616^j*o.getD j 0=nv o+18446744073709551616^j*v
 |[],j,v,h=>by simp at h
 |x::r,0,v,h=>by simp[nv];lia
 |x::r,j+1,v,h=>by
  have c:=zfz r j v (by simpa using h);rw[xfo,kD,kD,xdz,xba,xaS<|18446744073709551616^j,xaT,xaT];lia
def zm.set{o:N K}(h:zm o)(j:K){v:K}(hv:v<18446744073709551616):zm (o.set j v):=λx c=>by
 obtain h1|h1:=xdF c
 ·exact h x h1
 ·rw[h1];exact hv
theorem zg9{c:K}(d:j+i<X o)(h:nv o+18446744073709551616^(j+i)*c=nv o0+18446744073709551616^j*nv (r.take i)):
 nv (o.set (j+i)<|(o.getD (j+i) 0+r.getD i 0+c)%18446744073709551616)+18446744073709551616^(j+(i+1))*((o.getD (j+i) 0+r.getD i 0+c)/18446744073709551616)=nv o0+18446744073709551616^j*nv (r.take<|i+1):=by grind [zfz,qV,xbn,xaT,xbo,xet,xba]
def Q4(c:zm a)(d:zm b):nv a*nv (b.take k)<18446744073709551616^(X a+k):=by
 have h1:=vv c;have e:=vv<|d.take k;have f:18446744073709551616^X (b.take k)<=18446744073709551616^k:=xal i0 (by rw[xav];lia);rw[xbo];exact xcm h1 W
def ziO{c:K}(h:nv o+18446744073709551616^(j+X r)*c=nv o0+18446744073709551616^j*nv r)(hn:nv o0+18446744073709551616^j*nv r<18446744073709551616^(j+X r)):
 c=0/\nv o=nv o0+18446744073709551616^j*nv r:=by
 have hc:c=0:=by
  refine xfy λhp=> ?_;have:18446744073709551616^(j+X r)*1<=18446744073709551616^(j+X r)*c:=xaC _ hp;lia
 subst hc;exact⟨O,by rw[xcO,xbD]at h;exact h⟩
def P0{p:N K}{c:K}(d:zm a)(f:zm b)(hi:¬i<X a+1)(hd:i<=X a+1)(g:nv o=nv a*nv (b.take k))(hp:nv p+18446744073709551616^(k+i)*c=nv o+18446744073709551616^k*nv ((va (X a+1)<|nv a*b.getD k 0).take i)):nv p=nv a*nv (b.take<|k+1):=by
 obtain rfl:i=X a+1:=W
 have hl:=zY (X a+1)<|nv a*b.getD k 0;rw[xaQ W]at hp;have h:nv (va (X a+1)<|nv a*b.getD k 0)=nv a*b.getD k 0:=by rw[kv,xaq<|C5 d<|f.getD k]
 have e:nv o+18446744073709551616^k*nv (va (X a+1)<|nv a*b.getD k 0)=nv a*nv (b.take<|k+1):=by rw[h,g,qV,xbn,xdA]
 have hc:nv o+18446744073709551616^k*nv (va (X a+1)<|nv a*b.getD k 0)<18446744073709551616^(k+X (va (X a+1)<|nv a*b.getD k 0)):=by
  rw[e,hl,(W:k+(X a+1)=X a+(k+1))];exact Q4 d f
 generalize va (X a+1) (nv a*b.getD k 0)=r at*
 rw[<-hl]at hp;rw[(ziO hp hc).2,e]
def m32{a b:K}(c:a<4294967296)(d:b<4294967296):a*b<=18446744065119617025:=xck (W:a<=4294967295) (W:b<=4294967295)
def zj8{x:K}(c:x<18446744073709551616)(d:y<18446744073709551616):(x%4294967296)*(y%4294967296)<=18446744065119617025/\(x/2^32)*(y%4294967296)<=18446744065119617025/\
 (x%4294967296)*(y/2^32)<=18446744065119617025/\(x/2^32)*(y/2^32)<=18446744065119617025:=
 ⟨m32 W W,m32 W W,m32 W W,m32 W W⟩
def zhf(x y:K):x*y=18446744073709551616*((x/2^32)*(y/2^32))+4294967296*((x/2^32)*(y%4294967296))+4294967296*((x%4294967296)*(y/2^32))+(x%4294967296)*(y%4294967296):=by
 have h1:x=4294967296*(x/2^32)+x%4294967296:=W
 have d:y=4294967296*(y/2^32)+y%4294967296:=W
 generalize x/2^32=e at*
 generalize y/2^32=c at*
 generalize x%4294967296=x0 at*
 generalize y%4294967296=f at*
 subst h1 d;rw[xbf,xbn,xbn,xaT,xaT,xdA e 4294967296 c,xdA x0 4294967296 c];lia
def Zk{x:K}(c:X (yB x)<=k)(d:X (yB y)<=k):X (yB<|x+y)<=k+1:=by
 rw[zK]at*
 rw[xba];lia
def zp5{x0 c f d P:K}:x0*f+P*((x0+c)*(f+d)-x0*f-c*d)+P*P*(c*d)=(x0+P*c)*(f+P*d):=by
 have e:(x0+c)*(f+d)-x0*f-c*d=x0*d+c*f:=by rw[xbf,xbn,xbn];lia
 rw[e,xbf,xbn,xbn,xbn];have e1:x0*(P*d)=P*(x0*d):=xdA ..;have g:P*c*f=P*(c*f):=xaT ..;have h:P*c*(P*d)=P*P*(c*d):=by rw[xaT,xdA c,<-xaT]
 rw[e1,g,h];lia
theorem zj9(x0 d c e:K):x0*c<=(x0+d)*(c+e)/\d*e<=(x0+d)*(c+e)-x0*c:=by grind [xbf,xbn]
def OH(h:K):l.take (min h (X l))=l.take h:=by
 rw[Nat.min_def];split
 ·rfl
 ·rw[xaQ<|IR _,xaQ W]
def Nc(h:K):l.drop (min h (X l))=l.drop h:=by
 rw[Nat.min_def];split
 ·rfl
 ·rw[xbW<|IR _,xbW W]
def C4(n:K)(l:N K):nv (xaa n 0++l)=18446744073709551616^n*nv l:=by simp_all [ug,Q7]
def GK(h:K):nv (l.take h)+18446744073709551616^h*nv (l.drop h)=nv l:=by
 by_cases c:h<=X l
 ·have e:=ug (l.take h)<|l.drop h;rw[xbv,xav,xcq c]at e;exact e.symm
 ·rw[xbW W,xaQ W,Ca,xcO,xbD]
theorem zjJ{A B:N K}(h:K):nv (A.take h)*nv (B.take h)+18446744073709551616^h*((nv (A.take h)+nv (A.drop h))*(nv (B.take h)+nv (B.drop h))-nv (A.take h)*nv (B.take h)-nv (A.drop h)*nv (B.drop h))+
 18446744073709551616^(2*h)*(nv (A.drop h)*nv (B.drop h))=nv A*nv B:=by
 have:= @zp5 (nv<|A.take h) (nv<|A.drop h) (nv<|B.take h) (nv<|B.drop h)<|18446744073709551616^h;rw[GK,GK]at this;rw[Nat.two_mul,xbo];exact this
def YI{x:K}(c:X (yB x)<=j)(d:X (yB y)<=k):X (yB<|x*y)<=j+k:=by
 rw[zK]at*
 rw[xbo];exact xcm c d
def OT(q:K){x:K}(c:X (yB x)<=k):X (yB<|18446744073709551616^q*x)<=q+k:=by
 rw[zK]at*
 rw[xbo];exact Nat.mul_lt_mul_of_pos_left c<|xaV i0
def JF{x:K}(h:x<=y):X (yB x)<=X (yB y):=by
 have:=(zK (X (yB y)) y).1<|IR _;exact(zK _ x).2 W
theorem zeN(a b h:K){x0 c d e:K}(f:x0=nv ((yB a).take h))(hc:c=nv ((yB a).drop h))(hd:d=nv ((yB b).take h))(g:e=nv ((yB b).drop h)):
 x0*d+18446744073709551616^h*((x0+c)*(d+e)-x0*d-c*e)+18446744073709551616^(2*h)*(c*e)=a*b:=by grind [zjJ,zT]
end
section
variable{a b:xS wr}{k fu:wr}
def zA{α β:Type}{f:(β->V α)->β->V α}(i:β->Prop)(m:β->K)(r:α)
 (step:∀s L,i s->(∀c,i c->m c<m s->L c=Z r)->f L s=Z r):∀(n:K) (s:β),i s->m s<n->zg f n s=Z r
 |0,s,_,h=>wS h<|xbq _
 |n+1,s,d,h=>step s _ d λc e g=>zA i m r step n c e iT
def zej(h:zm a):a.take (X (yB<|nv a))=yB (nv a):=by
 refine se (h.take _) (zp _) (by rw[xav];have:=xf h;omega) ?_;rw[BB h,zT];exact xaq<|(zK _ _).1<|IR _
def oH(c:k+1<=X a)(h0:a.getD k 0=0):nv (a.take k)=nv (a.take<|k+1):=by
 rw[qV,h0];simp
theorem oi(h:zm a)(c:k+1<=X a)(h0:a.getD k 0≠0):yB (nv<|a.take<|k+1)=a.take (k+1):=by grind [NY,zm.take]
theorem xo(h:zm a)(hl:X a<=17592186044416)(d:X a<fu):xr fu a=Z (yB<|nv a):=by
 unfold xr;rw[U (v:=yB<|nv a)];refine zA (λl=>zm l/\nv l=nv a/\X l<=17592186044416) (λl=>X l) _ ?_ _ _ ⟨h,O,hl⟩ d;rintro l L ⟨c,hn,g⟩ e;unfold Kk;by_cases h0:0<(X l:J)
 ·have⟨k,f⟩:∃k,X l=k+1:=⟨X l-1,iT⟩;have e1:(X l:J)-1=(k:J):=iT
  rw[iq h0,e1,zb,z8,S];by_cases h1:l.getD k 0=0
  ·rw[iq (by rw[h1]),zb,yF,yW,S];refine e _ ⟨c.take _,?_,by rw[xav];omega⟩ (by rw[xav];omega);rw[oH iT h1,<-f,xbY,hn]
  ·rw[zB,<-hn];have:=oi c (k:=k) iT h1;grind
 ·rw[ir h0,<-hn];have:l=[]:=xbh.1 iT;rw[this];rfl
theorem wc(h:zm a)(hl:X a<=17592186044416)(c:X a<fu):wE fu a=Z (yB<|nv a):=by
 have:=xo h hl c;assumption
theorem W4(h:zm a)(hl:X a<=17592186044416:=by omega)(c:X a<fu:=by omega):Yn fu a=Z (yB<|nv a):=by grind [Yn,wm,U,wc,w8,xf]
theorem bJ(h:zm a)(hl:X a<=17592186044416)(g:X a<fu):YW fu a=Z (yB<|nv a):=by
 unfold YW;have e:=xf h;rw[U (v:=(X (yB<|nv a):J)),yF,w8 e,S,zej h,w8 (by simp;omega),S];rfl;refine zA (λi:J=>0<=i/\i<=X a/\nv (a.take i.toNat)=nv a) (λi=>i.toNat) _ ?_ _ _ ⟨iT,iT,i7⟩ iT;rintro i L ⟨h0,h1,hn⟩ f;obtain⟨k,rfl⟩:=xaE h0;unfold eE;simp only[xbe]at*
 by_cases d:0<(k:J)
 ·obtain⟨j,rfl⟩:∃j,k=j+1:=⟨k-1,iT⟩;have e1:((j+1:K):J)-1=(j:J):=iT
  rw[iq d,e1,zb,z8,S];by_cases c:a.getD j 0=0
  ·rw[iq (by rw[c]),zb];refine f _ ⟨iT,iT,?_⟩ iT;rw[xbe,oH iT c,hn]
  ·rw[zB,<-hn,oi h iT c,xav];grind
 ·rw[ir d,<-hn];have:k=0:=iT
  subst this;rfl
def Eo(x:K):x &&& 4294967295=x%4294967296:=Nat.and_two_pow_sub_one_eq_mod x 32
def CV:min (((32:K):J)).toNat 64=32:=i0
def VI{x y:K}(c:x<18446744073709551616)(d:y<18446744073709551616):qP fu x y=Z (x*y/18446744073709551616,x*y%18446744073709551616):=by
 unfold qP;simp only[nm,Eo,CV];have⟨b1,b2,b3,f⟩:=zj8 c d;have e:=zhf x y;generalize g:(x%4294967296)*(y%4294967296)=A at*
 generalize h:(x/2^32)*(y%4294967296)=B at*
 generalize i:(x%4294967296)*(y/2^32)=C at*
 generalize j:(x/2^32)*(y/2^32)=D at*
 have l:x*y<18446744073709551616*18446744073709551616:=xcm c d;generalize x*y=z at*
 congr 2;omega
def jG{n:K}{f:J->K->V (K×K)}{step:K->K->K×K}(hn:n<=17179869184)(c:n<fu)(h:∀k,k<n->f (k:J) (vb step k).2=Z (step k (vb step k).2)):qf fu n f=Z (vb step n):=by
 unfold qf;rw[yF,yW,S,U (v:=((vb step n).2,(vb step n).1))];refine zA (λs:K×J×N K=>∃k:K,k<=n/\s=((vb step k).2,(k:J),(vb step k).1++xaa (n-k) 0)) (λs=>n-s.2.1.toNat) _ ?_ _ _ ⟨0,iT,O⟩ (by simpa using c);rintro s L ⟨k,e,rfl⟩ d;unfold bZ;simp only[xaM];by_cases h1:(k:J)<(n:J)
 ·have hl:(vb step k).1.length=k:=wy step k;rw[iq h1,U (h k iT),zo (by simp[hl];omega),S,zb];refine d _ ⟨k+1,iT,?_⟩ (by show n-((k:J)+1).toNat<n-((k:J)).toNat;omega);rw[zbU hl iT];rfl
 ·rw[ir h1];obtain rfl:k=n:=iT
  simp
theorem Vk(a:N K)(hl:X a<=9223372036854775807):Vu fu a (k:J)=Z (a.getD k 0):=by grind [Vu,zo,S]
def Zz(c:zm a)(d:zm b)(hd:X a<=8589934592:=by omega)(g:X b<=8589934592:=by omega)(h:max (X a) (X b)+1<fu:=by omega):
 Zu fu a b=Z (yB<|nv a+nv b):=by
 unfold Zu;have e:max (X a:J) (X b)=((max (X a) (X b):K):J):=iT
 have hc:∀k,(vb (Av a b) k).2<=1:=by
  intro k
  induction k with
  |zero=>exact xan _
  |succ k f=>exact Tk c d f
 rw[S,e,U<|jG (step:=Av a b) iT iT ?_]
 ·have hl:=wy (Av a b)<|max (X a) (X b);show ck _ _=_;rw[w8 (by simp;omega),S,U (xo ?_ (by simp;omega)<|by simp;omega),zhr iT iT];exact(B8 a b _).2.append<|zm.cons (by have:=hc<|max (X a) (X b);omega) zm.nil
 ·intro k i;unfold eR;rw[U (Vk a iT),U (Vk b iT),w8<|hc k];rfl
theorem QL(c:zm a)(d:zm b)(hd:X a<=8589934592)(g:X b<=8589934592)(i:max (X a) (X b)+1<fu):
 Ja fu a b=Z (if nv a<nv b then([],1)else(yB<|nv a-nv b,0)):=by
 unfold Ja;have e:max (X a:J) (X b)=((max (X a) (X b):K):J):=iT
 have hc:∀k,(vb (UW a b) k).2<=1:=by
  intro k
  cases k with
  |zero=>exact xan _
  |succ k=>exact Eg a b k _
 rw[S,e,U<|jG (step:=UW a b) iT iT ?_]
 ·have hl:=wy (UW a b)<|max (X a) (X b);have f:=Hz c d (xeb (X a) (X b))<|xdS (X a) (X b);simp only;by_cases h:nv a<nv b
  ·simp_all
  ·rw[ir (by intro h1;exact h<|f.1 iT),ir h,U (xo (CB c d (xeb (X a) (X b))<|xdS (X a) (X b)).2.1 iT iT),zdd c d (xeb _ _) (xdS _ _) h]
 ·intro k j;unfold eK;rw[U (Vk a iT),U (Vk b iT),w8<|hc k];rfl
theorem Uh(c:zm a)(d:zm b)(hc:X a<=8589934592)(hd:X b<=8589934592)(e:max (X a) (X b)+1<fu)(h:nv b<=nv a):
 Wo fu a b=Z (yB<|nv a-nv b):=by grind [Wo,U,QL]
def RV{a:N K}{x:K}(c:zm a)(d:x<18446744073709551616):∀k,(vb (aV a x) k).2<18446744073709551616
 |0=>Nat.zero_lt_succ _
 |k+1=>TN c d<|RV c d k
theorem zco{a x c:K}(d:a<18446744073709551616)(e:x<18446744073709551616)(hc:c<18446744073709551616):
 ((a*x%18446744073709551616+c)%18446744073709551616,(a*x/18446744073709551616+(a*x%18446744073709551616+c)/18446744073709551616)%18446744073709551616)=((a*x+c)%18446744073709551616,(a*x+c)/18446744073709551616):=by
 have:=ra d e hc;grind
def bu{x:K}(c:zm a)(d:x<18446744073709551616)(hc:X a<=8589934592:=by omega)(e:X a<fu:=by omega):Q9 fu a x=Z (va (X a+1)<|nv a*x):=by
 unfold Q9;rw[U<|jG (step:=aV a x) iT e ?_]
 ·have hl:=wy (aV a x) (X a);simp only;rw[w8 (by simp;omega),S,PA<|RV c d _]
 ·intro k f;unfold fM;rw[zo f,S,U<|VI (c.getD k) d];exact ut Z<|zco (c.getD k) d<|RV c d k
theorem Jt{n:K}(hn:n<=1099511627776:=by omega)(hl:X a<=1099511627776:=by omega):YC fu a (n:J)=Z (xaa n 0++a):=by grind [YC,yF,w8,S]
def MI{n:K}{t3 t4 t6:N K}{i2:J}(d:zm a)(f:zm b)(v:k<X b)(hn:n=X a+X b+1)(w:n<=17179869184)(g:t6=va (X a+1) (nv a*b.getD k 0))(m:X a+1<fu):
 zg (Jg fu (k:J) t3 t4 i2 t6) fu (0,0,va n<|nv a*nv (b.take k),t6)=Z (va n<|nv a*nv (b.take<|k+1)):=by
 have hl:X t6=X a+1:=by rw[g,zY]
 have q:zm t6:=g▸wq _ _;have t:nv a*nv (b.take k)<18446744073709551616^n:=xah (Q4 d f) (xal i0 iT);have h0:nv (va n<|nv a*nv (b.take k))=nv a*nv (b.take k):=by rw[kv,xaq t]
 refine zA (λs:K×J×N K×N K=>∃(c i:K) (o:N K),s=(c,(i:J),o,t6)/\i<=X t6/\c<=1/\zm o/\X o=n/\nv o+18446744073709551616^(k+i)*c=nv a*nv (b.take k)+18446744073709551616^k*nv (t6.take i))
  (λs=>X a+1-s.2.1.toNat) _ ?_ _ _ ⟨0,0,_,O,iT,iT,wq _ _,zY _ _,by rw[h0];simp[nv]⟩ (by simpa using m)
 rintro s L ⟨c,i,o,rfl,hi,hc,hd,h,l⟩ u;unfold Jg;simp only;by_cases h1:i<X t6
 ·rw[zX,U O];simp only[uP];have e:(k:J)+(i:J)=((k+i:K):J):=iT
  rw[zo h1,S,e,zb,zb,z8,S,w8 hc,S,S,z8,S,zb];refine u _ ⟨_,i+1,_,O,iT,?_,hd.set _ (xaU _ i0),by rw[xbj,h],?_⟩ (by show X a+1-((i:J)+1).toNat<X a+1-(i:J).toNat;omega)
  ·have:=hd.getD<|k+i;have:=q.getD i;omega
  ·have:=zg9 (o:=o) (o0:=va n<|nv a*nv (b.take k)) (r:=t6) (j:=k) (i:=i) (c:=c) iT (by rw[h0];exact l);rw[h0]at this;exact this
 ·rw[zB,U O];simp only[xao,uS];subst g;refine ut Z<|se hd (wq _ _) (by rw[h,zY]) ?_;rw[P0 d f (k:=k) (i:=i) (c:=c) (p:=o) (o:=va n<|nv a*nv (b.take k)) iT iT h0 (by rw[h0];exact l),kv,xaq];exact xah (Q4 d f)<|xal i0 iT
theorem Al(c:zm a)(d:zm b)(hc:X a<=4294967296)(hd:X b<=4294967296)(h:X a+X b+1<fu):
 QC fu a b=Z (yB<|nv a*nv b):=by
 unfold QC;have e1:(X a:J)+(X b:J)=((X a+X b:K):J):=iT
 have e:((X a+X b:K):J)+1=((X a+X b+1:K):J):=iT
 have f:nv a*nv b<18446744073709551616^(X a+X b+1):=by
  have:=Q4 (k:=X b) c d;grind
 rw[e1,zb,e,zb,yF,yW,S,U (v:=va (X a+X b+1)<|nv a*nv b)]
 ·rw[U (xo (wq _ _) (by rw[zY];omega)<|by rw[zY];omega),kv,xaq f]
 ·refine zA (λs:J×N K=>∃k:K,k<=X b/\s=((k:J),va (X a+X b+1)<|nv a*nv (b.take k))) (λs=>X b-s.1.toNat) _ ?_ _ _ ⟨0,iT,by simp[nv,HI]⟩ (by simp;omega);rintro s L ⟨k,i,rfl⟩ g;unfold cG;simp only;by_cases h1:k<X b
  ·rw[zX,U O];simp only[uP];rw[zo h1,S,U (bu c (d.getD k) iT iT),U (MI c d h1 O iT O iT),zb];exact g _ ⟨k+1,iT,O⟩ (by show X b-((k:J)+1).toNat<X b-(k:J).toNat;omega)
  ·rw[zB,U O];simp only[xao,uS];obtain rfl:k=X b:=iT
   rw[xbY]
end
def Tm(n:K):xdE (n:J) 2=((n/2:K):J):=O
def dM(x h:K):X (yB<|nv<|(yB x).take h)<=h:=by grind [xf,zm.take,zp]
def dW(x h:K):X (yB<|nv<|(yB x).drop h)<=X (yB x)-h:=by grind [xf,zm.drop,zp]
def Y4:∀{fu:wr}{a b:N wr},zm a->zm b->X a<=1073741824->X b<=1073741824->4*(X a+X b)+64<=fu->uh fu a b=Z (yB<|nv a*nv b)
 |0,a,b,_,_,_,_,R=>by lia
 |fu+1,a,b,C,D,hk,hl,R=>by
  have h1:=xf C;have h2:=xf D;show Y _ _=_;rw[U (wc C W W),U<|wc D W W];have eA:nv (yB<|nv a)=nv a:=zT _;have T:nv (yB<|nv b)=nv b:=zT _;generalize hx:nv a=x at*
  generalize hy:nv b=y at*
  generalize hp:X (yB x)=p at*
  generalize s:X (yB y)=q at*
  have e1:min (p:J) (q:J)=((min p q:wr):J):=W
  rw[S,e1];by_cases u:((min p q:wr):J)<8
  ·rw[iq u,U (Al (zp x) (zp y) W W W),eA,T]
  ·rw[ir u];have E:max (p:J) (q:J)=((max p q:wr):J):=W
   rw[S,E,Tm,zb];have⟨h,F⟩:∃h,h=max p q/2:=⟨_,O⟩;have G:∀l:wr,min (h:J) (l:J)=((min h l:wr):J):=by intro l;lia
   rw[<-F];simp only[B,G,yF];rw[w8 i0,yW];have H:(yB x).take (min h p)=(yB x).take h:=by rw[<-hp];exact OH h
   have L:(yB x).drop (min h p)=(yB x).drop h:=by rw[<-hp];exact Nc h
   have ty:(yB y).take (min h q)=(yB y).take h:=by rw[<-s];exact OH h
   have dy:(yB y).drop (min h q)=(yB y).drop h:=by rw[<-s];exact Nc h
   rw[H,ty,L,dy];have v:=dM x h;have w:=dM y h;have f:X ((yB x).drop h)=p-h:=by rw[xbX,hp]
   have g:X ((yB y).drop h)=q-h:=by rw[xbX,s]
   have i:=dW x h;have o:=dW y h;rw[U (wc ((zp x).take h) (by rw[xav];lia)<|by rw[xav];lia),yW,yW,U (wc ((zp y).take h) (by rw[xav];lia)<|by rw[xav];lia),yW];have M:=(zp x).drop h;have⟨m,V⟩:∃m,m=max p q:=⟨_,O⟩;have f1:p<=m:=W
   have f2:q<=m:=W
   have f3:m+8<=p+q:=W
   have f4:2*h<=m:=W
   have f5:m<=2*h+1:=W
   clear F V u e1 E G H ty L dy;have g1:p-h<=m-h:=W
   have A:q-h<=m-h:=W
   have g3:h<=m-h:=W
   replace i:=xap i<|hp.symm▸g1;replace o:=xap o<|s.symm▸A;have a0:X ((yB x).drop h)<=m-h:=f▸g1;have a1:X ((yB y).drop h)<=m-h:=g▸A;clear f g g1 A;have P:=(zp y).drop h;generalize he:nv ((yB x).take h)=x0 at*
   generalize hg:nv ((yB y).take h)=c at*
   generalize hi:(yB x).drop h=dX at*
   generalize hj:(yB y).drop h=dY at*
   generalize hc:nv dX=d at*
   generalize hd:nv dY=e at*
   have s1:=Zk (x:=x0) (y:=d) (k:=m-h) W W;have s2:=Zk (x:=c) (y:=e) (k:=m-h) W W;have r:=zj9 x0 d c e;rw[U<|Y4 (fu:=fu) (zp x0) (zp c) W W W];rw[U<|Y4 (fu:=fu) M P W W W];rw[U<|Zz (zp x0) M,U<|Zz (zp c) P];rw[hc,hd,zT,zT];rw[U (Y4 (fu:=fu) (zp<|x0+d) (zp<|c+e) W W W),zT,zT];have l3:=YI s1 s2;have l1:=YI v w;have l2:=YI (x:=d) (y:=e) (j:=m-h) (k:=m-h) W W;have l4:=JF<|xfh ((x0+d)*(c+e))<|x0*c;have l5:=JF<|xfh ((x0+d)*(c+e)-x0*c)<|d*e;rw[U (Uh (zp<|(x0+d)*(c+e)) (zp<|x0*c) W W W<|by rw[zT,zT];exact r.1),zT,zT];rw[U (Uh (zp<|(x0+d)*(c+e)-x0*c) (zp<|d*e) W W W<|by rw[zT,zT];exact r.2),zT,zT];have Q:∀n z:wr,zm (xaa n 0++yB z):=λn z=>(zm.replicate n).append<|zp z;have ml:∀n z:wr,X (xaa n 0++yB z)=n+X (yB z):=λn z=>by rw[xaw,xaM]
   rw[U<|Jt,U (Zz (zp _) (Q _ _) W (by rw[ml];lia)<|by rw[ml];lia),zT,C4,zT];have e4:2*(h:J)=((2*h:wr):J):=W
   rw[e4,zb,U<|Jt];have t:=OT h<|xap l5<|xap l4 l3;have l7:=Zk (x:=x0*c) (y:=18446744073709551616^h*((x0+d)*(c+e)-x0*c-d*e)) (k:=3*(p+q)) (by clear t;lia) (xap t<|by clear t;lia);have K:=zeN x y h he.symm (by rw[hi,hc]) hg.symm (by rw[hj,hd]);generalize 18446744073709551616^h*((x0+d)*(c+e)-x0*c-d*e)=z1 at*
   generalize hz:x0*c+z1=z at*
   clear t;rw[U (Zz (zp z) (Q (2*h)<|d*e) (by clear K;lia) (by rw[ml];clear K;lia)<|by rw[ml];clear K;lia),zT,C4,zT,K]
section
variable{k fu:wr}{a:xS wr}
def blf:K->K->K
 |0,_=>0
 |f+1,n=>if n=0 then 0 else blf f (n/2)+1
def bl(n:K):K:=blf n n
def zgU:∀f f' n,n<=f->n<=f'->blf f n=blf f' n
 |0,f',n,h,b=>by
  obtain rfl:n=0:=W
  cases f'<;>rfl
 |f+1,0,n,h,b=>by
  obtain rfl:n=0:=W
  rfl
 |f+1,f'+1,n,h,b=>by
  unfold blf;split
  ·rfl
  ·rw[zgU f f' (n/2) W W]
def cB{n:K}(h:0<n:=by lia):bl n=bl (n/2)+1:=by
 obtain⟨m,rfl⟩:∃m,n=m+1:=⟨n-1,W⟩;show(if m+1=0 then 0 else blf m ((m+1)/2)+1)=_;rw[zgU m ((m+1)/2) ((m+1)/2) W<|IR _];rfl
def cZ:∀(k:K) {n:K},2^k<=n->bl n=bl (n/2^k)+k
 |0,n,h=>by simp
 |k+1,n,h=>by
  have b:=xdL k;rw[cB,cZ k W,xaF,xba,xaS 2];lia
theorem UI{n:K}(h:n<2^k):bl n<=k:=by
 induction k generalizing n with
 |zero=>
  obtain rfl:n=0:=W
  exact IR _
 |succ k b=>
  obtain rfl|h0:=xcx n
  ·grind
  ·rw[cB h0];grind
theorem CQ(n:K):n<2^bl n:=by
 induction n using xdG with
 |ind n b=>
  obtain rfl|h0:=xcx n
  ·decide
  ·rw[cB h0];grind
def Gq:∀{n:K},n<256->xfg n=bl n:=by decide+kernel
theorem qQ{x:K}(q:x<18446744073709551616):xX fu x=Z ((bl x:K):J):=by
 unfold xX;have f:min (16:J).toNat 64=16:=i0
 have o:min (8:J).toNat 64=8:=i0
 have g:min (32:J).toNat 64=32:=i0
 simp only[B,g,f,o];have c:∀(d:K) (i:J),d<65536->0<=i->i<=48->(if(256:J)<=(d:J)then zf (i+8) λj=>zf (j+((xfg (d/2^8%256):K):J)) λl=>Z l else zf (i+((xfg (d%256):K):J)) λm=>Z m)=Z (i+((bl d:K):J)):=by
  intro d i hd h0 h1;by_cases h:256<=d
  ·have b:=UI (n:=d/2^8) (k:=8) W;rw[zX,zb,xaq W,Gq W,zb,cZ 8 (n:=d) W];grind
  ·have b:=UI (n:=d) (k:=8) W;rw[zB,xaq W,Gq W,zb]
 have e:∀(d:K) (i:J),d<4294967296->0<=i->i<=32->(Y (if(65536:J)<=(d:J)then zf (i+16) λp=>Z (d/2^16,p)else Z (d,i)) λ(d2,i2)=>if(256:J)<=(d2:J)then zf (i2+8) λj=>zf (j+((xfg (d2/2^8%256):K):J)) λl=>Z l else zf (i2+((xfg (d2%256):K):J)) λm=>Z m)=Z (i+((bl d:K):J)):=by
  intro d i hd h0 h1;by_cases h:65536<=d
  ·rw[zX,zb,U O];simp only;rw[c _ _ W W W,cZ 16 (n:=d) W];congr 1;lia
  ·rw[zB,U O];exact c _ _ W W W
 by_cases h:4294967296<=x
 ·rw[zX,U O];simp only;rw[e _ _ W W W,cZ 32 (n:=x) W];congr 1;lia
 ·rw[zB,U O];simp only;rw[e _ _ W W W];congr 1;lia
def RI{n:K}(h:0<n):bl n=64*(X (yB n)-1)+bl ((yB n).getD (X (yB n)-1) 0):=by
 have⟨k,b⟩:∃k,X (yB n)=k+1:=⟨X (yB n)-1,by have:=qe h;lia⟩;have h1:=(zK (k+1) n).1 W;have d:¬n<18446744073709551616^k:=λh=>by have:=(zK k n).2 h;lia
 rw[b,Vc,(W:k+1-1=k)];have e:18446744073709551616^k=2^(64*k):=by rw[xch]
 have c:n/18446744073709551616^k<18446744073709551616:=by rw[xbb<|xaV i0];rw[xba,xaS]at h1;exact h1
 rw[xaq c,e,cZ (64*k)<|by skip;lia];lia
def zfr(h:zm a)(b:X a<=k):bl (nv a)<=64*k:=by
 refine UI ?_;rw[xch];exact xah (vv h)<|xal i0 b
def WM(h:zm a)(hl:X a<=1099511627776)(d:X a<fu):uU fu a=Z ((bl (nv a):K):J):=by
 unfold uU;rw[U<|wc h (xap hl i0) d];have f:=zfr h hl;rcases xcx (nv a)with h0|h0
 ·rw[h0];rfl
 ·have h1:=qe h0;have b:=(zp<|nv a).getD<|X (yB<|nv a)-1;have e:=RI h0;have⟨k,c⟩:∃k,X (yB<|nv a)=k+1:=⟨X (yB<|nv a)-1,W⟩;rw[c]at e b;simp only[Nat.add_sub_cancel]at e b;have e1:((k+1:K):J)-1=k:=W
  rw[c,e1,zb,zb,zb,z8,S,U<|qQ b,zb,e];rfl
end
section
variable{r a b l d:xS wr}{k fu:wr}
def nw:N K->K
 |[]=>0
 |x::r=>x+4294967296*nw r
def kQ:K->K->N K
 |0,_=>[]
 |k+1,n=>n%4294967296::kQ k (n/4294967296)
def p8:K->K->N K
 |0,_=>[]
 |f+1,n=>if n=0 then[]else n%4294967296::p8 f (n/4294967296)
def Vv(n:K):N K:=p8 n n
def Gm:N K->N K
 |[]=>[]
 |x::r=>match Gm r with
  |[]=>if x=0 then[]else[x]
  |y::s=>x::y::s
def xj(l:N K):Prop:=∀x∈l,x<4294967296
def xj.nil:xj []:=λx c=>wS c Nm
def xj.cons{x:K}(h:x<4294967296)(c:xj r):xj (x::r):=λy hy=>by
 obtain rfl|hy:=xaf.1 hy
 ·exact h
 ·exact c y hy
def xj.head{x:K}(h:xj (x::r)):x<4294967296:=h x<|H1
def xj.tail{x:K}(h:xj (x::r)):xj r:=λy c=>h y<|UV _ c
def xj.append(c:xj a)(e:xj b):xj (a++b):=λx f=>by
 obtain h|h:=So.1 f
 ·exact c x h
 ·exact e x h
theorem xj.take{a:N K}(h:xj a)(k:K):xj (a.take k):=λx c=>h x<|xdo c
def xj.getD{a:N K}(h:xj a)(k:K):a.getD k 0<4294967296:=by
 rw[FS];by_cases c:k<X a
 ·rw[xab c];exact h _<|xbQ c
 ·simp_all
def L5:nw []=0:=O
def kI(x:K)(r:N K):nw (x::r)=x+4294967296*nw r:=O
theorem gI:∀(a b:N K),nw (a++b)=nw a+4294967296^X a*nw b
 |[],b=>by simp[nw]
 |x::a,b=>by
  rw[xbC,kI,gI a b,kI];grind
def Lj:∀k,nw (xaa k 0)=0
 |0=>rfl
 |k+1=>by rw[xdw,kI,Lj k]
def Qv:∀{l:N K},xj l->nw l<4294967296^X l
 |[],_=>by simp[nw]
 |x::r,h=>by
  have h1:=h.head;have c:=Qv h.tail;rw[kI,xax];omega
theorem BA(l:N K)(x:K):nw (l++[x])=nw l+4294967296^X l*x:=by
 rw[gI,kI,L5];simp
theorem yQ:∀k n,X (kQ k n)=k
 |0,_=>rfl
 |k+1,n=>by rw[kQ,xax,yQ]
theorem qO:∀k n,xj (kQ k n)
 |0,_=>xj.nil
 |k+1,n=>xj.cons (xaU _ i0)<|qO k _
theorem Y8:∀k n,nw (kQ k n)=n%4294967296^k
 |0,n=>by simp[kQ,nw,Nat.mod_one]
 |k+1,n=>by rw[kQ,kI,Y8 k,xba,xaS<|4294967296^k,Nat.mod_mul]
def aZ:∀{l:N K},xj l->kQ (X l) (nw l)=l
 |[],_=>rfl
 |x::r,h=>by
  have h1:=h.head;rw[xax,kQ,kI,xcc,xaq h1,xcw _ _ i0,xbi h1,xaK,aZ h.tail]
def De(c:xj a)(e:xj b)(hl:X a=X b)(h:nw a=nw b):a=b:=by
 rw[<-aZ c,<-aZ e,hl,h]
def sU:∀k,kQ k 0=xaa k 0
 |0=>rfl
 |k+1=>by rw[kQ,sU k,xdw]
def rV:∀k n,kQ (k+1) n=kQ k n++[n/4294967296^k%4294967296]
 |0,n=>by simp[kQ]
 |k+1,n=>by rw[kQ,rV k,kQ,xbC,xaF,<-xdV]
def HH:∀(k n i:K),i<k->(kQ k n).getD i 0=n/4294967296^i%4294967296
 |0,_,_,h=>by omega
 |k+1,n,0,_=>by simp[kQ]
 |k+1,n,i+1,h=>by rw[kQ,xdz,HH k _ i iT,xaF,<-xdV]
def Gb:∀f n,xj (p8 f n)
 |0,_=>xj.nil
 |f+1,n=>by
  rw[p8];split
  ·exact xj.nil
  ·exact xj.cons (xaU _ i0)<|Gb f _
def qD(n:K):xj (Vv n):=Gb n n
def zaX:∀f n,n<=f->nw (p8 f n)=n
 |0,n,h=>by rw[p8,L5];omega
 |f+1,n,h=>by
  rw[p8];split
  ·rename_i h0;rw[L5,h0]
  ·rename_i h0;have c:n/4294967296<=f:=iT
   rw[kI,zaX f _ c,xet]
def qM(n:K):nw (Vv n)=n:=zaX n n<|IR _
def zaZ:∀f f' n,n<=f->n<=f'->p8 f n=p8 f' n
 |0,f',n,h,c=>by
  have:n=0:=iT
  subst this;cases f'<;>simp[p8]
 |f+1,0,n,h,c=>by
  have:n=0:=iT
  subst this;rfl
 |f+1,f'+1,n,h,c=>by
  rw[p8,p8];split
  ·rfl
  ·rename_i h0;rw[zaZ f f' _ iT iT]
theorem fH:Vv 0=[]:=O
theorem mU{n:K}(h:0<n):Vv n=n%4294967296::Vv (n/4294967296):=by
 have e:Vv n=p8 ((n-1)+1) n:=by unfold Vv;congr 1;omega
 rw[e,p8,zB];congr 1;exact zaZ _ _ _ iT iT
theorem zcU{n:K}(h0:0<n)(h:n<4294967296):Vv n=[n]:=by grind [mU,fH]
def ziY{n:K}:Vv n=[]↔n=0:=by
 constructor
 ·intro h;rw[<-qM n,h];rfl
 ·rintro rfl;rfl
def PW{n:K}(h:0<n):0<X (Vv n):=by rw[mU h,xax];omega
def vo:∀(k n:K),X (Vv n)<=k↔n<4294967296^k
 |0,n=>by rw[Nat.le_zero,xbh,ziY];simp
 |k+1,n=>by
  by_cases h:n=0
  ·subst h;simp[fH];exact xaV i0
  ·rw[mU iT,xax,Nat.add_le_add_iff_right,vo k,xbb i0,xba]
def lj:∀(l:N K) (k:K),k+1=X l->l.getD k 0≠0->Gm l=l
 |[],_,h,_=>by simp at h
 |[x],0,_,h=>by simp at h;simp[Gm,h]
 |[x],k+1,h,_=>by simp at h
 |x::y::r,0,h,_=>by simp at h
 |x::y::r,k+1,h,h0=>by
  have:=lj (y::r) k (by simpa using h) (by simpa using h0);simp only[Gm]at this⊢;rw[this]
theorem zky(l:N K)(k:K)(h:k+1=X l)(h0:l.getD k 0=0):l=l.take k++[0]:=by grind [xbv,xcb]
theorem PK:∀{l:N K},xj l->Gm l=Vv (nw l)
 |[],_=>rfl
 |x::r,h=>by
  have c:=PK h.tail;have e:=h.head;rw[Gm,c,kI];by_cases f:nw r=0
  ·rw[f,fH];by_cases h0:x=0
   ·simp[h0,fH]
   ·simp only[h0,uS,xcO,xbD];rw[zcU iT e]
  ·have e1:=mU (n:=nw r) iT;have g:=mU (n:=x+4294967296*nw r) iT;grind
theorem PE(hl:xj l)(h:l=[]\/l.getD (X l-1) 0≠0):Vv (nw l)=l:=by
 rw[<-PK hl];obtain rfl|h:=h
 ·rfl
 ·cases hn:X l with
  |zero=>rw[xbm hn];rfl
  |succ k=>exact lj l k hn.symm<|by rw[hn]at h;exact h
def HR(hl:xj l)(k:K):nw (l.take k)=nw l%4294967296^k:=by
 by_cases c:k<=X l
 ·have e:=gI (l.take k)<|l.drop k;rw[xbv,xav,xcq c]at e;have:=Qv<|hl.take k;rw[xav,xcq c]at this;rw[e,xcc,xaq this]
 ·rw[xaQ iT,xaq];exact xah (Qv hl)<|xal i0 iT
def zbM(hl:xj l)(k:K):nw (l.drop k)=nw l/4294967296^k:=by
 by_cases c:k<=X l
 ·have e:=gI (l.take k)<|l.drop k;rw[xbv,xav,xcq c]at e;have:=Qv<|hl.take k;rw[xav,xcq c]at this;rw[e,xcw _ _ (xaV i0),xbi this,xaK]
 ·rw[xbW iT,L5,xbi];exact xah (Qv hl)<|xal i0 iT
def bn:∀{l:N K},xj l->∀k,l.getD k 0=nw l/4294967296^k%4294967296
 |[],_,k=>by simp[nw]
 |x::r,h,0=>by rw[List.getD_cons_zero,kI,xeq,xcc,xaq h.head]
 |x::r,h,k+1=>by rw[xdz,bn h.tail k,kI,xdV,<-xaF,xcw _ _ i0,xbi h.head,xaK]
def zfm(h:xj a):a.take (X (Vv<|nw a))=Vv (nw a):=by
 have c:=(vo _ _).2<|Qv h;refine De (h.take _) (qD _) (by rw[xav];omega) ?_;rw[HR h,qM];exact xaq<|(vo _ _).1<|IR _
theorem BP(k:K):(4294967296:K)^(2*k)=18446744073709551616^k:=by grind [xch]
def zhQ(k:K):(4294967296:K)^(2*k+1)=18446744073709551616^k*4294967296:=by
 rw[xba,BP]
theorem kK(l:N K):∀k,nw (l.take<|k+1)=nw (l.take k)+4294967296^k*l.getD k 0:=by
 induction l with
 |nil=>intro k;simp[nw]
 |cons x r c=>
  intro k
  cases k with
  |zero=>simp[nw]
  |succ k=>
   rw[xeB,kI,c k,xeB,kI,xdz,xba,xbn];rw[xaS (4294967296^k) 4294967296,xaT,xcH]
def HK(c:k+1<=X a)(h0:a.getD k 0=0):nw (a.take k)=nw (a.take<|k+1):=by
 rw[kK,h0];simp
theorem IV(h:xj a)(c:k+1<=X a)(h0:a.getD k 0≠0):Vv (nw<|a.take<|k+1)=a.take (k+1):=by grind [PE,xj.take]
def zc5(h:xj l):X (Vv<|nw l)<=X l:=(vo _ _).2<|Qv h
theorem HP:∀(o:N K) (j v:K),j<X o->nw (o.set j v)+4294967296^j*o.getD j 0=nw o+4294967296^j*v
 |[],j,v,h=>by simp at h
 |x::r,0,v,h=>by simp[nw];omega
 |x::r,j+1,v,h=>by
  have c:=HP r j v (by simpa using h);rw[xfo,kI,kI,xdz,xba,xaS<|4294967296^j,xaT,xaT];omega
def xj.set{o:N K}(h:xj o)(j:K){v:K}(hv:v<4294967296):xj (o.set j v):=λx c=>by
 obtain h1|h1:=xdF c
 ·exact h x h1
 ·omega
theorem JW(h:xj a)(hl:X a<=1099511627776)(m:X a<fu):YG fu a=Z (Vv<|nw a):=by
 unfold YG;have f:=zc5 h;rw[U (v:=(X (Vv<|nw a):J)),yF,w8 f,S,zfm h];refine zA (λi:J=>0<=i/\i<=X a/\nw (a.take i.toNat)=nw a) (λi=>i.toNat) _ ?_ _ _ ⟨iT,iT,i7⟩ iT;rintro i L ⟨h0,h1,hn⟩ g;obtain⟨k,rfl⟩:=xaE h0;unfold iX;simp only[xbe]at*
 by_cases e:0<(k:J)
 ·obtain⟨j,rfl⟩:∃j,k=j+1:=⟨k-1,iT⟩;have e1:((j+1:K):J)-1=(j:J):=iT
  rw[iq e,e1,zb,z8,S];by_cases c:a.getD j 0=0
  ·rw[iq (by rw[c]),zb];refine g _ ⟨iT,iT,?_⟩ iT;rw[xbe,HK iT c,hn]
  ·rw[zB,<-hn,IV h iT c,xav];grind
 ·rw[ir e,<-hn];have:k=0:=iT
  subst this;rfl
def zei(h:zm a)(c:k<X a):kQ (2*k) (nv a)++[a.getD k 0 &&& 4294967295,a.getD k 0/2^32]=kQ (2*(k+1)) (nv a):=by
 rw[(iT:2*(k+1)=(2*k+1)+1),rV,rV,xad,Kc h,Eo];congr 1;rw[zhQ,BP,<-xaF];congr 1
 ·omega
 ·congr 1;omega
theorem RP(h:zm a)(hl:X a<=4294967296)(e:2*X a<fu):zg (Wy fu a) fu ([],0)=Z (kQ (2*X a)<|nv a):=by
 refine zA (λs:N K×J=>∃k:K,k<=X a/\s=(kQ (2*k)<|nv a,(k:J))) (λs=>X a-s.2.toNat) _ ?_ _ _ ⟨0,iT,O⟩ (by show X a-0<fu;omega);rintro s L ⟨k,f,rfl⟩ c;unfold Wy;simp only;by_cases h1:k<X a
 ·rw[zX,zo h1,S,S,zo h1,S,S,CV,w8 (by simp only[yQ,xax,xbP];omega),S,zb,zei h h1];exact c _ ⟨k+1,iT,O⟩ (by show X a-((k:J)+1).toNat<X a-(k:J).toNat;omega)
 ·grind
theorem xY(h:zm a)(hl:X a<=4294967296:=by omega)(c:2*X a<fu:=by omega):xK fu a=Z (Vv<|nv a):=by grind [xK,BP,vv,U,RP,JW,qO,yQ,Y8,xaq]
def zb2(h:xj d)(k:K):d.getD (2*k) 0+d.getD (2*k+1) 0*2^32=nw d/18446744073709551616^k%18446744073709551616:=by
 rw[bn h,bn h,zhQ,<-xaF,BP];omega
def Sw{n:K}(h:xj d)(hl:X d<=4294967296)(hn:n=(X d+1)/2)(j:X d+1<fu):zg (VZ fu d) fu ([],0)=Z (va n<|nw d):=by
 refine zA (λs:N K×J=>∃k:K,k<=n/\s=(va k<|nw d,2*(k:J))) (λs=>2*n-s.2.toNat) _ ?_ _ _ ⟨0,iT,O⟩ (by show 2*n-0<fu;omega);rintro s L ⟨k,m,rfl⟩ c;unfold VZ;simp only;have f:2*(k:J)=((2*k:K):J):=iT
 have hp:=zb2 h k;by_cases h1:2*k<X d
 ·have d0:=h.getD<|2*k;have d1:=h.getD<|2*k+1;rw[f,zX,zo h1,S,zb];have g:((2*k:K):J)+1=((2*k+1:K):J):=iT
  have e:((2*k:K):J)+2=2*((k+1:K):J):=iT
  by_cases i:2*k+1<X d
  ·rw[zX,zb,g,zo i,S,CV,S,S,w8 (by simp only[zY,xax,xbP];omega),S,zb,e];refine c _ ⟨k+1,iT,?_⟩ (by show 2*n-(2*((k+1:K):J)).toNat<2*n-(((2*k:K):J)).toNat;omega);rw[Uv,<-hp,xaq iT,xaq iT]
  ·rw[zB,w8 (by simp only[zY,xax,xbP];omega),S,zb,e];refine c _ ⟨k+1,iT,?_⟩ (by show 2*n-(2*((k+1:K):J)).toNat<2*n-(((2*k:K):J)).toNat;omega);have z:d.getD (2*k+1) 0=0:=by rw[FS,xbB iT];rfl
   rw[z,xcp,xbD]at hp;rw[Uv,<-hp]
 ·rw[zB];obtain rfl:k=n:=iT
  rfl
def jC(h:xj d)(hl:X d<=4294967296)(c:X d+1<fu):qg fu d=Z (yB<|nw d):=by
 unfold qg;have⟨n,hn⟩:∃n,n=(X d+1)/2:=⟨_,O⟩;have e:nw d<18446744073709551616^n:=by
  rw[<-BP];exact xah (Qv h)<|xal i0 iT
 rw[U<|Sw h hl hn c,U (bJ (wq _ _) (by rw[zY];omega)<|by rw[zY];omega),kv,xaq e]
end
section
variable{o y a b:xS wr}{i m fu:wr}
theorem zcR{T k x c:K}(d:i+k<X o)(h:nw o+4294967296^(i+k)*c=T+4294967296^i*(x*nw (y.take k))):
 nw (o.set (i+k)<|(x*y.getD k 0+o.getD (i+k) 0+c)%4294967296)+4294967296^(i+(k+1))*((x*y.getD k 0+o.getD (i+k) 0+c)/4294967296)=T+4294967296^i*(x*nw (y.take<|k+1)):=by grind [HP,kK,xbn,xdA,xaT,xet]
def zcp(c:xj o){j v:K}(d:j<m)(hv:v<4294967296)(h:nw o<4294967296^m):nw (o.set j v)<4294967296^m:=by
 have e:(o.set j v).drop m=o.drop m:=List.drop_set_of_lt d;have h1:=zbM (c.set j hv) m;have f:=zbM c m;rw[e,f,xbi h]at h1;have hp:0<4294967296^m:=xaV i0;rcases xca (nw<|o.set j v) (4294967296^m)with h3|h3
 ·exact h3
 ·have:=Nat.div_pos h3 hp;lia
def R1(c:xj o)(h:nw o<4294967296^m):o.getD m 0=0:=by
 rw[bn c,xbi h]
def zgW{x y o c:K}(d:x<4294967296)(e:y<4294967296)(f:o<4294967296)(hc:c<4294967296):x*y+o+c<18446744073709551616:=by
 have:x*y<=4294967295*4294967295:=xck W W;lia
def Lo{n:K}{x o0:N K}(j:xj x)(l:xj y)(hi:i<X x)(hn:n=X x+X y)(w:n<=4294967296)(h0:xj o0)(p:X o0=n)(q:nw o0=nw (x.take i)*nw y)(hl:nw o0<4294967296^(i+X y))(A:X y<fu):
 zg (KU fu (i:J)) fu (x,y,0,0,o0)=Z (x,y,nw (x.take<|i+1)*nw y/4294967296^(i+X y),kQ n<|nw (x.take<|i+1)*nw y%4294967296^(i+X y)):=by
 refine zA (λs:N K×N K×K×J×N K=>∃(c k:K) (o:N K),s=(x,y,c,(k:J),o)/\k<=X y/\c<4294967296/\xj o/\X o=n/\nw o<4294967296^(i+X y)/\nw o+4294967296^(i+k)*c=nw o0+4294967296^i*(x.getD i 0*nw (y.take k)))
  (λs=>X y-s.2.2.2.1.toNat) _ ?_ _ _ ⟨0,0,o0,O,W,W,h0,p,hl,by simp[nw]⟩ (by show X y-0<fu;lia)
 rintro s L ⟨c,k,o,rfl,B,hc,d,h,hd,f⟩ r;unfold KU;simp only;by_cases h1:k<X y
 ·have e:(i:J)+(k:J)=((i+k:K):J):=W
  have bx:=j.getD i;have g:=l.getD k;have t:=d.getD<|i+k;have C:=zgW bx g t hc;rw[zX,zo hi,S,zo h1,S,S,e,zb,z8,S,S,S,zb,S,Eo,z8,S,S,CV,zb];have u:((x.getD i 0*y.getD k 0%18446744073709551616+o.getD (i+k) 0)%18446744073709551616+c)%18446744073709551616=x.getD i 0*y.getD k 0+o.getD (i+k) 0+c:=by
   generalize x.getD i 0*y.getD k 0=z at*
   lia
  rw[u];refine r _ ⟨_,k+1,_,O,W,?_,d.set _ (xaU _ i0),by rw[xbj,h],zcp d W (xaU _ i0) hd,zcR W f⟩ (by show X y-((k:J)+1).toNat<X y-(k:J).toNat;lia);generalize x.getD i 0*y.getD k 0+o.getD (i+k) 0+c=z at*
  lia
 ·rw[zB];obtain rfl:k=X y:=W
  rw[xbY,q]at f;have v:nw (x.take<|i+1)*nw y=nw (x.take i)*nw y+4294967296^i*(x.getD i 0*nw y):=by rw[kK,xbf,xaT]
  rw[<-v]at f;have hp:0<4294967296^(i+X y):=xaV i0;rw[<-f,xcw _ _ hp,xbi hd,xcc,xaq hd,xaK];have:=aZ d;rw[h]at this;rw[this]
def TP{x:N K}(c:xj x)(k:K):nw (x.take k)<4294967296^k:=by
 rw[HR c];exact xaU _<|xaV i0
def sD{x:N K}(c:xj x)(d:xj y)(k:K):nw (x.take k)*nw y<4294967296^(k+X y):=by
 rw[xbo];exact xcm (TP c k)<|Qv d
def OQ{n:K}{x:N K}(c:xj x)(d:xj y)(hn:n=X x+X y)(h:n<=4294967296)(t:n<fu):
 zg (KY fu x y) fu (0,kQ n 0)=Z (kQ n<|nw x*nw y):=by
 refine zA (λs:J×N K=>∃k:K,k<=X x/\s=((k:J),kQ n<|nw (x.take k)*nw y)) (λs=>X x-s.1.toNat) _ ?_ _ _ ⟨0,W,by simp[nw]⟩ (by show X x-0<fu;lia);rintro s L ⟨k,u,rfl⟩ j;unfold KY;simp only;by_cases h1:k<X x
 ·have l:=sD c d k;have hc:=sD c d<|k+1;have hi:4294967296^(k+X y)<=4294967296^n:=xal i0 W;have hv:nw (kQ n<|nw (x.take k)*nw y)=nw (x.take k)*nw y:=by rw[Y8,xaq W]
  have e:(k:J)+(X y:J)=((k+X y:K):J):=W
  rw[zX,U<|Lo (n:=n) c d h1 hn h (qO _ _) (yQ _ _) hv (by rw[hv];exact l) W];simp only;rw[e,zb,zo (by rw[yQ];lia),ze,zb];refine j _ ⟨k+1,W,?_⟩ (by show X x-((k:J)+1).toNat<X x-(k:J).toNat;lia);have p:nw (x.take<|k+1)*nw y/4294967296^(k+X y)<4294967296:=by
   rw[xbb<|xaV i0];rw[(W:k+1+X y=(k+X y)+1),xba,xaS<|4294967296^(k+X y)]at hc;exact hc
  have hp:0<4294967296^(k+X y):=xaV i0;generalize nw (x.take<|k+1)*nw y=S at*
  have q:=xaU S hp;have f:nw (kQ n<|S%4294967296^(k+X y))=S%4294967296^(k+X y):=by rw[Y8,xaq W]
  have r:=R1 (qO n<|S%4294967296^(k+X y)) (m:=k+X y) (by rw[f];exact q);have g:=HP (kQ n<|S%4294967296^(k+X y)) (k+X y) (S/4294967296^(k+X y)) (by rw[yQ];lia);rw[r,f,xcO,xbD,xet]at g;have hd:=aZ<|(qO n<|S%4294967296^(k+X y)).set (k+X y) p;rw[g,xbj,yQ]at hd;rw[hd];rfl
 ·rw[zB];obtain rfl:k=X x:=W
  rw[xbY]
def Vt(h:zm a):X (Vv<|nv a)<=2*X a:=by
 rw[vo,BP];exact vv h
def Db(c:zm a)(d:zm b)(hd:X a<=268435456)(j:X b<=268435456)(k:2*(X a+X b)+1<fu):
 Kb fu a b=Z (yB<|nv a*nv b):=by
 unfold Kb;have l1:=Vt c;have l:=Vt d;rw[U<|xY c,U<|xY d];have e1:nw (Vv<|nv a)=nv a:=qM _;have h:nw (Vv<|nv b)=nv b:=qM _;have f:=qD<|nv a;have g:=qD<|nv b;generalize Vv (nv a)=x at*
 generalize Vv (nv b)=y at*
 have e:X x+X y=((X x+X y:K):J):=W
 have hc:nv a*nv b<4294967296^(X x+X y):=by
  have:=sD f g (X x);simp_all
 rw[e,zb,yF,yW,S,<-sU,U (OQ f g O W W),e1,h,U (jC (qO _ _) (by rw[yQ];lia)<|by rw[yQ];lia),Y8,xaq hc]
theorem VY(e:X a<=1099511627776)(f:X a<fu):YY fu a b=Z (decide<|a=b):=by
 unfold YY;by_cases hl:X a=X b
 ·rw[zX,U (v:=if a=b then .inl ()else .inr ())]
  ·grind
  ·refine zA (λi:J=>∃k:K,i=(k:J)/\k<=X a/\a.take k=b.take k) (λi=>X a-i.toNat) _ ?_ _ _ ⟨0,O,W,O⟩ (by show X a-0<fu;lia);rintro i L ⟨k,rfl,g,ht⟩ c;unfold ed;by_cases h1:k<X a
   ·rw[zX,zo h1,S,z8,S];by_cases d:a.getD k 0=b.getD k 0
    ·rw[zX,zb];refine c _ ⟨k+1,W,W,?_⟩ (by show X a-((k:J)+1).toNat<X a-(k:J).toNat;lia);rw[xeu,xeu,ht,getD_some 0 h1,getD_some 0 (by lia:k<X b),d]
    ·grind
   ·rw[zB];obtain rfl:k=X a:=W
    rw[xbY,xaQ W]at ht;rw[iq ht]
 ·rw[zB,Wl<|λh=>hl<|by rw[h]]
end
section
variable{fu:wr}{a b:Zr}
def zv(z:M):J:=if z.1=wL then-((nv z.2:K):J)else((nv z.2:K):J)
def yz(x:J):M:=(decide<|x<0,yB x.natAbs)
theorem zn(x:J):zv (yz x)=x:=by grind [yz,zv,zT]
def yx(x:J):zm (yz x).2:=zp _
theorem vK(z:M):(zv z).natAbs=nv z.2:=by unfold zv;split<;>omega
theorem zd9(s:qR)(n:K):(if s=wL then if 0<((X (yB n):K):J)then Z (wL,yB n)else Z (I,yB n)else Z (I,yB n))=Z (yz (if s=wL then-(n:J)else(n:J))):=by grind [yz,MG,qe]
theorem yE{s:qR}{a:N K}(h:zm a)(hl:X a<=17592186044416)(c:X a<fu):xk fu s a=Z (yz (if s=wL then-((nv a:K):J)else((nv a:K):J))):=by
 unfold xk;rw[U<|W4 h hl c];exact zd9 s _
theorem VO{z:M}(h:zm z.2)(hl:X z.2<=17592186044416)(c:X z.2<fu):y8 fu z=Z (yz<|zv z):=by
 unfold y8;rw[U<|bJ h hl c];exact zd9 z.1 _
def dm{z:M}(h:zm z.2)(hl:X z.2<=17592186044416)(c:X z.2<fu):qd fu z=Z (yz<|zv z):=by
 unfold qd;rw[U<|yE h hl c];rfl
theorem BY{x:J}(h0:0<=x)(h:x<18446744073709551616):((Cr x:K):J)=x:=by unfold Cr;omega
theorem cQ{x:K}(h:x<18446744073709551616):zm [x]:=zm.cons h zm.nil
theorem lV(x:K):nv [x]=x:=by simp[nv]
theorem aF{x:J}(h:KH x)(c:1<fu:=by omega):zP fu x=Z (yz x):=by grind [zP,Cr,S,U,yE,cQ,lV]
theorem iw{x:J}(h: -9223372036854775807<=x/\x<=9223372036854775807)(c:1<fu:=by omega):JA fu x=Z (yz x):=by grind [JA,zv,BY,Df,S,U,VO,cQ,lV]
theorem zaW(a b:M):(if(!(a.1==b.1))=wL then-((nv a.2*nv b.2:K):J)else((nv a.2*nv b.2:K):J))=zv a*zv b:=by grind [zv]
def iC(c:zm a.2)(d:zm b.2)(hc:X a.2<=1073741824)(hd:X b.2<=1073741824)(e:4*(X a.2+X b.2)+64<=fu):zF fu a b=Z (yz<|zv a*zv b):=by
 unfold zF;have hl:=YI (xf c)<|xf d;rw[S,U<|Y4 c d hc hd e,U (yE (zp _) iT iT),zT,<-zaW]
def Cu(c:zm a.2)(d:zm b.2)(hc:X a.2<=268435456)(hd:X b.2<=268435456)(e:2*(X a.2+X b.2)+1<fu):YB fu a b=Z (yz<|zv a*zv b):=by
 unfold YB;have hl:=YI (xf c)<|xf d;rw[S,U<|Db c d hc hd e,U<|VO (zp _) (by show(yB _).length<=_;omega) (by show(yB _).length<_;omega)];rw[<-zaW];show Z (yz (if _ then-((nv (yB _):K):J)else((nv (yB _):K):J)))=_;rw[zT]
def AZ(hl:X a.2<=1099511627776)(c:X a.2<fu):Q8 fu a b=Z (decide<|a=b):=by
 have⟨s,a⟩:=a;have⟨t,b⟩:=b;unfold Q8;rw[S];cases s<;>cases t
 ·simp only;rw[U<|VY hl c];simp
 ·simp
 ·simp
 ·simp only;rw[U<|VY hl c];simp
theorem zjF{a:J}{e b:K}(h:bl a.natAbs*e<=b*64):X (yB (a^e).natAbs)<=b+1:=by
 rw[zK,Int.natAbs_pow];have h1:a.natAbs^e<=(2^bl a.natAbs)^e:=xff (xdK<|CQ _) e;rw[<-xch]at h1;have c:2^(bl a.natAbs*e)<=2^(64*b):=xal i0 iT;rw[xch 2 64 b]at c;grind
theorem zer(i:K)(h:i<=65536):Sl (i:J) 1=((i%2:K):J):=by grind [Sl,sgn,Cr]
theorem zmB(i:K):xge (i:J) (2^(min (((1:K):J)).toNat 64))=((i/2:K):J):=by grind
def zch{n:K}{a:J}(hn:n<=65536)(l:bl a.natAbs*n<=262144)(r:65600<fu):
 zg (aD fu) fu ((n:J),yz a,yz 1)=Z (yz<|a^n):=by
 have hc:∀e,e<=n->X (yB (a^e).natAbs)<=4097:=λe g=>zjF (b:=4096)<|xap (xaC _ g) l;refine zA (λs:J×M×M=>∃i d e:K,s=((i:J),yz<|a^d,yz<|a^e)/\e+d*i=n/\(0<i->d<=n)/\0<d) (λs=>s.1.toNat) _ ?_ _ _ ⟨n,1,0,by simp[xbU],iT,iT,iT⟩ (by show((n:J)).toNat<fu;omega);rintro s L ⟨i,d,e,rfl,g,hd,hi⟩ h;unfold aD;simp only;have c:∀p q,p<=n->q<=n->zF fu (yz<|a^p) (yz<|a^q)=Z (yz<|a^(p+q)):=by
  intro p q hp m;have h1:=hc p hp;have k:=hc q m;rw[iC (yx _) (yx _) (by show(yB _).length<=_;omega) (by show(yB _).length<=_;omega) (by show 4*(X (yB _)+X (yB _))+64<=fu;omega),zn,zn,Int.pow_add]
 by_cases h0:0<i
 ·have f:=hd h0;have t:i<=n:=by
   have:=xed i hi;omega
  have j:d*i=d*(i/2)*2+d*(i%2):=by rw[xaT,<-xbn];congr 1;omega
  rw[zX,S,zer i iT];by_cases h1:i%2=1
  ·rw[zX];rw[h1,xea]at j;rw[U<|c e d iT f];by_cases k:1<i
   ·have o:d*1<=d*(i/2):=xaC d iT;rw[zX,U<|c d d f f,S,zmB];refine h _ ⟨i/2,d+d,e+d,O,?_,iT,iT⟩ (by show((i/2:K):J).toNat<(i:J).toNat;omega);rw[xbf];omega
   ·rw[zB,S,zmB];refine h _ ⟨i/2,d,e+d,O,?_,iT,iT⟩ (by show((i/2:K):J).toNat<(i:J).toNat;omega);rw[(iT:i/2=0),xcO]at j⊢;omega
  ·rw[zB];rw[(iT:i%2=0),xcO,xbD]at j;by_cases k:1<i
   ·have o:d*1<=d*(i/2):=xaC d iT;rw[zX,U<|c d d f f,S,zmB];refine h _ ⟨i/2,d+d,e,O,?_,iT,iT⟩ (by show((i/2:K):J).toNat<(i:J).toNat;omega);rw[xbf];omega
   ·omega
 ·rw[zB];obtain rfl:i=0:=iT
  rw[xcO,xbD]at g;rw[g]
theorem EY{n:K}{z:M}(h:zm z.2)(hl:X z.2<=1000000)(hn:n<=65536)(d:1000100<fu):
 aa fu z (n:J)=Z (if 262144<bl (nv z.2)*n then((I,[]),6)else(yz<|zv z^n,0)):=by
 unfold aa;have c:=zfr h hl;have f:=xck c hn;have e:((bl (nv z.2):K):J)*n=((bl (nv z.2)*n:K):J):=i7
 rw[zB,zB,U O];simp only[xao,uS];rw[U (WM h iT iT),zb];by_cases h1:262144<bl (nv z.2)*n
 ·grind
 ·rw[zB,ir h1,U (aF i0 iT),U (dm h iT iT),U<|zch hn (by rw[vK];omega) iT]
end
section
variable{d fu:wr}{p:wl}
def ke(p:K):Prop:=∀d,2<=d->d*d<=p->p%d≠0
open Classical in
noncomputable def qk(p:J):qR:=decide<|2<=p/\p<=65521/\ke p.toNat
open Classical in
def zhv{p:J}(h:2<=p/\p<=65521/\ke p.toNat):qk p=wL:=by unfold qk;exact Wf h
open Classical in
def FR{p:J}(h:¬(2<=p/\p<=65521/\ke p.toNat)):qk p=I:=by unfold qk;exact Wl h
def za2(d:K):(d:J)*(d:J)=((d*d:K):J):=i7
def zkY{p:K}(h:p<=65521)(hd:d<=300:=by lia):d*d<=90000:=xap (xck hd hd) i0
def zk2{p:K}(h:p<=65521)(hd:d*d<=p):d<256:=by
 obtain h1|h1:=xca d 256
 ·exact h1
 ·have:=xck h1 h1;lia
def TE{p:K}(h:p<=65521)(m:400<fu):(ke p->zg (ZA fu (p:J)) fu (wL,2)=Z wL)/\(¬ke p->zg (ZA fu (p:J)) fu (wL,2)=Z I):=by
 constructor
 ·intro hn;refine zA (λi:qR×J=>∃d:K,i=(wL,(d:J))/\2<=d/\d<=256) (λi=>300-i.2.toNat) _ ?_ _ _ ⟨2,O,W,W⟩ (by show 300-2<fu;lia);rintro i L ⟨d,rfl,j,c⟩ f;unfold ZA;simp only[uP];have k:=zkY h (d:=d);rw[za2,zb];by_cases a:d*d<=p
  ·have b:=hn d j a;have:=zk2 h a;have e:xcv (p:J) (d:J)=((p%d:K):J):=O;rw[zX,yW,S,e,zB,zb];exact f _ ⟨d+1,O,W,W⟩ (by show 300-((d:J)+1).toNat<300-(d:J).toNat;lia)
  ·rw[zB]
 ·intro hn;have⟨d0,g⟩:=Classical.not_forall.1 hn;have⟨hc,g⟩:=Classical.not_imp.1 g;have⟨a,b⟩:=Classical.not_imp.1 g;have b:p%d0=0:=Classical.not_not.1 b;have n:=zk2 h a;refine zA (λi:qR×J=>∃d:K,i=(wL,(d:J))/\2<=d/\d<=d0) (λi=>300-i.2.toNat) _ ?_ _ _ ⟨2,O,W,W⟩ (by show 300-2<fu;lia);rintro i L ⟨d,rfl,j,c⟩ f;unfold ZA;simp only[uP];have k:=zkY h (d:=d);have hd:=xck c c;rw[za2,zb];have e:xcv (p:J) (d:J)=((p%d:K):J):=O;rw[zX,yW,S,e];by_cases l:p%d=0
  ·rw[zX]
  ·rw[zB,zb];refine f _ ⟨d+1,O,W,?_⟩ (by show 300-((d:J)+1).toNat<300-(d:J).toNat;lia);obtain h8|h8:=xca d d0
   ·exact h8
   ·exact wS (by rw[(W:d=d0)];exact b) l
theorem WH(f:400<fu):uX fu p=Z (qk p):=by
 unfold uX;have e:zg (ZA fu p) fu (I,2)=Z I:=by
  obtain⟨k,rfl⟩:∃k,fu=k+1:=⟨fu-1,W⟩;rfl
 by_cases a:2<=p
 ·rw[iq a];by_cases b:p<=65521
  ·rw[iq b,U O];obtain⟨q,rfl⟩:=xaE (by lia:0<=p);have⟨l1,g⟩:=TE (p:=q) W f;by_cases c:ke q
   ·rw[U<|l1 c,zhv ⟨a,b,c⟩]
   ·rw[U<|g c,FR (p:=q)<|λh=>c h.2.2]
  ·rw[ir b,U O,U e];rw[FR<|λh=>b h.2.1]
 ·rw[ir a,U O,U e];rw[FR<|λh=>a h.1]
noncomputable def rb(p k:J):M×J:=if qk p=wL/\1<=k/\k<=1000 then(yz<|p^k.toNat,0)else((I,[]),1)
def zw(h:qk p=wL):2<=p/\p<=65521:=by
 refine xai λhn=> ?_;rw[FR<|λh=>hn ⟨h.1,h.2.1⟩]at h;cases h
def zmF(h:qk p=wL):bl (nv (yz p).2)<=16:=by
 have:=zw h;refine UI ?_;show nv (yB p.natAbs)<_;rw[zT];lia
def zin{x:J}(h:x.natAbs<18446744073709551616):(yz x).2.length<=1:=by
 show(yB _).length<=1;rw[zK];lia
theorem uD{k:J}(c:3000000<fu):qt fu p k=Z (rb p k):=by
 unfold qt rb;rw[U<|WH W];by_cases h1:qk p=wL
 ·have e:=zw h1;rw[ir<|by simp[h1]];by_cases a:k<1
  ·grind
  ·rw[ir a];by_cases b:1000<k
   ·simp_all
   ·obtain⟨n,rfl⟩:=xaE (by lia:0<=k);have hl:=zin (x:=p) W;have f:bl (nv (yz p).2)*n<=16*1000:=xck (zmF h1) W;rw[ir b,am ⟨h1,W,W⟩,U<|aF ⟨W,W⟩,U (EY (yx p) W W W),zB,zn];rfl
 ·simp_all
end
section
variable{fu k j:wr}{a b:Zr}{y:wl}
theorem dV{a b:J}:uF fu a b=Z (jH a b):=by grind [uF,Z7,U,qG,vM,kP]
theorem UY{a b:K}:qX fu a b=Z (jH a b):=by grind [qX,kF,U,qG,vM,kP]
theorem ay{a b:N K}(d:zm a)(f:zm b)(l:X a<=1000000:=by lia)(n:X b<=1000000:=by lia)(o:2000000<fu:=by lia):Wi fu a b=Z (jH (nv a:K) (nv b:K)):=by
 unfold Wi;have h1:=xf d;have p:=xf f;rw[U (wc d W W),U<|wc f W W];generalize nv a=x at*
 generalize nv b=y at*
 by_cases h:X (yB x)=X (yB y)
 ·rw[zX,zb];by_cases hc:x=y
  ·subst hc;rw[U (v:=.inl ())]
   ·rw[kP O]
   ·refine zA (λi:J=>∃m:K,i=(m:J)-1/\m<=X (yB x)) (λi=>(i+1).toNat) _ ?_ _ _ ⟨_,O,IR _⟩ W;rintro i L ⟨m,rfl,g⟩ c;unfold fW;by_cases h0:m=0
    ·rw[zB]
    ·have e:(m:J)-1=((m-1:K):J):=W
     rw[zX,e,z8,S,z8,S,iq O,zb];exact c _ ⟨m-1,O,W⟩ W
  ·rw[U (v:=.inr<|jH x y)];refine zA (λi:J=>∃m:K,i=(m:J)-1/\m<=X (yB x)/\x/18446744073709551616^m=y/18446744073709551616^m) (λi=>(i+1).toNat) _ ?_ _ _ ⟨_,O,IR _,ze9 h⟩ W;rintro i L ⟨m,rfl,g,ht⟩ c;unfold fW;by_cases h0:m=0
   ·subst h0;rw[xez,xeq,xeq]at ht;exact wS ht hc
   ·have e:(m:J)-1=((m-1:K):J):=W
    rw[zX,e,z8,S,z8,S];by_cases hd:(yB x).getD (m-1) 0=(yB y).getD (m-1) 0
    ·rw[iq (by rw[hd]),zb];exact c _ ⟨m-1,O,W,zd1 W ht hd⟩ W
    ·rw[zB,z8,S,z8,S,U UY,zds W ht hd]
 ·rw[zB,U dV,zj1 h]
def gV(z:M):Prop:=zm z.2/\X z.2<=100000
def Bz(k:K)(x:J):Prop:=x.natAbs<18446744073709551616^k
def Bz.ok{x:J}(h:Bz k x)(c:k<=100000):gV (yz x):=⟨yx x,xap ((zK _ _).2 h) c⟩
theorem Bz.of{z:M}(h:zm z.2):Bz (X z.2) (zv z):=by grind [Bz,vK,vv]
def Bz.mono{x:J}(h:Bz j x)(c:j<=k):Bz k x:=xah h<|xal i0 c
def gV.bz{z:M}(h:gV z):Bz 100000 (zv z):=(Bz.of h.1).mono h.2
theorem Bz.neg{x:J}(h:Bz k x):Bz k (-x):=by unfold Bz at*;rw[xeY];exact h
theorem Bz.add{x:J}(c:Bz k x)(d:Bz k y):Bz (k+1) (x+y):=by grind [Bz]
theorem Bz.sub{x:J}(c:Bz k x)(d:Bz k y):Bz (k+1) (x-y):=by grind [Bz.add,Bz.neg]
def Bz.mul{x:J}(c:Bz j x)(d:Bz k y):Bz (j+k) (x*y):=by unfold Bz at*;rw[xct,xbo];exact xcm c d
def Bz.le{x:J}(c:Bz k y)(h:x.natAbs<=y.natAbs):Bz k x:=xaL h c
theorem xZ(z:M):(z.1=wL/\zv z= -((nv z.2:K):J))\/(z.1=I/\zv z=((nv z.2:K):J)):=by grind [zv]
theorem kU{z:M}(h:gV z)(c:3000000<=fu):qd fu z=Z (yz<|zv z):=dm h.1 (by have:=h.2;lia) (by have:=h.2;lia)
def K5{z:M}(h:gV z)(d:3000000<=fu):kR fu z=Z (yz (-zv z)):=by
 unfold kR;have:=h.2;rw[U<|yE h.1 W W];rcases xZ z with⟨h1,c⟩|⟨h1,c⟩<;>rw[h1,c]<;>simp
theorem vY(e:gV a)(f:gV b)(o:3000000<=fu):vN fu a b=Z (yz<|zv a+zv b):=by
 unfold vN;have l:=e.2;have m:=f.2;have p:X (yB<|nv a.2+nv b.2)<=100001:=Zk (xap (xf e.1) l)<|xap (xf f.1) m;rw[S];by_cases i:a.1=b.1
 ·rw[iq (by simp[i]),U<|Zz e.1 f.1,U (yE (zp _) W W),zT];rcases xZ a with⟨h1,c⟩|⟨h1,c⟩<;>rcases xZ b with⟨g,d⟩|⟨g,d⟩
  ·grind
  ·simp_all
  ·rw[h1,g]at i;cases i
  ·rw[h1,c,d,ir i0];congr 2
 ·rw[ir<|by simp[i]];rw[U<|ay e.1 f.1];by_cases hc:nv a.2<nv b.2
  ·have hd:X (yB<|nv b.2-nv a.2)<=100000:=xap (JF<|xfh _ _)<|xap (xf f.1) m;rw[qG W,iq i0,U O];simp only;rw[U (QL f.1 e.1 W W W),zB];simp only;rw[U (yE (zp _) W W),zT];rcases xZ a with⟨h1,c⟩|⟨h1,c⟩<;>rcases xZ b with⟨g,d⟩|⟨g,d⟩<;>rw[g,c,d]<;>simp_all
   ·congr 1;lia
   ·congr 1;lia
  ·have hd:X (yB<|nv a.2-nv b.2)<=100000:=xap (JF<|xfh _ _)<|xap (xf e.1) l;have n:¬jH ((nv a.2:K):J) ((nv b.2:K):J)<0:=by
    rcases xca (nv b.2) (nv a.2)with h|h
    ·rw[vM W];decide
    ·rw[kP W];decide
   rw[ir n,U O];simp only;rw[U (QL e.1 f.1 W W W),zB];simp only;rw[U (yE (zp _) W W),zT];rcases xZ a with⟨h1,c⟩|⟨h1,c⟩<;>rcases xZ b with⟨g,d⟩|⟨g,d⟩<;>rw[h1,c,d]<;>simp_all
   ·congr 1;lia
   ·congr 1;lia
  all_goals exact a
def qi(e:gV a)(c:gV b)(d:3000000<=fu):qC fu a b=Z (yz<|zv a-zv b):=by
 unfold qC;have h1:=(Bz.neg c.bz).ok<|IR _;rw[U<|K5 c d,U<|vY e h1 d,zn];congr 2
theorem Bw{x:J}:0<(((yz x).2.length:K):J)↔x≠0:=by grind [yz,MG,qe]
theorem QH(x:J):(yz x).1=wL↔x<0:=by unfold yz;simp
theorem xe{z:M}(h:gV z)(c:3000000<=fu):xy fu z=Z (jH (zv z) 0):=by grind [xy,U,kU,QH,Df,qG,Bw,kP,vM]
theorem zg2(x y:J):jH (x-y) 0=jH x y:=by grind [qG,kP,vM]
def ZW(c:gV a)(d:gV b)(e:3000000<=fu)(hl:X a.2<=99999:=by lia)(hc:X b.2<=99999:=by lia):kq fu a b=Z (jH (zv a)<|zv b):=by
 unfold kq;have h1:=((Bz.of c.1).mono hl).sub<|(Bz.of d.1).mono hc;rw[U<|qi c d e,U<|xe (h1.ok<|IR _) e,zn,zg2]
def zV(c:gV a)(d:gV b)(e:3000000<=fu):zF fu a b=Z (yz<|zv a*zv b):=by
 have:=c.2;have:=d.2;exact iC c.1 d.1 W W W
def yi{x:J}(h:KH x)(c:3000000<=fu):zP fu x=Z (yz x):=aF h
end
end Go.Proofs.YtoegnnjcmlghhaaGreat
