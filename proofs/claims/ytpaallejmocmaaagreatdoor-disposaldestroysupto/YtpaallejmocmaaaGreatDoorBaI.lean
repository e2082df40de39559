/- A part of this claim. -/
import Derived.Test.YtpaallejmocmaaaGreatDoorBaN
set_option maxHeartbeats 1000000
set_option maxRecDepth 100000
namespace Go.Arc
open Go.Ab Go.RowKit Go.Proofs Tryz
variable {T : Lay}
variable {l:List Plan}{d:Int}{f:Fil}{x:Note}{s:Str}
theorem jul(l:List Note)(f:FuncId)(cap:List V)(p:Note->Bool)(hl:l.length<=1048576)(hp:∀e∈l,Den prog T f (.agg e.cs::cap) (vb (p e))):
   Den prog T 335 [ntss l,.func f cap] (vi (ix p l)):=by
  refine ab call335 func335 19 ?_;exact ixPf
theorem jt4(l:List Note)(f:FuncId)(cap:List V)(p:Note->Bool)(hl:l.length<=1048576)(hp:∀e∈l,Den prog T f (.agg e.cs::cap) (vb (p e))):
   Den prog T 363 [ntss l,.func f cap] (vb (l.any p)):=by
  refine ab call363 func363 9 ?_;refine rc (jul l f cap p hl hp) ?_;exact zbu
theorem flatN:∀(l:List Note),∀e∈l.map Note.cs,∀c∈e,c.flat=true:=by
 intro l e he c hc;obtain⟨n,-,rfl⟩:=xi.1 he;simp only[Note.cs,vg,List.mem_nil_iff,ya] at hc;rcases hc with rfl|rfl|rfl|rfl<;>rfl
theorem jrr(l:List Note)(hl:l.length<=1048576):DenO prog T 124 [ntss l] 173 (ntss l):=by
 refine lf call124 func124 8 ?_;cases l with
 |nil=>
  refine run ?_;intro b;cases b
  .exact zq
  refine run ?_;exact finO (.nil 4)
 |cons x r=>
  have h:r.length+1<=1048576:=hl;have e:ntss (x::r)=.slice 4 (x.cs::r.map Note.cs):=rfl;rw[e];exact zq
theorem qe6(l:List Note)(hl:l.length<=1048576):DenN prog T 124 [ntss l] 4 (l.map Note.cs):=
 (jrr l hl).new krq dcq (flatN l)
def bv(l:List Note):List V:=(l.map Note.cs).flatten
theorem jje(x:Note)(l:List Note):bv (x::l)=.str x.name::vi x.fst::vi x.lst::vi x.rcd::bv l:=rfl
theorem jv1:∀(l:List Note),(bv l).length=l.length*4
 |[]=>rfl
 |x::l=>by rw[jje];simp only[List.length_cons,jv1 l];omega
theorem qjq(l m:List Note):bv (l++m)=bv l++bv m:=by simp[bv]
theorem jfv:∀(l:List Note) (k:Nat),(bv l).drop (k*4)=bv (l.drop k)
 |_,0=>rfl
 |[],k+1=>by simp[bv]
 |x::l,k+1=>by
  rw[jje,show (k+1)*4=k*4+4 by omega];simp only[qwa];exact jfv l k
theorem jtf:∀(l:List Note) (k:Nat),(bv l).take (k*4)=bv (l.take k)
 |_,0=>by simp[bv]
 |[],k+1=>by simp[bv]
 |x::l,k+1=>by
  rw[jje,show (k+1)*4=k*4+4 by omega];simp only[List.take_succ_cons];rw[jtf l k];rfl
theorem qgy(l:List Note)(f:FuncId)(cap:List V)(p:Note->Bool)(hl:l.length<=1048576)(hp:∀e∈l,Den prog T f (.agg e.cs::cap) (vb (p e))):
   DenM prog T 335 (bv l) [.s 999999 0 l.length 4,.v (.func f cap)] (bv l) (.v (vi (ix p l))):=by
  refine jfl follows (fun args w=>call335 args w) func335 rfl 19 rfl rfl ?_;refine run ?_;refine aj ⟨[8,0,1,7],[999999],[],[]⟩ l.length (fun k=>∀e∈l.take k,p e=false) smq ?_;rintro k ⟨hk,hall⟩;by_cases hlt:k<l.length
  . obtain⟨x,hx,hd,hm⟩:=ac hlt;have hd':(bv l).drop (k*4)=.str x.name::vi x.fst::vi x.lst::vi x.rcd::bv (l.drop (k+1)):=by rw[jfv,hd];rfl
    refine rcW hd' (hp x hm) ?_;cases hpc:p x
    . exact zct
    refine run ?_;exact ug (.v (.of (ah (nv hall hx hpc))))
  refine run ?_;exact ug (.v (.of (ah (ov hall hlt))))
theorem jsd(l:List Note)(f:FuncId)(cap:List V)(p:Note->Bool)(hl:l.length<=1048576)(h0:l≠[])(hp:∀e∈l,Den prog T f (.agg e.cs::cap) (vb (p e))):
   DenM prog T 272 (bv l) [.s 999999 0 l.length 4,.v (.func f cap)] (bv (l.filter fun e=> !p e))
     (if l.filter (fun e=> !p e)=[] then .v (.slice 4 []) else .s 999999 0 (l.filter fun e=> !p e).length 4):=by
  have hlen:0<l.length:=xj.2 h0;refine jfl follows (fun args w=>call272 args w) func272 rfl 42 rfl rfl ?_;refine run ?_;refine jfb 999999 (qgy l f cap p hl hp) ?_;rcases hix:l.findIdx? p with _|i
  . have hi:ix p l= -1:=by simp[ix,hix]
    have hf:l.filter (fun e=> !p e)=l:=by
      rw[qws];intro e he;simp[List.findIdx?_eq_none_iff.1 hix e he]
    rw[hi,hf,ul h0];refine run ?_;exact ug (.refl _)
  obtain⟨hlt,hpi,hbef⟩:=qwb.1 hix;have hi:ix p l=i:=by simp[ix,hix]
  rw[hi];refine run ?_
  have hfi:((l.take (i+1)).filter fun e=> !p e)=l.take i:=by
    rw[jfs (gge hlt),ul (by simp[hpi]),qws];intro e he;obtain⟨j,hj,rfl⟩:=List.mem_iff_getElem.1 he;simp only[vz] at hj;simp[hbef j omq]
  have hkl:((l.take (i+1)).filter fun e=> !p e).length=i:=by rw[hfi];simp;omega
  refine loop ⟨[0,1,5,6],[999999],[],[]⟩ (fun y:Nat×List V=>i+1<=y.1/\y.1<=l.length/\y.2.length=l.length*4/\((l.take y.1).filter fun e=> !p e).length<y.1/\
      y.2.take (((l.take y.1).filter fun e=> !p e).length*4)=bv ((l.take y.1).filter fun e=> !p e)/\y.2.drop (y.1*4)=bv (l.drop y.1)) (fun y=>l.length-y.1)
    (fun y=>⟨42,[(0,.s 999999 0 l.length 4),(1,.v (.func f cap)),(5,.v (vi ((l.take y.1).filter fun e=> !p e).length)),(6,.v (vi y.1))],[(999999,.var y.2)],[]⟩) (i+1,bv l) ?_ ?_ ?_
  . refine⟨smq,by simp;omega,jv1 l,?_,?_,jfv l _⟩
    . simp only;rw[hfi];simp;omega
    simp only;rw[hfi];simp only[vz,yh (Nat.le_of_lt hlt),jtf]
  . rintro⟨j,cs⟩ ⟨h1,h2,h3,h4,h5,h6⟩;simp only at h1 h2 h3 h4 h5 h6;by_cases hj:j<l.length
    . obtain⟨x,hx,hd,hm⟩:=ac hj;have hd':cs.drop (j*4)=.str x.name::vi x.fst::vi x.lst::vi x.rcd::bv (l.drop (j+1)):=by rw[h6,hd];rfl
      refine rcW hd' (hp x hm) ?_
      have hdn:cs.drop (j*4+4)=bv (l.drop (j+1)):=by
        rw[<- qwc,hd'];rfl
      cases hpc:p x
      . have hf:=jfs (q:=fun e=> !p e) hx;simp only[hpc,qvl,uy] at hf;refine run ?_;have hl1:(cs.take (((l.take j).filter fun e=> !p e).length*4)).length=((l.take j).filter fun e=> !p e).length*4:=by rw[vz];omega
        refine round (j+1,cs.take (((l.take j).filter fun e=> !p e).length*4)++[.str x.name,vi x.fst,vi x.lst,vi x.rcd]++cs.drop (((l.take j).filter fun e=> !p e).length*4+4)) ⟨by simp only;omega,by simp only;omega,?_,?_,?_,?_⟩ zev ?_
        . simp only[ve,hl1,xo,List.length_cons,List.length_nil];omega
        . simp only;rw[hf];simp only[ve,List.length_cons,List.length_nil];omega
        . simp only;rw[hf];rw[List.take_append_of_le_length zey,xn zey,h5,qjq];rfl
        . simp only;rw[List.drop_append,qvb zey,List.nil_append,qwc,<- hdn];congr 1;simp only[ve,hl1,List.length_cons,List.length_nil];omega
        simp only[hf,ve,List.length_cons,List.length_nil];rfl
      have hf:=jfs (q:=fun e=> !p e) hx;simp only[hpc,qw5,vq,va] at hf;refine run ?_;refine round (j+1,cs) ⟨omq,omq,h3,?_,?_,?_⟩ zev ?_
      . simp only;rw[hf];omega
      . simp only;rw[hf];exact h5
      . simp only;rw[show (j+1)*4=j*4+4 by omega];exact hdn
      simp only[hf];rfl
    have hj':j=l.length:=omq;subst hj';simp only[vk] at h4 h5;have htl:l.take l.length=l:=vk;refine runW htl ?_;by_cases hz:l.filter (fun e=> !p e)=[]
    . rw[um hz];have hz':(l.filter (fun e=> !p e)).length=0:=by rw[hz];rfl
      refine runW hz' ?_;rw[hz];exact ug (.refl _)
    rw[ul hz];have hz':0<(l.filter (fun e=> !p e)).length:=xj.2 hz;refine runW h5 ?_;exact ug (.refl _)
  simp only[hkl];rfl
theorem js4(f:FuncId)(cap:List V):Den prog T 272 [ntss [],.func f cap] (ntss []):=by
 refine ab call272 func272 42 ?_;refine rc (jul [] f cap (fun _=>false) smq smq) ?_;have hi:ix (fun _:Note=>false) []= -1:=rfl;rw[hi];exact za
theorem jx0(f:Fil)(d:Int):Den prog T 208 [.agg f.cs,vi d] (vi (state f d)):=by
 refine ab call208 func208 15 ?_;by_cases h1:d<f.opn
 .refine run ?_;refine fin (ah ?_);rw[state,um h1]
 by_cases h2:d<f.cld
 .refine run ?_;refine fin (ah ?_);rw[state,ul h1,um h2]
 refine run ?_;refine fin (ah ?_);rw[state,ul h1,ul h2]
theorem jfj(f:Fil)(d:Int):Den prog T 94 [.agg f.cs,vi d] (vi (state f d)):=by
 refine ab call94 func94 13 ?_;by_cases h1:d<f.opn
 .refine run ?_;refine fin (ah ?_);rw[state,um h1]
 by_cases h2:d<f.cld
 .refine run ?_;refine fin (ah ?_);rw[state,ul h1,um h2]
 refine run ?_;refine fin (ah ?_);rw[state,ul h1,ul h2]
theorem qcs(d day:Int):Den prog T 236 [vi d,vi day] (jin (onD d day)):=by
 refine ab call236 func236 13 ?_;by_cases h1:day<d
 .have e:onD d day=none:=by rw[onD,um h1]
  rw[e];exact zu
 have e:onD d day=some (d,d):=by rw[onD,ul h1]
 rw[e];exact zu
theorem qbi(d day:Int):Den prog T 271 [vi d,.row [vi day]] (jin (onD d day)):=by
 refine ab call271 func271 12 ?_;by_cases h1:day<d
 .have e:onD d day=none:=by rw[onD,um h1]
  rw[e];exact zu
 have e:onD d day=some (d,d):=by rw[onD,ul h1]
 rw[e];exact zu
theorem qj8(n:Note)(d:Int):Den prog T 336 [.agg n.cs,.row [vi d]] (vb (!ke d n)):=by
 refine ab call336 func336 8 ?_;by_cases h:n.rcd<=d
 .have e:ke d n=true:=by simp[ke,h]
  rw[e];exact za
 have e:ke d n=false:=by simp[ke,h]
 rw[e];exact za
theorem qm9(n:Note)(s:Str):Den prog T 274 [.agg n.cs,.row [.str s]] (vb (!named s n)):=by
 refine ab call274 func274 8 ?_;exact za
theorem qsm(a b:Int):Den prog T 277 [.slice 1 [[vi a],[vi b]]] (vi (if a=0 then b else a)):=by
 refine ab call277 func277 18 ?_;refine run ?_;refine bp ⟨[8,3,6,7],[],[],[]⟩ (fun k:Nat=>k=0\/(k=1/\a=0)\/(k=2/\a=0/\b=0)) (fun k=>2-k) (fun k=>[(8,.v (vi k))]) 0 (.inl rfl) ?_;rintro k (rfl|⟨rfl,h⟩|⟨rfl,h,h'⟩)
 .by_cases h:a=0
  .refine run ?_;exact round 1 (.inr (.inl ⟨rfl,h⟩)) dcq
  refine run ?_;refine fin (ah ?_);rw[ul h]
 .by_cases h':b=0
  .refine run ?_;exact round 2 (.inr (.inr ⟨rfl,h,h'⟩)) dcq
  refine run ?_;refine fin (ah ?_);rw[um h]
 refine run ?_;refine fin (ah ?_);rw[um h,h']
def cN(a b:Note):Int:=if cmpI a.lst b.lst=0 then cmpI a.fst b.fst else cmpI a.lst b.lst
theorem cN_gt(a b:Note):decide (0<cN a b)=gtN a b:=by
 simp only[cN,cmpI,gtN];by_cases h1:a.lst<b.lst
 .have:¬b.lst<a.lst:=omq;have:¬a.lst=b.lst:=omq;simp[*]
 by_cases h2:b.lst<a.lst
 .simp[*]
 have h3:a.lst=b.lst:=omq;by_cases h4:a.fst<b.fst
 .have:¬b.fst<a.fst:=omq;simp[*]
 by_cases h5:b.fst<a.fst
 .simp[*]
 simp[*]
theorem quj(a b:Note):Den prog T 276 [.agg a.cs,.agg b.cs] (vi (cN a b)):=by
 refine ab call276 func276 21 ?_;refine rc (jgg a.lst b.lst) ?_;refine rc (jgg a.fst b.fst) ?_;refine rc (qsm (cmpI a.lst b.lst) (cmpI a.fst b.fst)) ?_;exact za
def maxN:Note->List Note->Note
 |m,[]=>m
 |m,n::l=>maxN (if gtN n m=true then n else m) l
theorem jxe:∀(l:List Note) (m:Note),iz (some m) l=some (maxN m l)
 |[],_=>rfl
 |n::l,m=>by simp only[iz,maxN];exact jxe l _
theorem qg1(x:Note)(r:List Note)(f:FuncId)(hl:(x::r).length<=1048576)(hp:∀a b:Note,Den prog T f [.agg a.cs,.agg b.cs] (vi (cN a b))):
   DenM prog T 275 (bv (x::r)) [.s 999999 0 (x::r).length 4,.v (.func f [])] (bv (x::r)) (.v (.agg (maxN x r).cs)):=by
  have hl1:0<(x::r).length:=by simp
  have hd0:bv (x::r)=.str x.name::vi x.fst::vi x.lst::vi x.rcd::bv r:=rfl;have hmx:maxN x r=maxN x ((x::r).drop 1):=rfl;rw[hmx];generalize hL:x::r=l at *;refine jfl follows (fun args w=>call275 args w) func275 rfl 33 rfl rfl ?_;have hd1:(bv l).drop (0*4)=.str x.name::vi x.fst::vi x.lst::vi x.rcd::bv r:=hd0;refine runW hd1 ?_
  refine loop ⟨[0,1,4,5,6],[999999,4,5],[],[]⟩ (fun y:Nat×Note=>1<=y.1/\y.1<=l.length/\maxN x (l.drop 1)=maxN y.2 (l.drop y.1)) (fun y=>l.length-y.1)
    (fun y=>⟨33,[(0,.s 999999 0 l.length 4),(1,.v (.func f [])),(4,.p 4 0),(5,.p 5 0),(6,.v (vi y.1))],[(999999,.var (bv l)),(4,.var [.str [],vi 0,vi 0,vi 0]),(5,.var y.2.cs)],[]⟩) (1,x) ⟨smq,by simp;omega,rfl⟩ ?_
  rintro⟨k,m⟩ ⟨h1,hk,hm⟩;simp only at h1 hk hm;by_cases hlt:k<l.length
  . obtain⟨n,hx,hd,hmem⟩:=ac hlt;have hd':(bv l).drop (k*4)=.str n.name::vi n.fst::vi n.lst::vi n.rcd::bv (l.drop (k+1)):=by rw[jfv,hd];rfl
    have hc:=cN_gt n m;refine rcW hd' (hp n m) ?_;cases hg:gtN n m
    . rw[hg] at hc;have hc':=of_decide_eq_false hc;refine runW hd' ?_;refine round (k+1,m) ⟨by simp only;omega,by simp only;omega,?_⟩ zev;simp only;rw[hm,hd];simp[maxN,hg]
    rw[hg] at hc;have hc':=xp hc;refine runW hd' ?_;refine round (k+1,n) ⟨by simp only;omega,by simp only;omega,?_⟩ zev;simp only;rw[hm,hd];simp[maxN,hg]
  rw[qvb (show l.length<=k by omega)] at hm;refine run ?_;refine finMC (.of ?_);rw[hm];rfl
theorem jvq{l:List Note}(h:l.map Note.cs=[]):l=[]:=by simpa using h
theorem jua(l:List Note):(l.map Note.cs).flatten=bv l:=rfl
theorem qch(p:Note->Bool):(fun e=> !!p e)=p:=by funext e;simp
theorem qjl(f:Fil)(d:Int)(hf:f.Fit):DenN prog T 273 [.agg f.cs,vi d] 4 ((ii f d).map Note.cs):=by
 have hl:=hf.2.2.1;refine jsc follows (fun args w=>call273 args w) func273 rfl 10 rfl ?_;refine run ?_;refine jip (qe6 f.nts hl) ?_ ?_
 .intro hz;have hz':=jvq hz;refine rc (js4 _ _) ?_;have hk:ii f d=[]:=by rw[ii,hz'];rfl
  rw[hk];refine run ?_;exact jil rfl (.refl _)
 intro hz;have hz':f.nts≠[]:=fun e=>hz zfi;rw[jua];refine run ?_;refine jfb 7 (jsd f.nts _ _ (fun n=> !ke d n) hl hz' fun n _=>qj8 n d) ?_;rw[qch];have hk:f.nts.filter (ke d)=ii f d:=rfl;rw[hk];by_cases hne:ii f d=[]
 .rw[um hne,hne];refine run ?_;exact jil rfl (.refl _)
 rw[ul hne];refine run ?_;refine finN (id:=7) [] ?_ ?_
 .simp only[σ_mk,bb,↓reduceIte,ut]
 rw[vw];rfl
theorem qfs(f:Fil)(d:Int)(hf:f.Fit):DenO prog T 237 [.agg f.cs,vi d] 173 (ntss (ii f d)):=by
 have hl:=hf.2.2.1;refine lf call237 func237 32 ?_;refine run ?_
 refine loop ⟨[1,2,5,6],[2],[5],[]⟩ (fun y:Nat×List Note=>y.1<=f.nts.length/\y.2=(f.nts.take y.1).filter (ke d)) (fun y=>f.nts.length-y.1)
  (fun y=>⟨32,[(1,.v (vi d)),(2,.p 2 0),(5,.v (ntss y.2)),(6,.v (vi y.1))],[(2,.var f.cs)],[(173,[5])]⟩) (0,[]) ⟨smq,smq⟩ ?_
 rintro⟨k,out⟩ ⟨hk,hall⟩;simp only at hk hall;have hol:out.length<=k:=by rw[hall];exact qdt _ _ _
 by_cases hlt:k<f.nts.length
 .obtain⟨x,hx,hd,hm⟩:=ac hlt;have hfk:=jfs (q:=ke d) hx;by_cases hr:x.rcd<=d
  .have e:ke d x=true:=by simp[ke,hr]
   rw[um e] at hfk;have hap:out.map Note.cs++[[V.str x.name,vi x.fst,vi x.lst,vi x.rcd]]=(out++[x]).map Note.cs:=by simp
   refine runW (ai hx hap) ?_;exact round (k+1,out++[x]) ⟨by simp only;omega,by simp only;rw[hfk,hall]⟩ zev
  have e:¬ke d x=true:=by simp[ke,hr]
  rw[ul e] at hfk;refine runW hx ?_;exact round (k+1,out) ⟨by simp only;omega,by simp only;rw[hfk,hall]⟩ zev
 have ho:out=ii f d:=by rw[hall,xn omq];rfl
 subst ho;exact zq
theorem qs0{y:Note}(h:x≠y):(x.name == y.name && (decide (x.fst=y.fst) && (decide (x.lst=y.lst) && decide (x.rcd=y.rcd))))=false:=by
 cases e:(x.name == y.name && (decide (x.fst=y.fst) && (decide (x.lst=y.lst) && decide (x.rcd=y.rcd))))
 .rfl
 simp only[uw,vr,qvc] at e;obtain⟨e1,e2,e3,e4⟩:=e;cases x;cases y;exact absurd (by simp_all) h
theorem qem(a b:List Note)(ha:a.length<=1048576)(_hb:b.length<=1048576):Den prog T 96 [ntss a,ntss b] (vb (decide (a=b))):=by
 refine ab call96 func96 26 ?_;by_cases hlen:a.length=b.length
 .refine run ?_;refine aj ⟨[5,0,1],[],[],[]⟩ a.length (fun k=>(a=b↔a.drop k=b.drop k)) smq ?_;rintro k ⟨hk,hall⟩;by_cases hlt:k<a.length
  .obtain⟨x,hx,hd,-⟩:=ac hlt;obtain⟨y,hy,he,-⟩:=ac (l:=b) (k:=k) omq;have hed:=jaq hd he;by_cases hxy:x=y
   .subst hxy;refine runW (ai hx hy) ?_;refine round (k+1) ⟨omq,?_⟩ omq;rw[hall,hed];simp
   have hne:=qs0 hxy;refine runW (ai hx (ai hy hne)) ?_;refine fin (ae ?_);have:¬a=b:=fun h=>hxy (hed.1 (hall.1 h)).1;simp[this]
  refine run ?_;refine fin (ae ?_);have:a=b:=by rw[hall,dv hlt,dv (show ¬k<b.length by omega)]
  simp[this]
 refine run ?_;refine fin (ae ?_);have:¬a=b:=fun h=>hlen (by rw[h]);simp[this]
def fewN(n:Note):Bool:= !decide (100<n.name.length)
def rj(f:Fil):Bool:= !(decide (20<f.nts.length) || (decide (100<f.title.length) || decide (100<f.cls.length))) && f.nts.all fewN
def fewF(l:List Fil):Bool:= !((decide (10<l.length) && decide (l.length<=256)) || decide (261<l.length)) && l.all rj
theorem qn9(l:List Fil)(hl0:l.length<=2097152)(hl:∀f∈l,f.Fit):Den prog T 61 [fils l] (vb (fewF l)):=by
 refine ab call61 func61 70 ?_;by_cases g:(10<l.length/\l.length<=256)\/261<l.length
 .have hf:fewF l=false:=by
   rcases g with⟨g1,g2⟩|g
   .simp[fewF,g1,g2]
   simp[fewF,g]
  rw[hf];by_cases a1:l.length<=256
  .have a2:10<l.length:=omq;exact za
  have a2:10<l.length:=omq;have a3:261<l.length:=omq;exact za
 have hq:fewF l=l.all rj:=by
  have e1:(decide (10<l.length) && decide (l.length<=256))=false:=by
   cases e:decide (10<l.length)
   .rfl
   have:10<l.length:=by simpa using e
   simp;omega
  have e2:decide (261<l.length)=false:=by simp;omega
  simp only[fewF,e1,e2,xx,qvl,yc]
 have go:∀Q:Prop,(10<l.length->¬l.length<=256->Q)->(¬ 10<l.length->Q)->Q:=fun Q a b=>by
  by_cases a1:10<l.length
  .exact a a1 omq
  exact b a1
 rw[hq];have a3:¬ 261<l.length:=omq;refine go _ (fun a1 a2=>?_) (fun a1=>?_) <;>
 .refine run ?_;refine aj ⟨[3,0],[],[],[]⟩ l.length (fun k=>∀p∈l.take k,rj p=true) smq ?_;rintro k ⟨hk,hall⟩;by_cases hlt:k<l.length
  .obtain⟨x,hx,hd,hm⟩:=ac hlt;obtain⟨f1,f2,f3,f4⟩:=hl x hm;by_cases g1:20<x.nts.length
   .refine runW hx ?_;refine fin (ae ?_);rw[kr hx (by simp[rj,g1])]
   by_cases g2:100<x.title.length
   .refine runW hx ?_;refine fin (ae ?_);rw[kr hx (by simp[rj,g2])]
   by_cases g3:100<x.cls.length
   .refine runW hx ?_;refine fin (ae ?_);rw[kr hx (by simp[rj,g3])]
   have hfx:rj x=x.nts.all fewN:=by simp[rj,g1,g2,g3]
   refine runW hx ?_;refine aj ⟨[4,0,3],[],[],[]⟩ x.nts.length (fun j=>∀p∈x.nts.take j,fewN p=true) smq ?_;rintro j ⟨hj,hallj⟩;by_cases hlt':j<x.nts.length
   .obtain⟨n,hn,hdn,hmn⟩:=ac hlt';have hn1:n.name.length<=1048576:=f4 n hmn;by_cases g4:100<n.name.length
    .refine runW (ai hx hn) ?_;refine fin (ae ?_);rw[kr hx (by rw[hfx];exact kr hn (by simp[fewN,g4]))]
    refine runW (ai hx hn) ?_;exact round (j+1) ⟨omq,an (q:=fun p:Note=>fewN p=true) hallj hn (by simp[fewN,g4])⟩ omq
   have hfx':rj x=true:=by rw[hfx];exact jat hallj hlt'
   refine runW hx ?_;exact round (k+1) ⟨omq,an (q:=fun p:Fil=>rj p=true) hall hx hfx'⟩ omq
  refine run ?_;refine fin (ae ?_);rw[jat hall hlt]
theorem qqf(l:List Fil)(hl:jb9 l):Den prog T 61 [fils l] (vb (fewF l)):=qn9 l (xa hl.1 dcq) hl.2
theorem jsh(f:Fil)(d:Int):trig f [111,112,101,110,101,100] d=onD f.opn d:=by unfold trig;exact um rfl
theorem jsi(f:Fil)(d:Int):trig f [99,108,111,115,101,100] d=onD f.cld d:=by
 unfold trig;rw[ul dcq];exact um rfl
theorem jvc(h1:(s == [111,112,101,110,101,100])=false)(h2:(s == [99,108,111,115,101,100])=false):trig f s d=(best f s d).map fun n=>(n.fst,n.lst):=
 qoh (fun e=>by rw[e] at h1;exact absurd h1 dcq) (fun e=>by rw[e] at h2;exact absurd h2 dcq)
theorem jgs(a b:Int):∃x y z,jin (onD a b)=.tup [datg x y,vb z]:=by
 unfold onD;split
 .exact⟨_,_,_,rfl⟩
 exact⟨_,_,_,rfl⟩
theorem qtq{r:List Note}(h:own f s d=x::r):best f s d=some (maxN x r):=by
 unfold best;rw[h];exact jxe r x
theorem jt5(f:Fil)(s:Str)(d:Int)(hf:f.Fit):Den prog T 198 [.agg f.cs,.str s,vi d] (jk f s d):=by
 refine ab call198 func198 42 ?_;cases h1:s == [111,112,101,110,101,100]
 .cases h2:s == [99,108,111,115,101,100]
  .have ht:=jvc (f:=f) (d:=d) h1 h2;have hkl:(ii f d).length<=1048576:=xa (qwe _ _) hf.2.2.1;refine runW (ai h1 h2) ?_;refine jip (qjl f d hf) ?_ ?_
   .intro hz;have hk:=jvq hz;refine rc (js4 _ _) ?_;have hb:best f s d=none:=by unfold best own;rw[hk];rfl
    rw[jk,ht,hb];exact zu
   intro hz;have hz':ii f d≠[]:=fun e=>hz zfi;rw[jua];refine run ?_;refine jfb 31 (jsd (ii f d) _ _ (fun n=> !named s n) hkl hz' fun n _=>qm9 n s) ?_;rw[qch];have hk:(ii f d).filter (named s)=own f s d:=rfl;rw[hk];have hol:(own f s d).length<=1048576:=xa (qwe _ _) hkl;cases ho:own f s d with
   |nil=>
    have hb:best f s d=none:=by unfold best;rw[ho];rfl
    rw[um rfl,jk,ht,hb];exact zu
   |cons x r=>
    rw[ho] at hol;have hl1:0<(x::r).length:=by simp
    have hmx:=qg1 (T:=T) x r 276 hol quj;rw[ul smq,jk,ht,qtq ho];generalize x::r=l at hol hl1 hmx;refine run ?_;refine jfb 31 hmx ?_;exact zu
  have hs:s=[99,108,111,115,101,100]:=eq_of_beq h2;have ht:trig f s d=onD f.cld d:=by rw[hs];exact jsi f d
  rw[jk,ht];obtain⟨x,y,z,e⟩:=jgs f.cld d;refine rcW (ai h1 h2) (qbi f.cld d) ?_;rw[e];exact zu
 have hs:s=[111,112,101,110,101,100]:=eq_of_beq h1;have ht:trig f s d=onD f.opn d:=by rw[hs];exact jsh f d
 rw[jk,ht];obtain⟨x,y,z,e⟩:=jgs f.opn d;refine rcW h1 (qbi f.opn d) ?_;rw[e];exact zu
def jiq:Option Note->List V
 |some n=>[vi n.fst,vi n.lst]
 |none=>[vi 0,vi 0]
theorem qju{o:Option Note}{l:List Note}(h:named s x=false):iz o ((x::l).filter (named s))=iz o (l.filter (named s)):=by
 rw[qwq,ul (by simp[h])]
theorem qh6{l:List Note}(h:named s x=true):iz none ((x::l).filter (named s))=iz (some x) (l.filter (named s)):=by
 rw[qwq,um h];rfl
theorem qjv{m:Note}{l:List Note}(h:named s x=true):iz (some m) ((x::l).filter (named s))=iz (some (if gtN x m=true then x else m)) (l.filter (named s)):=by
 rw[qwq,um h];rfl
theorem jrk(f:Fil)(s:Str)(d:Int)(hf:f.Fit):Den prog T 159 [.agg f.cs,.str s,vi d] (jk f s d):=by
 refine ab call159 func159 79 ?_;cases h1:s == [111,112,101,110,101,100]
 .cases h2:s == [99,108,111,115,101,100]
  .have ht:=jvc (f:=f) (d:=d) h1 h2;have hkl:(ii f d).length<=1048576:=xa (qwe _ _) hf.2.2.1;refine runW (ai h1 h2) ?_;refine uh (qfs f d hf) ?_;rw[jk,ht];have hb:best f s d=iz none ((ii f d).filter (named s)):=rfl;generalize ii f d=K at hkl hb;refine run ?_;have hc0:jiq none=[vi 0,vi 0]:=rfl
   refine loop ⟨[1,6,8,9,10,11],[6,8],[],[]⟩ (fun y:Nat×Option Note=>y.1<=K.length/\best f s d=iz y.2 ((K.drop y.1).filter (named s))) (fun y=>K.length-y.1)
    (fun y=>⟨79,[(1,.v (.str s)),(6,.p 6 0),(8,.p 8 0),(9,.v (vb y.2.isSome)),(10,.v (ntss K)),(11,.v (vi y.1))],[(6,.var [vi 0,vi 0]),(8,.var (jiq y.2))],[]⟩) (0,none) ⟨smq,hb⟩ ?_
   rintro⟨k,o⟩ ⟨hk,hall⟩;simp only at hk hall;by_cases hlt:k<K.length
   .obtain⟨x,hx,hd,hm⟩:=ac hlt;rw[hd] at hall;cases hn:named s x
    .rw[qju hn] at hall;have hn':(x.name == s)=false:=hn;refine runW (ai hx hn') ?_;exact round (k+1,o) ⟨by simp only;omega,hall⟩ zev
    have hn':(x.name == s)=true:=hn;cases o with
    |none=>
     rw[qh6 hn] at hall;refine runW (ai hx (ai hn' hc0)) ?_;exact zbz
    |some m=>
     rw[qjv hn] at hall;have hcm:jiq (some m)=[vi m.fst,vi m.lst]:=rfl;by_cases g1:m.lst<x.lst
     .have hg:gtN x m=true:=by simp[gtN,g1]
      rw[um hg] at hall;refine runW (ai hx (ai hn' hcm)) ?_;exact zbz
     by_cases g2:x.lst=m.lst
     .by_cases g3:m.fst<x.fst
      .have hg:gtN x m=true:=by simp[gtN,g2,g3]
       rw[um hg] at hall;refine runW (ai hx (ai hn' hcm)) ?_;exact zbz
      have hg:¬gtN x m=true:=by simp[gtN,g2,g3]
      exact zca
     have hg:¬gtN x m=true:=by simp[gtN,g1,g2]
     exact zca
   rw[qvb (show K.length<=k by omega)] at hall;have hall:best f s d=o:=by rw[hall];cases o<;>rfl
   rw[hall];cases o with
   |none=>
    refine runW hc0 ?_;exact mi (.refl _)
   |some m=>
    have hcm:jiq (some m)=[vi m.fst,vi m.lst]:=rfl;refine runW hcm ?_;exact mi (.refl _)
  have hs:s=[99,108,111,115,101,100]:=eq_of_beq h2;have ht:trig f s d=onD f.cld d:=by rw[hs];exact jsi f d
  rw[jk,ht];obtain⟨x,y,z,e⟩:=jgs f.cld d;refine rcW (ai h1 h2) (qcs f.cld d) ?_;rw[e];exact zu
 have hs:s=[111,112,101,110,101,100]:=eq_of_beq h1;have ht:trig f s d=onD f.opn d:=by rw[hs];exact jsh f d
 rw[jk,ht];obtain⟨x,y,z,e⟩:=jgs f.opn d;refine rcW h1 (qcs f.opn d) ?_;rw[e];exact zu
theorem jz7(h:goodL l=false):bu l f d=([],1):=by simp[bu,h]
theorem jh2(h:goodL l=true)(h':idx l f.opn<0\/idx l d<idx l f.opn):bu l f d=([],24):=by simp[bu,h,h']
theorem jz6(h:goodL l=true)(h':has (pl l (idx l f.opn).toNat) f.cls=false):bu l f d=([],24):=by
 unfold bu;rw[ul (by simp[h])];split
 .rfl
 first|rfl|rw[um h']
theorem jz8(h:goodL l=true)(h1:¬(idx l f.opn<0\/idx l d<idx l f.opn))(h':has (pl l (idx l f.opn).toNat) f.cls=true):bu l f d=(ua l (idx l f.opn+1) (idx l d+1) f.cls,0):=by
 unfold bu;rw[ul (by simp[h]),ul h1,ul (by simp[h'])]
theorem jbs(h:¬idx l d<0):∃i:Nat,idx l d=i/\i<l.length:=by
 rcases qlm l d with⟨h1,-⟩|⟨i,h1,h2,-⟩
 .omega
 exact⟨i,h1,h2⟩
theorem jx4(L:LibC T)(l:List Plan)(f:Fil)(d:Int)(hl:Fits l)(hf:f.Fit):Den prog T 195 [ay l,.agg f.cs,vi d] (pc l f d):=by
 have hl0:=hl.1;refine ab call195 func195 49 ?_;refine rc (jdg L l hl) ?_;by_cases hc:(check l).2=0
 .have hg:=(jky l).2 hc;refine rc (jos L l f.opn hl) ?_;refine rc (jos L l d hl) ?_;rw[jnh hg,jnh hg];by_cases h1:idx l f.opn<0
  .rw[pc,jh2 hg (.inl h1)];exact za
  by_cases h2:idx l d<idx l f.opn
  .rw[pc,jh2 hg (.inr h2)];exact za
  obtain⟨i,hi,hil⟩:=jbs h1;obtain⟨j,hj,hjl⟩:=jbs (l:=l) (d:=d) omq;rw[hi] at h1 h2 ⊢;rw[hj] at h2 ⊢;have hv:im l ((i:Int)+1) ((j:Int)+1)=0:=jvb hg omq;have ei:((i:Int)+1-1).toNat=i:=omq;refine rc (qgt L l ((i:Int)+1) ((j:Int)+1) f.cls hl hf.1) ?_;cases hh:has (pl l i) f.cls
  .have e:tj l ((i:Int)+1) ((j:Int)+1) f.cls=.tup [.str [],vi 7]:=by simp only[tj,jw8 hv (by rw[ei];exact hh)]
   rw[e,pc,jz6 hg (by rw[hi,Int.toNat_natCast];exact hh)];exact za
  have e:tj l ((i:Int)+1) ((j:Int)+1) f.cls=.tup [.str (ua l ((i:Int)+1) ((j:Int)+1) f.cls),vi 0]:=by simp only[tj,jw9 hv (by rw[ei];exact hh)]
  rw[e,pc,jz8 hg omq (by rw[hi,Int.toNat_natCast];exact hh),hi,hj];exact za
 have hg:goodL l=false:=by simp[goodL,hc]
 rw[pc,jz7 hg];exact za
theorem jtb(l:List Plan)(f:Fil)(d:Int)(hl:Fits l)(hf:f.Fit)(hg:goodL l=true):Den prog T 156 [ay l,.agg f.cs,vi d] (pc l f d):=by
 have hl0:=hl.1;refine ab call156 func156 40 ?_;refine rc (jix l f.opn hl0) ?_;refine rc (jix l d hl0) ?_;by_cases h1:idx l f.opn<0
 .rw[pc,jh2 hg (.inl h1)];exact za
 by_cases h2:idx l d<idx l f.opn
 .rw[pc,jh2 hg (.inr h2)];exact za
 obtain⟨i,hi,hil⟩:=jbs h1;obtain⟨j,hj,hjl⟩:=jbs (l:=l) (d:=d) omq;rw[hi] at h1 h2 ⊢;rw[hj] at h2 ⊢;obtain⟨p,hp,-,hm⟩:=ac (l:=l) (k:=i) hil;refine rcW hp (ja7 p f.cls (hl.2 p hm).1) ?_;cases hh:has p f.cls
 .rw[pc,jz6 hg (by rw[hi,Int.toNat_natCast,sg hp];exact hh)];exact za
 rw[pc,jz8 hg omq (by rw[hi,Int.toNat_natCast,sg hp];exact hh),hi,hj,qk6];refine rc (qq8 l i j f.cls hl omq hjl hf.1) ?_;exact za
end Go.Arc
