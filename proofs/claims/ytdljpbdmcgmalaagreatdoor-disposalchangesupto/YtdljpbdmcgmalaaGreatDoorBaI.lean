/- A part of this claim. -/
import Derived.Test.YtdljpbdmcgmalaaGreatDoorSp8
import Derived.Test.YtdljpbdmcgmalaaGreatDoorW14
set_option maxRecDepth 100000
namespace Go.Arc
open Go.Ab Go.RowKit Go.Proofs Tryz
variable {T : Lay}
theorem den_ixNote (l:List Note) (f:FuncId) (cap:List V) (p:Note->Bool) (hl:l.length<=1048576) (hp:∀e∈l,Den prog T f (.agg e.cs::cap) (vb (p e))):
   Den prog T 355 [ntss l,.func f cap] (vi (ix p l)):=by
  refine ja0 call355 func355 19 ?_;exact ixPf
theorem jrr (l:List Note) (f:FuncId) (cap:List V) (p:Note->Bool) (hl:l.length<=1048576) (hp:∀e∈l,Den prog T f (.agg e.cs::cap) (vb (p e))):
   Den prog T 331 [ntss l,.func f cap] (vb (l.any p)):=by
  refine ja0 call331 func331 9 ?_;refine rc (den_ixNote l f cap p hl hp) ?_;exact zbj
theorem flatN:∀(l:List Note),∀e∈l.map Note.cs,∀c∈e,c.flat=true:=by
 intro l e he c hc;obtain ⟨n,-,rfl⟩:=List.mem_map.1 he;simp only[Note.cs,List.mem_cons,List.mem_nil_iff,or_false] at hc;rcases hc with rfl | rfl | rfl | rfl <;> rfl
theorem jql (l:List Note) (hl:l.length<=1048576):DenO prog T 183 [ntss l] 191 (ntss l):=by
 refine jhk call183 func183 8 ?_;cases l with
 | nil=>
  refine run ?_;intro b;cases b
  ·exact zbi
  ·refine run ?_;exact finO (.nil 4)
 | cons x r=>
  have h:r.length+1<=1048576:=hl;have e:ntss (x::r)= .slice 4 (x.cs::r.map Note.cs):=rfl;rw[e];exact zbi
theorem denN_cloneNote (l:List Note) (hl:l.length<=1048576):DenN prog T 183 [ntss l] 4 (l.map Note.cs):=
 (jql l hl).new kr dc (flatN l)
def jaw (l:List Note):List V:=(l.map Note.cs).flatten
theorem jo7 (x:Note) (l:List Note):jaw (x::l)= .str x.name::vi x.fst::vi x.lst::vi x.rcd::jaw l:=rfl
theorem cellsN_len:∀(l:List Note),(jaw l).length=l.length*4
 | []=>rfl
 | x::l=>by rw[jo7]; simp only[List.length_cons,cellsN_len l]; omega
theorem cellsN_app (l m:List Note):jaw (l++m)=jaw l++jaw m:=by simp[jaw]
theorem jm1:∀(l:List Note) (k:Nat),(jaw l).drop (k*4)=jaw (l.drop k)
 | _,0=>rfl
 | [],k+1=>by simp[jaw]
 | x::l,k+1=>by
  rw[jo7,show (k+1)*4=k*4+4 by omega];simp only[List.drop_succ_cons];exact jm1 l k
theorem jrx:∀(l:List Note) (k:Nat),(jaw l).take (k*4)=jaw (l.take k)
 | _,0=>by simp[jaw]
 | [],k+1=>by simp[jaw]
 | x::l,k+1=>by
  rw[jo7,show (k+1)*4=k*4+4 by omega];simp only[List.take_succ_cons];rw[jrx l k]; rfl
theorem denM_ixNote (l:List Note) (f:FuncId) (cap:List V) (p:Note->Bool) (hl:l.length<=1048576) (hp:∀e∈l,Den prog T f (.agg e.cs::cap) (vb (p e))):
   DenM prog T 355 (jaw l) [.s 999999 0 l.length 4,.v (.func f cap)] (jaw l) (.v (vi (ix p l))):=by
  refine jlt follows (fun args w=>call355 args w) func355 rfl 19 rfl rfl ?_;refine run ?_;refine ja7 ⟨[8,0,1,7],[999999],[],[]⟩ l.length (fun k=>∀e∈l.take k,p e=false) sm ?_;rintro k ⟨hk,hall⟩;by_cases hlt:k<l.length
  · obtain ⟨x,hx,hd,hm⟩:=ja1 hlt;have hd':(jaw l).drop (k*4)= .str x.name::vi x.fst::vi x.lst::vi x.rcd::jaw (l.drop (k+1)):=by rw[jm1,hd]; rfl
    refine rcW hd' (hp x hm) ?_;cases hpc:p x
    · exact zch
    · refine run ?_;exact finM0 (.v (.of (ja5 (jge hall hx hpc))))
  · refine run ?_;exact finM0 (.v (.of (ja5 (jgv hall hlt))))
theorem jr3 (l:List Note) (f:FuncId) (cap:List V) (p:Note->Bool) (hl:l.length<=1048576) (h0:l≠[]) (hp:∀e∈l,Den prog T f (.agg e.cs::cap) (vb (p e))):
   DenM prog T 299 (jaw l) [.s 999999 0 l.length 4,.v (.func f cap)] (jaw (l.filter fun e=> !p e))
     (if l.filter (fun e=> !p e)=[] then .v (.slice 4 []) else .s 999999 0 (l.filter fun e=> !p e).length 4):=by
  have hlen:0<l.length:=List.length_pos_iff.2 h0;refine jlt follows (fun args w=>call299 args w) func299 rfl 42 rfl rfl ?_;refine run ?_;refine callM 999999 (denM_ixNote l f cap p hl hp) ?_;rcases hix:l.findIdx? p with _ | i
  · have hi:ix p l= -1:=by simp[ix,hix]
    have hf:l.filter (fun e=> !p e)=l:=by
      rw[List.filter_eq_self];intro e he;simp[List.findIdx?_eq_none_iff.1 hix e he]
    rw[hi,hf,if_neg h0];refine run ?_;exact zeg
  · obtain ⟨hlt,hpi,hbef⟩:=List.findIdx?_eq_some_iff_getElem.1 hix;have hi:ix p l=i:=by simp[ix,hix]
    rw[hi];refine run ?_
    have hfi:((l.take (i+1)).filter fun e=> !p e)=l.take i:=by
      rw[jnz (gge hlt),if_neg (by simp[hpi]),List.filter_eq_self];intro e he;obtain ⟨j,hj,rfl⟩:=List.mem_iff_getElem.1 he;simp only[List.length_take] at hj;simp[hbef j om]
    have hkl:((l.take (i+1)).filter fun e=> !p e).length=i:=by rw[hfi]; simp; omega
    refine loop ⟨[0,1,5,6],[999999],[],[]⟩ (fun y:Nat×List V=>i+1<=y.1/\y.1<=l.length/\y.2.length=l.length*4/\((l.take y.1).filter fun e=> !p e).length<y.1/\
        y.2.take (((l.take y.1).filter fun e=> !p e).length*4)=jaw ((l.take y.1).filter fun e=> !p e)/\y.2.drop (y.1*4)=jaw (l.drop y.1)) (fun y=>l.length-y.1)
      (fun y=>⟨42,[(0,.s 999999 0 l.length 4),(1,.v (.func f cap)),(5,.v (vi ((l.take y.1).filter fun e=> !p e).length)),(6,.v (vi y.1))],[(999999,.var y.2)],[]⟩) (i+1,jaw l) ?_ ?_ ?_
    · refine ⟨sm,by simp; omega,cellsN_len l,?_,?_,jm1 l _⟩
      · simp only; rw[hfi]; simp; omega
      · simp only; rw[hfi]; simp only[List.length_take,Nat.min_eq_left (Nat.le_of_lt hlt),jrx]
    · rintro ⟨j,cs⟩ ⟨h1,h2,h3,h4,h5,h6⟩;simp only at h1 h2 h3 h4 h5 h6;by_cases hj:j<l.length
      · obtain ⟨x,hx,hd,hm⟩:=ja1 hj;have hd':cs.drop (j*4)= .str x.name::vi x.fst::vi x.lst::vi x.rcd::jaw (l.drop (j+1)):=by rw[h6,hd]; rfl
        refine rcW hd' (hp x hm) ?_
        have hdn:cs.drop (j*4+4)=jaw (l.drop (j+1)):=by
          rw[<- List.drop_drop,hd']; rfl
        cases hpc:p x
        · have hf:=jnz (q:=fun e=> !p e) hx;simp only[hpc,Bool.not_false,if_true] at hf;refine run ?_;have hl1:(cs.take (((l.take j).filter fun e=> !p e).length*4)).length=((l.take j).filter fun e=> !p e).length*4:=by rw[List.length_take]; omega
          refine round (j+1,cs.take (((l.take j).filter fun e=> !p e).length*4)++[.str x.name,vi x.fst,vi x.lst,vi x.rcd]++cs.drop (((l.take j).filter fun e=> !p e).length*4+4)) ⟨by simp only; omega,by simp only; omega,?_,?_,?_,?_⟩ zeh ?_
          · simp only[List.length_append,hl1,List.length_drop,List.length_cons,List.length_nil]; omega
          · simp only; rw[hf]; simp only[List.length_append,List.length_cons,List.length_nil]; omega
          · simp only; rw[hf];rw[List.take_append_of_le_length zek,List.take_of_length_le zek,h5,cellsN_app];rfl
          · simp only;rw[List.drop_append,List.drop_eq_nil_of_le zek,List.nil_append,List.drop_drop,<- hdn];congr 1;simp only[List.length_append,hl1,List.length_cons,List.length_nil]; omega
          · simp only[hf,List.length_append,List.length_cons,List.length_nil]; rfl
        · have hf:=jnz (q:=fun e=> !p e) hx;simp only[hpc,Bool.not_true,Bool.false_eq_true,if_false] at hf;refine run ?_;refine round (j+1,cs) ⟨om,om,h3,?_,?_,?_⟩ zeh ?_
          · simp only; rw[hf]; omega
          · simp only; rw[hf]; exact h5
          · simp only; rw[show (j+1)*4=j*4+4 by omega]; exact hdn
          · simp only[hf]; rfl
      · have hj':j=l.length:=om
        subst hj';simp only[List.take_length] at h4 h5;have htl:l.take l.length=l:=List.take_length;refine runW htl ?_;by_cases hz:l.filter (fun e=> !p e)=[]
        · rw[if_pos hz];have hz':(l.filter (fun e=> !p e)).length=0:=by rw[hz]; rfl
          refine runW hz' ?_;rw[hz];exact zeg
        · rw[if_neg hz];have hz':0<(l.filter (fun e=> !p e)).length:=List.length_pos_iff.2 hz;refine runW h5 ?_;exact zeg
    · simp only[hkl]; rfl
theorem jqy (f:FuncId) (cap:List V):Den prog T 299 [ntss [],.func f cap] (ntss []):=by
 refine ja0 call299 func299 42 ?_;refine rc (den_ixNote [] f cap (fun _=>false) sm sm) ?_;have hi:ix (fun _:Note=>false) []= -1:=rfl;rw[hi];exact za
theorem den_State (f:Fil) (d:Int):Den prog T 250 [.agg f.cs,vi d] (vi (state f d)):=by
 refine ja0 call250 func250 15 ?_;by_cases h1:d<f.opn
 ·refine run ?_;refine fin (ja5 ?_);rw[state,if_pos h1]
 by_cases h2:d<f.cld
 ·refine run ?_;refine fin (ja5 ?_);rw[state,if_neg h1,if_pos h2]
 ·refine run ?_;refine fin (ja5 ?_);rw[state,if_neg h1,if_neg h2]
theorem den_at1 (d day:Int):Den prog T 298 [vi d,.row [vi day]] (datgV (onD d day)):=by
 refine ja0 call298 func298 12 ?_;by_cases h1:day<d
 ·have e:onD d day=none:=by rw[onD,if_pos h1]
  rw[e];exact zbd
 ·have e:onD d day=some (d,d):=by rw[onD,if_neg h1]
  rw[e];exact zbd
theorem den_Known1 (n:Note) (d:Int):Den prog T 356 [.agg n.cs,.row [vi d]] (vb (!jhx d n)):=by
 refine ja0 call356 func356 8 ?_;by_cases h:n.rcd<=d
 ·have e:jhx d n=true:=by simp[jhx,h]
  rw[e];exact za
 ·have e:jhx d n=false:=by simp[jhx,h]
  rw[e];exact za
theorem den_named (n:Note) (s:Str):Den prog T 301 [.agg n.cs,.row [.str s]] (vb (!named s n)):=by
 refine ja0 call301 func301 8 ?_;exact za
theorem den_Or2 (a b:Int):Den prog T 304 [.slice 1 [[vi a],[vi b]]] (vi (if a=0 then b else a)):=by
 refine ja0 call304 func304 18 ?_;refine run ?_;refine jb6 ⟨[8,3,6,7],[],[],[]⟩ (fun k:Nat=>k=0\/(k=1/\a=0)\/(k=2/\a=0/\b=0)) (fun k=>2-k) (fun k=>[(8,.v (vi k))]) 0 (.inl rfl) ?_;rintro k (rfl | ⟨rfl,h⟩ | ⟨rfl,h,h'⟩)
 ·by_cases h:a=0
  ·refine run ?_;exact round 1 (.inr (.inl ⟨rfl,h⟩)) dc
  ·refine run ?_;refine fin (ja5 ?_);rw[if_neg h]
 ·by_cases h':b=0
  ·refine run ?_;exact round 2 (.inr (.inr ⟨rfl,h,h'⟩)) dc
  ·refine run ?_;refine fin (ja5 ?_);rw[if_pos h]
 ·refine run ?_;refine fin (ja5 ?_);rw[if_pos h,h']
def cN (a b:Note):Int:=if cmpI a.lst b.lst=0 then cmpI a.fst b.fst else cmpI a.lst b.lst
theorem cN_gt (a b:Note):decide (0<cN a b)=gtN a b:=by
 simp only[cN,cmpI,gtN];by_cases h1:a.lst<b.lst
 ·have:¬b.lst<a.lst:=om
  have:¬a.lst=b.lst:=om
  simp[*]
 ·by_cases h2:b.lst<a.lst
  ·simp[*]
  ·have h3:a.lst=b.lst:=om
   by_cases h4:a.fst<b.fst
   ·have:¬b.fst<a.fst:=om
    simp[*]
   ·by_cases h5:b.fst<a.fst
    ·simp[*]
    ·simp[*]
theorem den_cN (a b:Note):Den prog T 303 [.agg a.cs,.agg b.cs] (vi (cN a b)):=by
 refine ja0 call303 func303 21 ?_;refine rc (jmh a.lst b.lst) ?_;refine rc (jmh a.fst b.fst) ?_;refine rc (den_Or2 (cmpI a.lst b.lst) (cmpI a.fst b.fst)) ?_;exact za
def maxN:Note->List Note->Note
 | m,[]=>m
 | m,n::l=>maxN (if gtN n m=true then n else m) l
theorem bestN_max:∀(l:List Note) (m:Note),bestN (some m) l=some (maxN m l)
 | [],_=>rfl
 | n::l,m=>by simp only[bestN,maxN]; exact bestN_max l _
theorem denM_maxNote (x:Note) (r:List Note) (f:FuncId) (hl:(x::r).length<=1048576) (hp:∀a b:Note,Den prog T f [.agg a.cs,.agg b.cs] (vi (cN a b))):
   DenM prog T 302 (jaw (x::r)) [.s 999999 0 (x::r).length 4,.v (.func f [])] (jaw (x::r)) (.v (.agg (maxN x r).cs)):=by
  have hl1:0<(x::r).length:=by simp
  have hd0:jaw (x::r)= .str x.name::vi x.fst::vi x.lst::vi x.rcd::jaw r:=rfl;have hmx:maxN x r=maxN x ((x::r).drop 1):=rfl;rw[hmx];generalize hL:x::r=l at *;refine jlt follows (fun args w=>call302 args w) func302 rfl 33 rfl rfl ?_;have hd1:(jaw l).drop (0*4)= .str x.name::vi x.fst::vi x.lst::vi x.rcd::jaw r:=hd0;refine runW hd1 ?_
  refine loop ⟨[0,1,4,5,6],[999999,4,5],[],[]⟩ (fun y:Nat×Note=>1<=y.1/\y.1<=l.length/\maxN x (l.drop 1)=maxN y.2 (l.drop y.1)) (fun y=>l.length-y.1)
    (fun y=>⟨33,[(0,.s 999999 0 l.length 4),(1,.v (.func f [])),(4,.p 4 0),(5,.p 5 0),(6,.v (vi y.1))],[(999999,.var (jaw l)),(4,.var [.str [],vi 0,vi 0,vi 0]),(5,.var y.2.cs)],[]⟩) (1,x) ⟨sm,by simp; omega,rfl⟩ ?_
  · rintro ⟨k,m⟩ ⟨h1,hk,hm⟩;simp only at h1 hk hm;by_cases hlt:k<l.length
    · obtain ⟨n,hx,hd,hmem⟩:=ja1 hlt;have hd':(jaw l).drop (k*4)= .str n.name::vi n.fst::vi n.lst::vi n.rcd::jaw (l.drop (k+1)):=by rw[jm1,hd]; rfl
      have hc:=cN_gt n m;refine rcW hd' (hp n m) ?_;cases hg:gtN n m
      · rw[hg] at hc;have hc':=of_decide_eq_false hc;refine runW hd' ?_;refine round (k+1,m) ⟨by simp only; omega,by simp only; omega,?_⟩ zeh;simp only; rw[hm,hd]; simp[maxN,hg]
      · rw[hg] at hc;have hc':=of_decide_eq_true hc;refine runW hd' ?_;refine round (k+1,n) ⟨by simp only; omega,by simp only; omega,?_⟩ zeh;simp only; rw[hm,hd]; simp[maxN,hg]
    · rw[List.drop_eq_nil_of_le (show l.length<=k by omega)] at hm;refine run ?_;refine finMC (.of ?_);rw[hm]; rfl
theorem notes_nil {l:List Note} (h:l.map Note.cs=[]):l=[]:=by simpa using h
theorem flat_cells (l:List Note):(l.map Note.cs).flatten=jaw l:=rfl
theorem notnot (p:Note->Bool):(fun e=> !!p e)=p:=by funext e; simp
theorem denN_Known (f:Fil) (d:Int) (hf:f.Fit):DenN prog T 300 [.agg f.cs,vi d] 4 ((jfs f d).map Note.cs):=by
 have hl:=hf.2.2.1;refine jr2 follows (fun args w=>call300 args w) func300 rfl 10 rfl ?_;refine run ?_;refine callN (denN_cloneNote f.nts hl) ?_ ?_
 ·intro hz;have hz':=notes_nil hz;refine rc (jqy _ _) ?_;have hk:jfs f d=[]:=by rw[jfs,hz']; rfl
  rw[hk];refine run ?_;exact finN0 rfl (.refl _)
 ·intro hz;have hz':f.nts≠[]:=fun e=>hz ze3;rw[flat_cells];refine run ?_;refine callM 7 (jr3 f.nts _ _ (fun n=> !jhx d n) hl hz' fun n _=>den_Known1 n d) ?_;rw[notnot];have hk:f.nts.filter (jhx d)=jfs f d:=rfl;rw[hk];by_cases hne:jfs f d=[]
  ·rw[if_pos hne,hne];refine run ?_;exact finN0 rfl (.refl _)
  ·rw[if_neg hne];refine run ?_;refine finN (id:=7) [] ?_ ?_
   ·simp only[σ_mk,jah,↓reduceIte,List.length_map]
   ·rw[List.append_nil]; rfl
theorem note_ne {x y:Note} (h:x≠y):(x.name == y.name && (decide (x.fst=y.fst) && (decide (x.lst=y.lst) && decide (x.rcd=y.rcd))))=false:=by
 cases e:(x.name == y.name && (decide (x.fst=y.fst) && (decide (x.lst=y.lst) && decide (x.rcd=y.rcd))))
 ·rfl
 ·simp only[Bool.and_eq_true,decide_eq_true_eq,beq_iff_eq] at e;obtain ⟨e1,e2,e3,e4⟩:=e;cases x; cases y;exact absurd (by simp_all) h
theorem den_SameNotes (a b:List Note) (ha:a.length<=1048576) (_hb:b.length<=1048576):Den prog T 125 [ntss a,ntss b] (vb (decide (a=b))):=by
 refine ja0 call125 func125 26 ?_;by_cases hlen:a.length=b.length
 ·refine run ?_;refine ja7 ⟨[5,0,1],[],[],[]⟩ a.length (fun k=>(a=b↔a.drop k=b.drop k)) sm ?_;rintro k ⟨hk,hall⟩;by_cases hlt:k<a.length
  ·obtain ⟨x,hx,hd,-⟩:=ja1 hlt;obtain ⟨y,hy,he,-⟩:=ja1 (l:=b) (k:=k) om;have hed:=jiz hd he;by_cases hxy:x=y
   ·subst hxy;refine runW (ai hx hy) ?_;refine round (k+1) ⟨om,?_⟩ om;rw[hall,hed]; simp
   ·have hne:=note_ne hxy;refine runW (ai hx (ai hy hne)) ?_;refine fin (ja3 ?_);have:¬a=b:=fun h=>hxy (hed.1 (hall.1 h)).1;simp[this]
  ·refine run ?_;refine fin (ja3 ?_);have:a=b:=by rw[hall,jc2 hlt,jc2 (show ¬k<b.length by omega)]
   simp[this]
 ·refine run ?_;refine fin (ja3 ?_);have:¬a=b:=fun h=>hlen (by rw[h]);simp[this]
def fewN (n:Note):Bool:= !decide (100<n.name.length)
def fewF1 (f:Fil):Bool:= !(decide (20<f.nts.length) || (decide (100<f.title.length) || decide (100<f.cls.length))) && f.nts.all fewN
def fewF (l:List Fil):Bool:= !((decide (10<l.length) && decide (l.length<=256)) || decide (261<l.length)) && l.all fewF1
set_option maxHeartbeats 1000000 in
theorem den_FewF2 (l:List Fil) (hl0:l.length<=2097152) (hl:∀f∈l,f.Fit):Den prog T 80 [fils l] (vb (fewF l)):=by
 refine ja0 call80 func80 70 ?_;by_cases g:(10<l.length/\l.length<=256)\/261<l.length
 ·have hf:fewF l=false:=by
   rcases g with ⟨g1,g2⟩ | g
   ·simp[fewF,g1,g2]
   ·simp[fewF,g]
  rw[hf];by_cases a1:l.length<=256
  ·have a2:10<l.length:=om
   exact za
  ·have a2:10<l.length:=om
   have a3:261<l.length:=om
   exact za
 ·have hq:fewF l=l.all fewF1:=by
   have e1:(decide (10<l.length) && decide (l.length<=256))=false:=by
    cases e:decide (10<l.length)
    ·rfl
    ·have:10<l.length:=by simpa using e
     simp; omega
   have e2:decide (261<l.length)=false:=by simp; omega
   simp only[fewF,e1,e2,Bool.or_false,Bool.not_false,Bool.true_and]
  have go:∀Q:Prop,(10<l.length->¬l.length<=256->Q)->(¬ 10<l.length->Q)->Q:=fun Q a b=>by
   by_cases a1:10<l.length
   ·exact a a1 om
   ·exact b a1
  rw[hq];have a3:¬ 261<l.length:=om
  refine go _ (fun a1 a2=> ?_) (fun a1=> ?_) <;>
  ·refine run ?_;refine ja7 ⟨[3,0],[],[],[]⟩ l.length (fun k=>∀p∈l.take k,fewF1 p=true) sm ?_;rintro k ⟨hk,hall⟩;by_cases hlt:k<l.length
   ·obtain ⟨x,hx,hd,hm⟩:=ja1 hlt;obtain ⟨f1,f2,f3,f4⟩:=hl x hm;by_cases g1:20<x.nts.length
    ·refine runW hx ?_;refine fin (ja3 ?_);rw[jej hx (by simp[fewF1,g1])]
    by_cases g2:100<x.title.length
    ·refine runW hx ?_;refine fin (ja3 ?_);rw[jej hx (by simp[fewF1,g2])]
    by_cases g3:100<x.cls.length
    ·refine runW hx ?_;refine fin (ja3 ?_);rw[jej hx (by simp[fewF1,g3])]
    have hfx:fewF1 x=x.nts.all fewN:=by simp[fewF1,g1,g2,g3]
    refine runW hx ?_;refine ja7 ⟨[4,0,3],[],[],[]⟩ x.nts.length (fun j=>∀p∈x.nts.take j,fewN p=true) sm ?_;rintro j ⟨hj,hallj⟩;by_cases hlt':j<x.nts.length
    ·obtain ⟨n,hn,hdn,hmn⟩:=ja1 hlt';have hn1:n.name.length<=1048576:=f4 n hmn;by_cases g4:100<n.name.length
     ·refine runW (ai hx hn) ?_;refine fin (ja3 ?_);rw[jej hx (by rw[hfx]; exact jej hn (by simp[fewN,g4]))]
     ·refine runW (ai hx hn) ?_;exact round (j+1) ⟨om,jae (q:=fun p:Note=>fewN p=true) hallj hn (by simp[fewN,g4])⟩ om
    ·have hfx':fewF1 x=true:=by rw[hfx]; exact jj2 hallj hlt'
     refine runW hx ?_;exact round (k+1) ⟨om,jae (q:=fun p:Fil=>fewF1 p=true) hall hx hfx'⟩ om
   ·refine run ?_;refine fin (ja3 ?_);rw[jj2 hall hlt]
theorem den_FewF (l:List Fil) (hl:FitsF l):Den prog T 80 [fils l] (vb (fewF l)):=den_FewF2 l (Nat.le_trans hl.1 dc) hl.2
theorem trig_opened (f:Fil) (d:Int):trig f [111,112,101,110,101,100] d=onD f.opn d:=by unfold trig; exact if_pos rfl
theorem trig_closed (f:Fil) (d:Int):trig f [99,108,111,115,101,100] d=onD f.cld d:=by
 unfold trig; rw[if_neg dc]; exact if_pos rfl
theorem trig_note {f:Fil} {s:Str} {d:Int} (h1:(s == [111,112,101,110,101,100])=false) (h2:(s == [99,108,111,115,101,100])=false):trig f s d=(best f s d).map fun n=>(n.fst,n.lst):=
 trig_own (fun e=>by rw[e] at h1; exact absurd h1 dc) (fun e=>by rw[e] at h2; exact absurd h2 dc)
theorem onD_cases (a b:Int):∃x y z,datgV (onD a b)= .tup [datg x y,vb z]:=by
 unfold onD;split
 ·exact ⟨_,_,_,rfl⟩
 ·exact ⟨_,_,_,rfl⟩
theorem own_ne {f:Fil} {s:Str} {d:Int} {x:Note} {r:List Note} (h:own f s d=x::r):best f s d=some (maxN x r):=by
 unfold best; rw[h]; exact bestN_max r x
theorem jrs (f:Fil) (s:Str) (d:Int) (hf:f.Fit):Den prog T 240 [.agg f.cs,.str s,vi d] (trigV f s d):=by
 refine ja0 call240 func240 42 ?_;cases h1:s == [111,112,101,110,101,100]
 ·cases h2:s == [99,108,111,115,101,100]
  ·have ht:=trig_note (f:=f) (d:=d) h1 h2;have hkl:(jfs f d).length<=1048576:=Nat.le_trans (List.length_filter_le _ _) hf.2.2.1;refine runW (ai h1 h2) ?_;refine callN (denN_Known f d hf) ?_ ?_
   ·intro hz;have hk:=notes_nil hz;refine rc (jqy _ _) ?_;have hb:best f s d=none:=by unfold best own; rw[hk]; rfl
    rw[trigV,ht,hb];exact zbd
   ·intro hz;have hz':jfs f d≠[]:=fun e=>hz ze3;rw[flat_cells];refine run ?_;refine callM 31 (jr3 (jfs f d) _ _ (fun n=> !named s n) hkl hz' fun n _=>den_named n s) ?_;rw[notnot];have hk:(jfs f d).filter (named s)=own f s d:=rfl;rw[hk];have hol:(own f s d).length<=1048576:=Nat.le_trans (List.length_filter_le _ _) hkl;cases ho:own f s d with
    | nil=>
     have hb:best f s d=none:=by unfold best; rw[ho]; rfl
     rw[if_pos rfl,trigV,ht,hb];exact zbd
    | cons x r=>
     rw[ho] at hol;have hl1:0<(x::r).length:=by simp
     have hmx:=denM_maxNote (T:=T) x r 303 hol den_cN;rw[if_neg sm,trigV,ht,own_ne ho];generalize x::r=l at hol hl1 hmx;refine run ?_;refine callM 31 hmx ?_;exact zbd
  ·have hs:s=[99,108,111,115,101,100]:=eq_of_beq h2;have ht:trig f s d=onD f.cld d:=by rw[hs]; exact trig_closed f d
   rw[trigV,ht];obtain ⟨x,y,z,e⟩:=onD_cases f.cld d;refine rcW (ai h1 h2) (den_at1 f.cld d) ?_;rw[e];exact zbd
 ·have hs:s=[111,112,101,110,101,100]:=eq_of_beq h1;have ht:trig f s d=onD f.opn d:=by rw[hs]; exact trig_opened f d
  rw[trigV,ht];obtain ⟨x,y,z,e⟩:=onD_cases f.opn d;refine rcW h1 (den_at1 f.opn d) ?_;rw[e];exact zbd
theorem classR_1 {l:List Plan} {f:Fil} {d:Int} (h:jbe l=false):jb4 l f d=([],1):=by simp[jb4,h]
theorem classR_24 {l:List Plan} {f:Fil} {d:Int} (h:jbe l=true) (h':idx l f.opn<0\/idx l d<idx l f.opn):jb4 l f d=([],24):=by simp[jb4,h,h']
theorem classR_n {l:List Plan} {f:Fil} {d:Int} (h:jbe l=true) (h':has (pl l (idx l f.opn).toNat) f.cls=false):jb4 l f d=([],24):=by
 unfold jb4; rw[if_neg (by simp[h])];split
 ·rfl
 ·first | rfl | rw[if_pos h']
theorem classR_0 {l:List Plan} {f:Fil} {d:Int} (h:jbe l=true) (h1:¬(idx l f.opn<0\/idx l d<idx l f.opn)) (h':has (pl l (idx l f.opn).toNat) f.cls=true):jb4 l f d=(walkI l (idx l f.opn+1) (idx l d+1) f.cls,0):=by
 unfold jb4; rw[if_neg (by simp[h]),if_neg h1,if_neg (by simp[h'])]
theorem jna {l:List Plan} {d:Int} (h:¬idx l d<0):∃i:Nat,idx l d=i/\i<l.length:=by
 rcases idx_cases l d with ⟨h1,-⟩ | ⟨i,h1,h2,-⟩
 ·omega
 ·exact ⟨i,h1,h2⟩
theorem den_Class (L:LibC T) (l:List Plan) (f:Fil) (d:Int) (hl:Fits l) (hf:f.Fit):Den prog T 237 [jad l,.agg f.cs,vi d] (classV l f d):=by
 have hl0:=hl.1;refine ja0 call237 func237 49 ?_;refine rc (jko L l hl) ?_;by_cases hc:(check l).2=0
 ·have hg:=(jpn l).2 hc;refine rc (den_AtL L l f.opn hl) ?_;refine rc (den_AtL L l d hl) ?_;rw[atL_good hg,atL_good hg];by_cases h1:idx l f.opn<0
  ·rw[classV,classR_24 hg (.inl h1)];exact za
  by_cases h2:idx l d<idx l f.opn
  ·rw[classV,classR_24 hg (.inr h2)];exact za
  obtain ⟨i,hi,hil⟩:=jna h1;obtain ⟨j,hj,hjl⟩:=jna (l:=l) (d:=d) om;rw[hi] at h1 h2 ⊢;rw[hj] at h2 ⊢;have hv:jdg l ((i:Int)+1) ((j:Int)+1)=0:=versErr_0 hg om;have ei:((i:Int)+1-1).toNat=i:=om
  refine rc (den_FollowL L l ((i:Int)+1) ((j:Int)+1) f.cls hl hf.1) ?_;cases hh:has (pl l i) f.cls
  ·have e:jhy l ((i:Int)+1) ((j:Int)+1) f.cls= .tup [.str [],vi 7]:=by simp only[jhy,followR_7 hv (by rw[ei]; exact hh)]
   rw[e,classV,classR_n hg (by rw[hi,Int.toNat_natCast]; exact hh)];exact za
  ·have e:jhy l ((i:Int)+1) ((j:Int)+1) f.cls= .tup [.str (walkI l ((i:Int)+1) ((j:Int)+1) f.cls),vi 0]:=by simp only[jhy,followR_0 hv (by rw[ei]; exact hh)]
   rw[e,classV,classR_0 hg om (by rw[hi,Int.toNat_natCast]; exact hh),hi,hj];exact za
 ·have hg:jbe l=false:=by simp[jbe,hc]
  rw[classV,classR_1 hg];exact za
end Go.Arc
