/- A part of this claim. -/
import Derived.Test.YtnmclbgpndpedaaGreatDoorSp8
import Derived.Test.YtnmclbgpndpedaaGreatDoorW12
set_option maxRecDepth 100000
namespace Go.Arc
open Go.Ab Go.RowKit Go.Proofs Tryz
variable {T : Lay}
theorem den_ixNote (l:List Note) (f:FuncId) (cap:List V) (p:Note->Bool) (hl:l.length<=1048576) (hp:∀e∈l,Den prog T f (.agg e.cs::cap) (vb (p e))):
   Den prog T 209 [ntss l,.func f cap] (vi (ix p l)):=by
  refine ae follows (fun args w=>call209 args w) func209 rfl 19 rfl ?_;refine run ?_
  refine loop ⟨[0,1,7,8],[],[],[]⟩ (fun k:Nat=>k<=l.length/\∀e∈l.take k,p e=false) (fun k=>l.length-k)
    (fun k=>⟨19,[(0,.v (ntss l)),(1,.v (.func f cap)),(7,.v (vi l.length)),(8,.v (vi k))],[],[]⟩) 0 ⟨by omega,by simp⟩ ?_
  rintro k ⟨hk,hall⟩;by_cases hlt:k<l.length
  · obtain ⟨x,hx,-,hm⟩:=aj hlt;refine runW hx ?_;refine call (hp x hm) ?_;cases hpc:p x
    · refine run ?_;exact round (k+1) ⟨by omega,br hall hx hpc⟩ (by omega)
    · refine run ?_;exact fin (al (jav hall hx hpc))
  · refine run ?_;exact fin (al (jb3 hall hlt))
theorem jrj (l:List Note) (f:FuncId) (cap:List V) (p:Note->Bool) (hl:l.length<=1048576) (hp:∀e∈l,Den prog T f (.agg e.cs::cap) (vb (p e))):
   Den prog T 273 [ntss l,.func f cap] (vb (l.any p)):=by
  refine ae follows (fun args w=>call273 args w) func273 rfl 9 rfl ?_;refine run ?_;refine call (den_ixNote l f cap p hl hp) ?_;refine run ?_;exact fin (ak (jcf p l))
theorem flatN:∀(l:List Note),∀e∈l.map Note.cs,∀c∈e,c.flat=true:=by
 intro l e he c hc;obtain ⟨n,-,rfl⟩:=List.mem_map.1 he;simp only[Note.cs,List.mem_cons,List.mem_nil_iff,or_false] at hc;rcases hc with rfl | rfl | rfl | rfl <;> rfl
theorem jqq (l:List Note) (hl:l.length<=1048576):DenO prog T 172 [ntss l] 184 (ntss l):=by
 refine jir follows (fun args w=>call172 args w) func172 rfl 8 rfl ?_;cases l with
 | nil=>
  refine run ?_;intro b;cases b
  ·refine run ?_;exact finO (.refl _)
  ·refine run ?_;exact finO (.nil 4)
 | cons x r=>
  have h:r.length+1<=1048576:=hl;have e:ntss (x::r)= .slice 4 (x.cs::r.map Note.cs):=rfl;rw[e];refine run ?_;exact finO (.refl _)
theorem denN_cloneNote (l:List Note) (hl:l.length<=1048576):DenN prog T 172 [ntss l] 4 (l.map Note.cs):=
 (jqq l hl).new (by kernel_rfl) (by decide) (flatN l)
def bq (l:List Note):List V:=(l.map Note.cs).flatten
theorem jow (x:Note) (l:List Note):bq (x::l)= .str x.name::vi x.fst::vi x.lst::vi x.rcd::bq l:=rfl
theorem cellsN_len:∀(l:List Note),(bq l).length=l.length*4
 | []=>rfl
 | x::l=>by rw[jow]; simp only[List.length_cons,cellsN_len l]; omega
theorem cellsN_app (l m:List Note):bq (l++m)=bq l++bq m:=by simp[bq]
theorem jmx:∀(l:List Note) (k:Nat),(bq l).drop (k*4)=bq (l.drop k)
 | _,0=>rfl
 | [],k+1=>by simp[bq]
 | x::l,k+1=>by
  rw[jow,show (k+1)*4=k*4+4 by omega];simp only[List.drop_succ_cons];exact jmx l k
theorem jrp:∀(l:List Note) (k:Nat),(bq l).take (k*4)=bq (l.take k)
 | _,0=>by simp[bq]
 | [],k+1=>by simp[bq]
 | x::l,k+1=>by
  rw[jow,show (k+1)*4=k*4+4 by omega];simp only[List.take_succ_cons];rw[jrp l k]; rfl
theorem denM_ixNote (l:List Note) (f:FuncId) (cap:List V) (p:Note->Bool) (hl:l.length<=1048576) (hp:∀e∈l,Den prog T f (.agg e.cs::cap) (vb (p e))):
   DenM prog T 209 (bq l) [.s 999999 0 l.length 4,.v (.func f cap)] (bq l) (.v (vi (ix p l))):=by
  refine jms follows (fun args w=>call209 args w) func209 rfl 19 rfl rfl ?_;refine run ?_
  refine loop ⟨[0,1,7,8],[999999],[],[]⟩ (fun k:Nat=>k<=l.length/\∀e∈l.take k,p e=false) (fun k=>l.length-k)
    (fun k=>⟨19,[(0,.s 999999 0 l.length 4),(1,.v (.func f cap)),(7,.v (vi l.length)),(8,.v (vi k))],[(999999,.var (bq l))],[]⟩) 0 ⟨by omega,by simp⟩ ?_
  rintro k ⟨hk,hall⟩;by_cases hlt:k<l.length
  · obtain ⟨x,hx,hd,hm⟩:=aj hlt;have hd':(bq l).drop (k*4)= .str x.name::vi x.fst::vi x.lst::vi x.rcd::bq (l.drop (k+1)):=by rw[jmx,hd]; rfl
    refine runW hd' ?_;refine call (hp x hm) ?_;cases hpc:p x
    · refine run ?_;exact round (k+1) ⟨by omega,br hall hx hpc⟩ (by omega)
    · refine run ?_;exact finM0 (.v (.of (al (jav hall hx hpc))))
  · refine run ?_;exact finM0 (.v (.of (al (jb3 hall hlt))))
theorem jr3 (l:List Note) (f:FuncId) (cap:List V) (p:Note->Bool) (hl:l.length<=1048576) (h0:l≠[]) (hp:∀e∈l,Den prog T f (.agg e.cs::cap) (vb (p e))):
   DenM prog T 151 (bq l) [.s 999999 0 l.length 4,.v (.func f cap)] (bq (l.filter fun e=> !p e))
     (if l.filter (fun e=> !p e)=[] then .v (.slice 4 []) else .s 999999 0 (l.filter fun e=> !p e).length 4):=by
  have hlen:0<l.length:=List.length_pos_iff.2 h0;refine jms follows (fun args w=>call151 args w) func151 rfl 42 rfl rfl ?_;refine run ?_;refine callM 999999 (denM_ixNote l f cap p hl hp) ?_;rcases hix:l.findIdx? p with _ | i
  · have hi:ix p l= -1:=by simp[ix,hix]
    have hf:l.filter (fun e=> !p e)=l:=by
      rw[List.filter_eq_self];intro e he;simp[List.findIdx?_eq_none_iff.1 hix e he]
    rw[hi,hf,if_neg h0];refine run ?_;exact finM0 (.refl _)
  · obtain ⟨hlt,hpi,hbef⟩:=List.findIdx?_eq_some_iff_getElem.1 hix;have hi:ix p l=i:=by simp[ix,hix]
    rw[hi];refine run ?_
    have hfi:((l.take (i+1)).filter fun e=> !p e)=l.take i:=by
      rw[jop (gge hlt),if_neg (by simp[hpi]),List.filter_eq_self];intro e he;obtain ⟨j,hj,rfl⟩:=List.mem_iff_getElem.1 he;simp only[List.length_take] at hj;simp[hbef j (by omega)]
    have hkl:((l.take (i+1)).filter fun e=> !p e).length=i:=by rw[hfi]; simp; omega
    refine loop ⟨[0,1,5,6],[999999],[],[]⟩ (fun y:Nat×List V=>i+1<=y.1/\y.1<=l.length/\y.2.length=l.length*4/\((l.take y.1).filter fun e=> !p e).length<y.1/\
        y.2.take (((l.take y.1).filter fun e=> !p e).length*4)=bq ((l.take y.1).filter fun e=> !p e)/\y.2.drop (y.1*4)=bq (l.drop y.1)) (fun y=>l.length-y.1)
      (fun y=>⟨42,[(0,.s 999999 0 l.length 4),(1,.v (.func f cap)),(5,.v (vi ((l.take y.1).filter fun e=> !p e).length)),(6,.v (vi y.1))],[(999999,.var y.2)],[]⟩) (i+1,bq l) ?_ ?_ ?_
    · refine ⟨by simp,by simp; omega,cellsN_len l,?_,?_,jmx l _⟩
      · simp only; rw[hfi]; simp; omega
      · simp only; rw[hfi]; simp only[List.length_take,Nat.min_eq_left (Nat.le_of_lt hlt),jrp]
    · rintro ⟨j,cs⟩ ⟨h1,h2,h3,h4,h5,h6⟩;simp only at h1 h2 h3 h4 h5 h6;by_cases hj:j<l.length
      · obtain ⟨x,hx,hd,hm⟩:=aj hj;have hd':cs.drop (j*4)= .str x.name::vi x.fst::vi x.lst::vi x.rcd::bq (l.drop (j+1)):=by rw[h6,hd]; rfl
        refine runW hd' ?_;refine call (hp x hm) ?_
        have hdn:cs.drop (j*4+4)=bq (l.drop (j+1)):=by
          rw[<- List.drop_drop,hd']; rfl
        cases hpc:p x
        · have hf:=jop (q:=fun e=> !p e) hx;simp only[hpc,Bool.not_false,if_true] at hf;refine run ?_;have hl1:(cs.take (((l.take j).filter fun e=> !p e).length*4)).length=((l.take j).filter fun e=> !p e).length*4:=by rw[List.length_take]; omega
          refine round (j+1,cs.take (((l.take j).filter fun e=> !p e).length*4)++[.str x.name,vi x.fst,vi x.lst,vi x.rcd]++cs.drop (((l.take j).filter fun e=> !p e).length*4+4)) ⟨by simp only; omega,by simp only; omega,?_,?_,?_,?_⟩ (by simp only; omega) ?_
          · simp only[List.length_append,hl1,List.length_drop,List.length_cons,List.length_nil]; omega
          · simp only; rw[hf]; simp only[List.length_append,List.length_cons,List.length_nil]; omega
          · simp only; rw[hf];rw[List.take_append_of_le_length (by simp only[List.length_append,hl1,List.length_cons,List.length_nil]; omega),List.take_of_length_le (by simp only[List.length_append,hl1,List.length_cons,List.length_nil]; omega),h5,cellsN_app];rfl
          · simp only;rw[List.drop_append,List.drop_eq_nil_of_le (by simp only[List.length_append,hl1,List.length_cons,List.length_nil]; omega),List.nil_append,List.drop_drop,<- hdn];congr 1;simp only[List.length_append,hl1,List.length_cons,List.length_nil]; omega
          · simp only[hf,List.length_append,List.length_cons,List.length_nil]; rfl
        · have hf:=jop (q:=fun e=> !p e) hx;simp only[hpc,Bool.not_true,Bool.false_eq_true,if_false] at hf;refine run ?_;refine round (j+1,cs) ⟨by omega,by omega,h3,?_,?_,?_⟩ (by simp only; omega) ?_
          · simp only; rw[hf]; omega
          · simp only; rw[hf]; exact h5
          · simp only; rw[show (j+1)*4=j*4+4 by omega]; exact hdn
          · simp only[hf]; rfl
      · have hj':j=l.length:=by omega
        subst hj';simp only[List.take_length] at h4 h5;have htl:l.take l.length=l:=List.take_length;refine runW htl ?_;by_cases hz:l.filter (fun e=> !p e)=[]
        · rw[if_pos hz];have hz':(l.filter (fun e=> !p e)).length=0:=by rw[hz]; rfl
          refine runW hz' ?_;rw[hz];exact finM0 (.refl _)
        · rw[if_neg hz];have hz':0<(l.filter (fun e=> !p e)).length:=List.length_pos_iff.2 hz;refine runW h5 ?_;exact finM0 (.refl _)
    · simp only[hkl]; rfl
theorem jqz (f:FuncId) (cap:List V):Den prog T 151 [ntss [],.func f cap] (ntss []):=by
 refine ae follows (fun args w=>call151 args w) func151 rfl 42 rfl ?_;refine run ?_;refine call (den_ixNote [] f cap (fun _=>false) (by simp) (by simp)) ?_;have hi:ix (fun _:Note=>false) []= -1:=rfl;rw[hi];refine run ?_;exact fin rfl
end Go.Arc
