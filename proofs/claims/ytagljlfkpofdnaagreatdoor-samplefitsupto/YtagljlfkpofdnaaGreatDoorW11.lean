/- A part of this claim. -/
import Derived.Test.YtagljlfkpofdnaaGreatDoorW10
set_option maxRecDepth 100000
namespace Go.Arc
open Go.Ab Go.RowKit Go.Proofs
variable {T : Lay}
def dflt:Plan:=⟨0,0,0,[],[]⟩
def pl (l:List Plan) (i:Nat):Plan:=l.getD i dflt
theorem pl_at {l:List Plan} {i:Nat} {p:Plan} (h:l[i]? = some p):pl l i=p:=by simp[pl,h]
def Fits (l:List Plan):Prop:=l.length<=1048576/\∀p∈l,p.Fit
def nxt (old new:Plan) (s:Str):Str:=(next old new s).getD []
def walkN (l:List Plan):Nat->Nat->Str->Str
 | _,0,s=>s
 | i,n+1,s=>walkN l (i+1) n (nxt (pl l i) (pl l (i+1)) s)
def versErr (l:List Plan) (f t:Int):Int:=if goodL l=false then 1 else if f<1\/t<f\/l.length<t then 7 else 0
def walkI (l:List Plan) (f t:Int) (s:Str):Str:=walkN l (f-1).toNat (t-f).toNat s
def followR (l:List Plan) (f t:Int) (s:Str):Str×Int:=
 if versErr l f t≠0 then ([],versErr l f t) else if has (pl l (f-1).toNat) s=false then ([],7) else (walkI l f t s,0)
theorem next_len {old new:Plan} {s x:Str} (hn:new.Fit) (hs:s.length<=1048576) (h:next old new s=some x):x.length<=1048576:=by
 unfold next at h;split at h
 ·split at h
  ·rename_i m hm;cases h;exact (hn.2.2.2 m (List.mem_of_find?_eq_some hm)).2
  ·unfold up at h;split at h
   ·cases h; exact hs
   ·split at h
    ·cases h
    ·rename_i l hl;obtain ⟨-,h6,-⟩:=parse_some hl
     have:∀n,climbN new l n=some x->x.length<=1048576:=by
      intro n
      induction n with
      | zero=>intro h; cases h
      | succ n ih=>
       intro h;simp only[climbN] at h;split at h
       ·cases h;have:=fmt_len_le (l.take (n+1));simp at this; omega
       ·exact ih h
     exact this _ h
 ·cases h
theorem nxt_len {old new:Plan} {s:Str} (hn:new.Fit) (hs:s.length<=1048576):(nxt old new s).length<=1048576:=by
 unfold nxt;cases h:next old new s with
 | none=>simp
 | some x=>exact next_len hn hs h
theorem nextV_x (old new:Plan) (s:Str):∃b,nextV old new s= .tup [.str (nxt old new s),vb b]:=by
 cases h:next old new s with
 | none=>exact ⟨false,by rw[nextV_n h]; simp[nxt,h]⟩
 | some x=>exact ⟨true,by rw[nextV_s h]; simp[nxt,h]⟩
theorem fault_2 {q:Option Plan} {i:Nat} {p:Plan} (h:p.ver≠i+1\/goodS p.frm p.til=false):fault q i p=2:=by simp only[fault]; rw[if_pos h]
theorem fault_16 {q:Option Plan} {i:Nat} {p q':Plan} (h1:p.ver=i+1) (h2:goodS p.frm p.til=true) (hq:q=some q') (h3:p.frm≠q'.til):fault q i p=16:=by
 simp only[fault]; rw[if_neg (by simp[h1,h2]),if_pos ⟨q',hq,h3⟩]
theorem fault_8 {q:Option Plan} {i:Nat} {p:Plan} (h1:p.ver=i+1) (h2:goodS p.frm p.til=true) (h3:∀q',q=some q'->p.frm=q'.til) (h4:128<p.cls.length\/128<p.mov.length):fault q i p=8:=by
 simp only[fault]; rw[if_neg (by simp[h1,h2]),if_neg (by rintro ⟨q',e,h⟩; exact h (h3 q' e)),if_pos h4]
theorem fault_c {q:Option Plan} {i:Nat} {p:Plan} (h1:p.ver=i+1) (h2:goodS p.frm p.til=true) (h3:∀q',q=some q'->p.frm=q'.til) (h4:¬(128<p.cls.length\/128<p.mov.length)) (h5:clsErr p≠0):fault q i p=clsErr p:=by
 simp only[fault]; rw[if_neg (by simp[h1,h2]),if_neg (by rintro ⟨q',e,h⟩; exact h (h3 q' e)),if_neg h4,if_pos h5]
theorem fault_n {i:Nat} {p:Plan} (h1:p.ver=i+1) (h2:goodS p.frm p.til=true) (h4:¬(128<p.cls.length\/128<p.mov.length)) (h5:clsErr p=0):fault none i p=if 0<p.mov.length then 1 else 0:=by
 simp only[fault]; rw[if_neg (by simp[h1,h2]),if_neg (by rintro ⟨q',e,h⟩; cases e),if_neg h4,if_neg (by simp[h5])]
theorem fault_m {i:Nat} {p q:Plan} (h1:p.ver=i+1) (h2:goodS p.frm p.til=true) (h3:p.frm=q.til) (h4:¬(128<p.cls.length\/128<p.mov.length)) (h5:clsErr p=0):fault (some q) i p=movErr q p:=by
 simp only[fault]; rw[if_neg (by simp[h1,h2]),if_neg (by rintro ⟨q',e,h⟩; cases e; exact h h3),if_neg h4,if_neg (by simp[h5])]
theorem check_many {l:List Plan} (h:16<l.length):check l=(-1,8):=by simp[check,h]
theorem check_bad {l:List Plan} (h:¬ 16<l.length) {k:Nat} (hk:k<l.length) (ha:∀i,i<k->faultAt l i=0) (hf:faultAt l k≠0):check l=((k:Int),faultAt l k):=by
 simp[check,h,bad_at hk ha hf]
theorem check_ok {l:List Plan} (h:¬ 16<l.length) (ha:∀i,i<l.length->faultAt l i=0):check l=(-1,0):=by
 simp[check,h,bad_none ha]
theorem versErr_1 {l:List Plan} {f t:Int} (h:goodL l=false):versErr l f t=1:=by simp[versErr,h]
theorem versErr_7 {l:List Plan} {f t:Int} (h:goodL l=true) (h':f<1\/t<f\/l.length<t):versErr l f t=7:=by simp[versErr,h,h']
theorem versErr_0 {l:List Plan} {f t:Int} (h:goodL l=true) (h':¬(f<1\/t<f\/l.length<t)):versErr l f t=0:=by simp[versErr,h,h']
theorem versErr_z {l:List Plan} {f t:Int} (h:versErr l f t=0):goodL l=true/\1<=f/\f<=t/\t<=l.length:=by
 unfold versErr at h;split at h
 ·cases h
 ·split at h
  ·cases h
  ·rename_i h1 h2;exact ⟨by simpa using h1,by omega,by omega,by omega⟩
abbrev followV (l:List Plan) (f t:Int) (s:Str):V:= .tup [.str (followR l f t s).1,vi (followR l f t s).2]
theorem followR_e {l:List Plan} {f t:Int} {s:Str} (h:versErr l f t≠0):followR l f t s=([],versErr l f t):=by simp[followR,h]
theorem followR_7 {l:List Plan} {f t:Int} {s:Str} (h:versErr l f t=0) (h':has (pl l (f-1).toNat) s=false):followR l f t s=([],7):=by unfold followR; rw[if_neg (fun e=>e h),if_pos h']
theorem followR_0 {l:List Plan} {f t:Int} {s:Str} (h:versErr l f t=0) (h':has (pl l (f-1).toNat) s=true):followR l f t s=(walkI l f t s,0):=by unfold followR; rw[if_neg (fun e=>e h),if_neg (by rw[h']; exact Bool.noConfusion)]
theorem nat_of {n:Int} (h:1<=n):∃k:Nat,n=k+1:=⟨(n-1).toNat,by omega⟩
end Go.Arc
