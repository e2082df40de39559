/- A part of this claim. -/
import Derived.Test.YtagljlfkpofdnaaGreatDoorW10
set_option maxRecDepth 100000
namespace Go.Arc
open Go.Ab Go.RowKit Go.Proofs
variable {T : Lay}
def dflt:Plan:=⟨0,0,0,[],[]⟩
def pl (l:List Plan) (i:Nat):Plan:=l.getD i dflt
theorem pl_at {l:List Plan} {i:Nat} {p:Plan} (h:l[i]? = some p):pl l i=p:=by simp[pl,h]
def Fits (l:List Plan):Prop:=l.length<=1048576/\∀p∈l,p.Fit
def nxt (old new:Plan) (s:Str):Str:=(next old new s).getD []
def walkN (l:List Plan):Nat->Nat->Str->Str
 | _,0,s=>s
 | i,n+1,s=>walkN l (i+1) n (nxt (pl l i) (pl l (i+1)) s)
def versErr (l:List Plan) (f t:Int):Int:=if goodL l=false then 1 else if f<1\/t<f\/l.length<t then 7 else 0
def walkI (l:List Plan) (f t:Int) (s:Str):Str:=walkN l (f-1).toNat (t-f).toNat s
def followR (l:List Plan) (f t:Int) (s:Str):Str×Int:=
 if versErr l f t≠0 then ([],versErr l f t) else if has (pl l (f-1).toNat) s=false then ([],7) else (walkI l f t s,0)
theorem next_len {old new:Plan} {s x:Str} (hn:new.Fit) (hs:s.length<=1048576) (h:next old new s=some x):x.length<=1048576:=by
 unfold next at h;split at h
 ·split at h
  ·rename_i m hm;cases h;exact (hn.2.2.2 m (List.mem_of_find?_eq_some hm)).2
  ·unfold up at h;split at h
   ·cases h; exact hs
   ·split at h
    ·cases h
    ·rename_i l hl;obtain ⟨-,h6,-⟩:=parse_some hl
     have:∀n,climbN new l n=some x->x.length<=1048576:=by
      intro n
      induction n with
      | zero=>intro h; cases h
      | succ n ih=>
       intro h;simp only[climbN] at h;split at h
       ·cases h;have:=fmt_len_le (l.take (n+1));simp at this; omega
       ·exact ih h
     exact this _ h
 ·cases h
theorem nxt_len {old new:Plan} {s:Str} (hn:new.Fit) (hs:s.length<=1048576):(nxt old new s).length<=1048576:=by
 unfold nxt;cases h:next old new s with
 | none=>simp
 | some x=>exact next_len hn hs h
theorem nextV_x (old new:Plan) (s:Str):∃b,nextV old new s= .tup [.str (nxt old new s),vb b]:=by
 cases h:next old new s with
 | none=>exact ⟨false,by rw[nextV_n h]; simp[nxt,h]⟩
 | some x=>exact ⟨true,by rw[nextV_s h]; simp[nxt,h]⟩
theorem map_drop_at {α β:Type} {l:List α} {k:Nat} {x:α} (f:α->β) (h:l.drop k=x::l.drop (k+1)):(l.map f).drop k=f x::(l.map f).drop (k+1):=by
 rw[<- List.map_drop,h,<- List.map_drop]; rfl
theorem den_classesRef (p:Plan) (hp:p.Fit):Den Tryz.prog T 262 [.agg p.cs] (vi (clsErr p)):=by
 obtain ⟨h1,h2,h3,h4⟩:=hp;refine den_of_body follows (fun args w=>Tryz.call262 args w) Tryz.func262 rfl 91 rfl ?_;refine run ?_
 refine loop ⟨[1,3],[1],[],[]⟩ (fun k:Nat=>k<=p.cls.length/\∀c∈p.cls.take k,(!(parse c.code).isSome)=false) (fun k=>p.cls.length-k)
  (fun k=>⟨91,[(1,.p 1 0),(3,.v (vi k))],[(1,.var p.cs)],[]⟩) 0 ⟨by omega,by simp⟩ ?_
 rintro k ⟨hk,hall⟩;by_cases hlt:k<p.cls.length
 ·obtain ⟨x,hx,hd,hm⟩:=drop_at hlt;refine runW hx ?_;refine call (den_GoodRef x.code (h3 x hm).1) ?_;cases e:(parse x.code).isSome
  ·refine run ?_;refine fin (vi_eq ?_);have:p.cls.any (fun c=> !(parse c.code).isSome)=true:=any_at hx (by simp[e]);simp only[clsErr,this,↓reduceIte]
  ·refine run ?_;exact round (k+1) ⟨by omega,take_snoc (q:=fun c:Cls=>(!(parse c.code).isSome)=false) hall hx (by simp[e])⟩ (by omega)
 ·have e1:p.cls.any (fun c=> !(parse c.code).isSome)=false:=any_end hall hlt;refine run ?_
  refine loop ⟨[1,4],[1],[],[]⟩ (fun k:Nat=>k<=p.cls.length/\∀c∈p.cls.take k,(!name c.title)=false) (fun k=>p.cls.length-k)
   (fun k=>⟨91,[(1,.p 1 0),(4,.v (vi k))],[(1,.var p.cs)],[]⟩) 0 ⟨by omega,by simp⟩ ?_
  rintro k ⟨hk,hall⟩;by_cases hlt:k<p.cls.length
  ·obtain ⟨x,hx,hd,hm⟩:=drop_at hlt;refine runW hx ?_;refine call (den_NameRef x.title (h3 x hm).2) ?_;cases e:name x.title
   ·refine run ?_;refine fin (vi_eq ?_);have:p.cls.any (fun c=> !name c.title)=true:=any_at hx (by simp[e]);simp only[clsErr,e1,this,Bool.false_eq_true,↓reduceIte]
   ·refine run ?_;exact round (k+1) ⟨by omega,take_snoc (q:=fun c:Cls=>(!name c.title)=false) hall hx (by simp[e])⟩ (by omega)
  ·have e2:p.cls.any (fun c=> !name c.title)=false:=any_end hall hlt;refine run ?_
   refine loop ⟨[1,5],[1],[],[]⟩ (fun k:Nat=>1<=k/\(k<=p.cls.length\/k=1)/\rising (p.cls.map (·.code))=rising ((p.cls.map (·.code)).drop (k-1))) (fun k=>p.cls.length+1-k)
    (fun k=>⟨91,[(1,.p 1 0),(5,.v (vi k))],[(1,.var p.cs)],[]⟩) 1 ⟨by omega,by omega,by simp⟩ ?_
   rintro k ⟨hk1,hk,hall⟩;by_cases hlt:k<p.cls.length
   ·obtain ⟨x,hx,hd,hm⟩:=drop_at (l:=p.cls) (k:=k-1) (by omega);obtain ⟨y,hy,he,hm'⟩:=drop_at hlt;have hk':k-1+1=k:=by omega
    have hd':=map_drop_at (·.code) hd;have he':=map_drop_at (·.code) he;rw[<- hk'] at he';have hr:=rising_step hd' he';rw[hk'] at hr;refine runW (And.intro hx hy) ?_;refine call (den_CompareRef x.code y.code (h3 x hm).1 (h3 y hm').1) ?_;cases hc:cmp x.code y.code with
    | none=>
     rw[cmpV_n hc];refine run ?_;refine fin (vi_eq ?_);have:rising (p.cls.map (·.code))=false:=by rw[hall,hr,lt2_n hc]; rfl
     simp only[clsErr,e1,e2,this,Bool.false_eq_true,↓reduceIte]
    | some n=>
     rw[cmpV_s hc];by_cases h0:n<0
     ·refine run ?_;refine round (k+1) ⟨by omega,by omega,?_⟩ (by omega);rw[hall,hr,lt2_s hc]; simp[h0]
     ·refine run ?_;refine fin (vi_eq ?_);have:rising (p.cls.map (·.code))=false:=by rw[hall,hr,lt2_s hc]; simp[h0]
      simp only[clsErr,e1,e2,this,Bool.false_eq_true,↓reduceIte]
   ·have e3:rising (p.cls.map (·.code))=true:=by rw[hall,rising_end (by simp; omega)]
    refine run ?_
    refine loop ⟨[1,8],[1],[],[]⟩ (fun k:Nat=>k<=p.cls.length/\∀c∈p.cls.take k,orphan p c=false) (fun k=>p.cls.length-k)
     (fun k=>⟨91,[(1,.p 1 0),(8,.v (vi k))],[(1,.var p.cs)],[]⟩) 0 ⟨by omega,by simp⟩ ?_
    rintro k ⟨hk,hall⟩;by_cases hlt:k<p.cls.length
    ·obtain ⟨x,hx,hd,hm⟩:=drop_at hlt;refine runW hx ?_;refine call (den_ParentRef x.code (h3 x hm).1) ?_;cases hpa:parent x.code with
     | none=>
      rw[parentV_n hpa];refine run ?_;exact round (k+1) ⟨by omega,take_snoc (q:=fun c:Cls=>orphan p c=false) hall hx (by simp[orphan,hpa])⟩ (by omega)
     | some u=>
      rw[parentV_s hpa];refine run ?_;refine call (den_hasRef p u h1) ?_;cases e:has p u
      ·refine run ?_;refine fin (vi_eq ?_);have:p.cls.any (orphan p)=true:=any_at hx (by simp[orphan,hpa,e]);simp only[clsErr,e1,e2,e3,this,Bool.false_eq_true,↓reduceIte,reduceCtorEq]
      ·refine run ?_;exact round (k+1) ⟨by omega,take_snoc (q:=fun c:Cls=>orphan p c=false) hall hx (by simp[orphan,hpa,e])⟩ (by omega)
    ·have e4:p.cls.any (orphan p)=false:=any_end hall hlt;refine run ?_;refine fin (vi_eq ?_);simp only[clsErr,e1,e2,e3,e4,Bool.false_eq_true,↓reduceIte,reduceCtorEq]
set_option maxHeartbeats 2000000 in
theorem den_movedRef (old p:Plan) (ho:old.Fit) (hp:p.Fit):Den Tryz.prog T 263 [.agg old.cs,.agg p.cs] (vi (movErr old p)):=by
 have ho0:=ho;have hp0:=hp;obtain ⟨o1,o2,o3,o4⟩:=ho;obtain ⟨h1,h2,h3,h4⟩:=hp;refine den_of_body follows (fun args w=>Tryz.call263 args w) Tryz.func263 rfl 86 rfl ?_;refine run ?_
 refine loop ⟨[2,3,5],[2,3],[],[]⟩ (fun k:Nat=>k<=p.mov.length/\∀m∈p.mov.take k,(!has old m.frm || !has p m.to)=false) (fun k=>p.mov.length-k)
  (fun k=>⟨86,[(2,.p 2 0),(3,.p 3 0),(5,.v (vi k))],[(2,.var old.cs),(3,.var p.cs)],[]⟩) 0 ⟨by omega,by simp⟩ ?_
 rintro k ⟨hk,hno⟩;by_cases hlt:k<p.mov.length
 ·obtain ⟨x,hx,hd,hm⟩:=drop_at hlt;refine runW hx ?_;refine call (den_hasRef old x.frm o1) ?_;cases e1:has old x.frm
  ·refine run ?_;refine fin (vi_eq ?_);have:p.mov.any (fun m=> !has old m.frm || !has p m.to)=true:=any_at hx (by simp[e1]);simp only[movErr,this,↓reduceIte]
  ·refine runW hx ?_;refine call (den_hasRef p x.to h1) ?_;cases e2:has p x.to
   ·refine run ?_;refine fin (vi_eq ?_);have:p.mov.any (fun m=> !has old m.frm || !has p m.to)=true:=any_at hx (by simp[e2]);simp only[movErr,this,↓reduceIte]
   ·refine run ?_;exact round (k+1) ⟨by omega,take_snoc (q:=fun m:Mov=>(!has old m.frm || !has p m.to)=false) hno hx (by simp[e1,e2])⟩ (by omega)
 ·have e1:p.mov.any (fun m=> !has old m.frm || !has p m.to)=false:=any_end hno hlt;refine run ?_
  refine loop ⟨[2,3,6],[2,3],[],[]⟩ (fun k:Nat=>1<=k/\(k<=p.mov.length\/k=1)/\rising (p.mov.map (·.frm))=rising ((p.mov.map (·.frm)).drop (k-1))) (fun k=>p.mov.length+1-k)
   (fun k=>⟨86,[(2,.p 2 0),(3,.p 3 0),(6,.v (vi k))],[(2,.var old.cs),(3,.var p.cs)],[]⟩) 1 ⟨by omega,by omega,by simp⟩ ?_
  rintro k ⟨hk1,hk,hall⟩;by_cases hlt:k<p.mov.length
  ·obtain ⟨x,hx,hd,hm⟩:=drop_at (l:=p.mov) (k:=k-1) (by omega);obtain ⟨y,hy,he,hm'⟩:=drop_at hlt;have hk':k-1+1=k:=by omega
   have hd':=map_drop_at (·.frm) hd;have he':=map_drop_at (·.frm) he;rw[<- hk'] at he';have hr:=rising_step hd' he';rw[hk'] at hr;refine runW (And.intro hx hy) ?_;refine call (den_CompareRef x.frm y.frm (h4 x hm).1 (h4 y hm').1) ?_;cases hc:cmp x.frm y.frm with
   | none=>
    rw[cmpV_n hc];refine run ?_;refine fin (vi_eq ?_);have:rising (p.mov.map (·.frm))=false:=by rw[hall,hr,lt2_n hc]; rfl
    simp only[movErr,e1,this,Bool.false_eq_true,↓reduceIte]
   | some n=>
    rw[cmpV_s hc];by_cases h0:n<0
    ·refine run ?_;refine round (k+1) ⟨by omega,by omega,?_⟩ (by omega);rw[hall,hr,lt2_s hc]; simp[h0]
    ·refine run ?_;refine fin (vi_eq ?_);have:rising (p.mov.map (·.frm))=false:=by rw[hall,hr,lt2_s hc]; simp[h0]
     simp only[movErr,e1,this,Bool.false_eq_true,↓reduceIte]
  ·have e3:rising (p.mov.map (·.frm))=true:=by rw[hall,rising_end (by simp; omega)]
   refine run ?_
   refine loop ⟨[2,3,9],[2,3],[],[]⟩ (fun k:Nat=>k<=old.cls.length/\∀c∈old.cls.take k,(next old p c.code).isNone=false) (fun k=>old.cls.length-k)
    (fun k=>⟨86,[(2,.p 2 0),(3,.p 3 0),(9,.v (vi k))],[(2,.var old.cs),(3,.var p.cs)],[]⟩) 0 ⟨by omega,by simp⟩ ?_
   rintro k ⟨hk,hall⟩;by_cases hlt:k<old.cls.length
   ·obtain ⟨x,hx,hd,hm⟩:=drop_at hlt;refine runW hx ?_;refine call (den_NextRef old p x.code ho0 hp0 (o3 x hm).1) ?_;cases hn:next old p x.code with
    | none=>
     rw[nextV_n hn];refine run ?_;refine fin (vi_eq ?_);have:old.cls.any (fun c=>(next old p c.code).isNone)=true:=any_at hx (by simp[hn]);simp only[movErr,e1,e3,this,Bool.false_eq_true,↓reduceIte,reduceCtorEq]
    | some u=>
     rw[nextV_s hn];refine run ?_;exact round (k+1) ⟨by omega,take_snoc (q:=fun c:Cls=>(next old p c.code).isNone=false) hall hx (by simp[hn])⟩ (by omega)
   ·have e4:old.cls.any (fun c=>(next old p c.code).isNone)=false:=any_end hall hlt;refine run ?_;refine fin (vi_eq ?_);simp only[movErr,e1,e3,e4,Bool.false_eq_true,↓reduceIte,reduceCtorEq]
theorem fault_2 {q:Option Plan} {i:Nat} {p:Plan} (h:p.ver≠i+1\/goodS p.frm p.til=false):fault q i p=2:=by simp only[fault]; rw[if_pos h]
theorem fault_16 {q:Option Plan} {i:Nat} {p q':Plan} (h1:p.ver=i+1) (h2:goodS p.frm p.til=true) (hq:q=some q') (h3:p.frm≠q'.til):fault q i p=16:=by
 simp only[fault]; rw[if_neg (by simp[h1,h2]),if_pos ⟨q',hq,h3⟩]
theorem fault_8 {q:Option Plan} {i:Nat} {p:Plan} (h1:p.ver=i+1) (h2:goodS p.frm p.til=true) (h3:∀q',q=some q'->p.frm=q'.til) (h4:128<p.cls.length\/128<p.mov.length):fault q i p=8:=by
 simp only[fault]; rw[if_neg (by simp[h1,h2]),if_neg (by rintro ⟨q',e,h⟩; exact h (h3 q' e)),if_pos h4]
theorem fault_c {q:Option Plan} {i:Nat} {p:Plan} (h1:p.ver=i+1) (h2:goodS p.frm p.til=true) (h3:∀q',q=some q'->p.frm=q'.til) (h4:¬(128<p.cls.length\/128<p.mov.length)) (h5:clsErr p≠0):fault q i p=clsErr p:=by
 simp only[fault]; rw[if_neg (by simp[h1,h2]),if_neg (by rintro ⟨q',e,h⟩; exact h (h3 q' e)),if_neg h4,if_pos h5]
theorem fault_n {i:Nat} {p:Plan} (h1:p.ver=i+1) (h2:goodS p.frm p.til=true) (h4:¬(128<p.cls.length\/128<p.mov.length)) (h5:clsErr p=0):fault none i p=if 0<p.mov.length then 1 else 0:=by
 simp only[fault]; rw[if_neg (by simp[h1,h2]),if_neg (by rintro ⟨q',e,h⟩; cases e),if_neg h4,if_neg (by simp[h5])]
theorem fault_m {i:Nat} {p q:Plan} (h1:p.ver=i+1) (h2:goodS p.frm p.til=true) (h3:p.frm=q.til) (h4:¬(128<p.cls.length\/128<p.mov.length)) (h5:clsErr p=0):fault (some q) i p=movErr q p:=by
 simp only[fault]; rw[if_neg (by simp[h1,h2]),if_neg (by rintro ⟨q',e,h⟩; cases e; exact h h3),if_neg h4,if_neg (by simp[h5])]
theorem den_faultRef (l:List Plan) (i:Nat) (hl:Fits l) (hi:i<l.length):Den Tryz.prog T 194 [plans l,vi i] (vi (faultAt l i)):=by
 obtain ⟨hl0,hf⟩:=hl;obtain ⟨p,hp,-,hm⟩:=drop_at hi;have hfp:=hf p hm;obtain ⟨h1,h2,-,-⟩:=id hfp;have hfa:faultAt l i=fault (before l i) i p:=by simp[faultAt,hp]
 rw[hfa];refine den_of_body follows (fun args w=>Tryz.call194 args w) Tryz.func194 rfl 65 rfl ?_;by_cases hv:p.ver=i+1
 ·refine runW hp ?_;refine call (den_Good04 p.frm p.til) ?_;cases hg:goodS p.frm p.til
  ·refine run ?_;exact fin (vi_eq (fault_2 (.inr hg)).symm)
  ·by_cases h0:i=0
   ·subst h0;have hb:before l 0=none:=rfl;rw[hb];have h3:∀q':Plan,none=some q'->p.frm=q'.til:=fun _ h=>by cases h
    by_cases g1:128<p.cls.length
    ·refine run ?_;exact fin (vi_eq (fault_8 hv hg h3 (.inl g1)).symm)
    by_cases g2:128<p.mov.length
    ·refine run ?_;exact fin (vi_eq (fault_8 hv hg h3 (.inr g2)).symm)
    have h4:¬(128<p.cls.length\/128<p.mov.length):=by omega
    refine run ?_;refine call (den_classesRef p hfp) ?_;by_cases hc:clsErr p=0
    ·rw[fault_n hv hg h4 hc,hc];by_cases hz:0<p.mov.length
     ·rw[if_pos hz];refine run ?_;exact fin rfl
     ·rw[if_neg hz];refine run ?_;exact fin rfl
    ·refine run ?_;exact fin (vi_eq (fault_c hv hg h3 h4 hc).symm)
   ·obtain ⟨q,hq,-,hmq⟩:=drop_at (l:=l) (k:=i-1) (by omega);have hb:before l i=some q:=by unfold before; rw[if_neg h0,hq]
    rw[hb];by_cases hgap:p.frm=q.til
    ·have h3:∀q':Plan,some q=some q'->p.frm=q'.til:=fun _ h=>by cases h; exact hgap
     by_cases g1:128<p.cls.length
     ·refine runW hq ?_;exact fin (vi_eq (fault_8 hv hg h3 (.inl g1)).symm)
     by_cases g2:128<p.mov.length
     ·refine runW hq ?_;exact fin (vi_eq (fault_8 hv hg h3 (.inr g2)).symm)
     have h4:¬(128<p.cls.length\/128<p.mov.length):=by omega
     refine runW hq ?_;refine call (den_classesRef p hfp) ?_;by_cases hc:clsErr p=0
     ·rw[fault_m hv hg hgap h4 hc,hc];refine runW hq ?_;refine call (den_movedRef q p (hf q hmq) hfp) ?_;refine run ?_;exact fin rfl
     ·refine run ?_;exact fin (vi_eq (fault_c hv hg h3 h4 hc).symm)
    ·refine runW hq ?_;exact fin (vi_eq (fault_16 hv hg rfl hgap).symm)
 ·refine runW hp ?_;exact fin (vi_eq (fault_2 (.inl hv)).symm)
theorem check_many {l:List Plan} (h:16<l.length):check l=(-1,8):=by simp[check,h]
theorem check_bad {l:List Plan} (h:¬ 16<l.length) {k:Nat} (hk:k<l.length) (ha:∀i,i<k->faultAt l i=0) (hf:faultAt l k≠0):check l=((k:Int),faultAt l k):=by
 simp[check,h,bad_at hk ha hf]
theorem check_ok {l:List Plan} (h:¬ 16<l.length) (ha:∀i,i<l.length->faultAt l i=0):check l=(-1,0):=by
 simp[check,h,bad_none ha]
theorem den_CheckRef (l:List Plan) (hl:Fits l):Den Tryz.prog T 128 [plans l] (checkV l):=by
 have hl0:=hl.1;refine den_of_body follows (fun args w=>Tryz.call128 args w) Tryz.func128 rfl 22 rfl ?_;by_cases h16:16<l.length
 ·refine run ?_;refine fin ?_;simp only[checkV,check_many h16]
 refine run ?_
 refine loop ⟨[0,4],[],[],[]⟩ (fun k:Nat=>k<=l.length/\∀i,i<k->faultAt l i=0) (fun k=>l.length-k)
  (fun k=>⟨22,[(0,.v (plans l)),(4,.v (vi k))],[],[]⟩) 0 ⟨by omega,by omega⟩ ?_
 rintro k ⟨hk,hall⟩;by_cases hlt:k<l.length
 ·refine run ?_;refine call (den_faultRef l k hl hlt) ?_;by_cases hz:faultAt l k=0
  ·refine run ?_;refine round (k+1) ⟨by omega,fun i hi=> ?_⟩ (by omega);by_cases e:i=k
   ·rw[e]; exact hz
   ·exact hall i (by omega)
  ·refine run ?_;refine fin ?_;simp only[checkV,check_bad h16 hlt hall hz]
 ·refine run ?_;refine fin ?_;simp only[checkV,check_ok h16 fun i hi=>hall i (by omega)]
theorem den_GoodL (l:List Plan) (hl:Fits l):Den Tryz.prog T 196 [plans l] (vb (goodL l)):=by
 refine den_of_body follows (fun args w=>Tryz.call196 args w) Tryz.func196 rfl 12 rfl ?_;refine run ?_;refine call (den_CheckRef l hl) ?_;refine run ?_;exact fin (vb_eq rfl)
theorem den_IndexRef (l:List Plan) (d:Int) (hl:l.length<=1048576):Den Tryz.prog T 135 [plans l,vi d] (vi (idx l d)):=by
 refine den_of_body follows (fun args w=>Tryz.call135 args w) Tryz.func135 rfl 20 rfl ?_;refine run ?_
 refine loop ⟨[0,1,5],[],[],[]⟩ (fun k:Nat=>k<=l.length/\∀p∈l.take k,inS p.frm p.til d=false) (fun k=>l.length-k)
  (fun k=>⟨20,[(0,.v (plans l)),(1,.v (vi d)),(5,.v (vi k))],[],[]⟩) 0 ⟨by omega,by simp⟩ ?_
 rintro k ⟨hk,hall⟩;by_cases hlt:k<l.length
 ·obtain ⟨x,hx,-,hm⟩:=drop_at hlt;refine runW hx ?_;refine call (den_In04 x.frm x.til d) ?_;cases hpc:inS x.frm x.til d
  ·refine run ?_;exact round (k+1) ⟨by omega,take_snoc (q:=fun p:Plan=>inS p.frm p.til d=false) hall hx hpc⟩ (by omega)
  ·refine run ?_;exact fin (vi_eq (ix_at (p:=fun p:Plan=>inS p.frm p.til d) hall hx hpc))
 ·refine run ?_;exact fin (vi_eq (ix_none (p:=fun p:Plan=>inS p.frm p.til d) hall hlt))
theorem den_Walk (l:List Plan) (f t:Nat) (s:Str) (hl:Fits l) (hft:f<=t) (ht:t<l.length) (hs:s.length<=1048576):
  Den Tryz.prog T 137 [plans l,vi f,vi t,.str s] (.str (walkN l f (t-f) s)):=by
 obtain ⟨hl0,hf⟩:=hl;refine den_of_body follows (fun args w=>Tryz.call137 args w) Tryz.func137 rfl 31 rfl ?_;refine run ?_
 refine loop ⟨[0,2,3,9],[],[],[]⟩ (fun y:Nat×Str=>y.1<=t/\y.2.length<=1048576/\walkN l f (t-f) s=walkN l y.1 (t-y.1) y.2) (fun y=>t-y.1)
  (fun y=>⟨31,[(0,.v (plans l)),(2,.v (vi t)),(3,.v (.str y.2)),(9,.v (vi y.1))],[],[]⟩) (f,s) ⟨hft,hs,rfl⟩ ?_
 rintro ⟨k,a⟩ ⟨hk,ha,hall⟩;simp only at hk ha hall;by_cases hlt:k<t
 ·obtain ⟨x,hx,-,hm⟩:=drop_at (l:=l) (k:=k) (by omega);obtain ⟨y,hy,-,hm'⟩:=drop_at (l:=l) (k:=k+1) (by omega);refine runW (And.intro hx hy) ?_;refine call (den_NextRef x y a (hf x hm) (hf y hm') ha) ?_;obtain ⟨b,e⟩:=nextV_x x y a;rw[e];refine run ?_;refine round (k+1,nxt x y a) ⟨by simp only; omega,nxt_len (hf y hm') ha,?_⟩ (by simp only; omega);simp only;rw[hall,show t-k=(t-(k+1))+1 by omega];simp only[walkN];rw[pl_at hx,pl_at hy]
 ·refine run ?_;refine fin ?_;rw[hall,show t-k=0 by omega]; rfl
theorem versErr_1 {l:List Plan} {f t:Int} (h:goodL l=false):versErr l f t=1:=by simp[versErr,h]
theorem versErr_7 {l:List Plan} {f t:Int} (h:goodL l=true) (h':f<1\/t<f\/l.length<t):versErr l f t=7:=by simp[versErr,h,h']
theorem versErr_0 {l:List Plan} {f t:Int} (h:goodL l=true) (h':¬(f<1\/t<f\/l.length<t)):versErr l f t=0:=by simp[versErr,h,h']
theorem versErr_z {l:List Plan} {f t:Int} (h:versErr l f t=0):goodL l=true/\1<=f/\f<=t/\t<=l.length:=by
 unfold versErr at h;split at h
 ·cases h
 ·split at h
  ·cases h
  ·rename_i h1 h2;exact ⟨by simpa using h1,by omega,by omega,by omega⟩
abbrev followV (l:List Plan) (f t:Int) (s:Str):V:= .tup [.str (followR l f t s).1,vi (followR l f t s).2]
theorem followR_e {l:List Plan} {f t:Int} {s:Str} (h:versErr l f t≠0):followR l f t s=([],versErr l f t):=by simp[followR,h]
theorem followR_7 {l:List Plan} {f t:Int} {s:Str} (h:versErr l f t=0) (h':has (pl l (f-1).toNat) s=false):followR l f t s=([],7):=by unfold followR; rw[if_neg (fun e=>e h),if_pos h']
theorem followR_0 {l:List Plan} {f t:Int} {s:Str} (h:versErr l f t=0) (h':has (pl l (f-1).toNat) s=true):followR l f t s=(walkI l f t s,0):=by unfold followR; rw[if_neg (fun e=>e h),if_neg (by rw[h']; exact Bool.noConfusion)]
theorem nat_of {n:Int} (h:1<=n):∃k:Nat,n=k+1:=⟨(n-1).toNat,by omega⟩
end Go.Arc
