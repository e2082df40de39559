/- A part of this claim. -/
import Derived.Test.YtdljpbdmcgmalaaGreatDoorW10
set_option maxRecDepth 100000
namespace Go.Arc
open Go.Ab Go.RowKit Go.Proofs Tryz
variable {T : Lay}
def dflt:Plan:=⟨0,0,0,[],[]⟩
def pl (l:List Plan) (i:Nat):Plan:=l.getD i dflt
theorem pl_at {l:List Plan} {i:Nat} {p:Plan} (h:l[i]? = some p):pl l i=p:=by simp[pl,h]
def Fits (l:List Plan):Prop:=l.length<=1048576/\∀p∈l,p.Fit
def nxt (old new:Plan) (s:Str):Str:=(next old new s).getD []
def walkN (l:List Plan):Nat->Nat->Str->Str
 | _,0,s=>s
 | i,n+1,s=>walkN l (i+1) n (nxt (pl l i) (pl l (i+1)) s)
def jdg (l:List Plan) (f t:Int):Int:=if jbe l=false then 1 else if f<1\/t<f\/l.length<t then 7 else 0
def walkI (l:List Plan) (f t:Int) (s:Str):Str:=walkN l (f-1).toNat (t-f).toNat s
def jhz (l:List Plan) (f t:Int) (s:Str):Str×Int:=
 if jdg l f t≠0 then ([],jdg l f t) else if has (pl l (f-1).toNat) s=false then ([],7) else (walkI l f t s,0)
theorem next_len {old new:Plan} {s x:Str} (hn:new.Fit) (hs:s.length<=1048576) (h:next old new s=some x):x.length<=1048576:=by
 unfold next at h;split at h
 ·split at h
  ·rename_i m hm;cases h;exact (hn.2.2.2 m (List.mem_of_find?_eq_some hm)).2
  ·unfold up at h;split at h
   ·cases h; exact hs
   ·split at h
    ·cases h
    ·rename_i l hl;obtain ⟨-,h6,-⟩:=jde hl
     have:∀n,jfn new l n=some x->x.length<=1048576:=by
      intro n
      induction n with
      | zero=>intro h; cases h
      | succ n ih=>
       intro h;simp only[jfn] at h;split at h
       ·cases h;have:=jki (l.take (n+1));simp at this; omega
       ·exact ih h
     exact this _ h
 ·cases h
theorem nxt_len {old new:Plan} {s:Str} (hn:new.Fit) (hs:s.length<=1048576):(nxt old new s).length<=1048576:=by
 unfold nxt;cases h:next old new s with
 | none=>simp
 | some x=>exact next_len hn hs h
theorem nextV_x (old new:Plan) (s:Str):∃b,nextV old new s= .tup [.str (nxt old new s),vb b]:=by
 cases h:next old new s with
 | none=>exact ⟨false,by rw[jix h]; simp[nxt,h]⟩
 | some x=>exact ⟨true,by rw[jhw h]; simp[nxt,h]⟩
theorem jlz {α β:Type} {l:List α} {k:Nat} {x:α} (f:α->β) (h:l.drop k=x::l.drop (k+1)):(l.map f).drop k=f x::(l.map f).drop (k+1):=by
 rw[<- List.map_drop,h,<- List.map_drop]; rfl
theorem jqe (p:Plan) (hp:p.Fit):Den prog T 222 [.agg p.cs] (vi (jck p)):=by
 obtain ⟨h1,h2,h3,h4⟩:=hp;refine ja0 call222 func222 91 ?_;refine run ?_;refine ja7 ⟨[3,1],[1],[],[]⟩ p.cls.length (fun k=>∀c∈p.cls.take k,(!(ja6 c.code).isSome)=false) sm ?_;rintro k ⟨hk,hall⟩;by_cases hlt:k<p.cls.length
 ·obtain ⟨x,hx,hd,hm⟩:=ja1 hlt;refine rcW hx (jo4 x.code (h3 x hm).1) ?_;cases e:(ja6 x.code).isSome
  ·refine run ?_;refine fin (ja5 ?_);have:p.cls.any (fun c=> !(ja6 c.code).isSome)=true:=je2 hx (by simp[e]);simp only[jck,this,↓reduceIte]
  ·refine run ?_;exact round (k+1) ⟨om,jae (q:=fun c:Cls=>(!(ja6 c.code).isSome)=false) hall hx (by simp[e])⟩ om
 ·have e1:p.cls.any (fun c=> !(ja6 c.code).isSome)=false:=jg4 hall hlt;refine run ?_;refine ja7 ⟨[4,1],[1],[],[]⟩ p.cls.length (fun k=>∀c∈p.cls.take k,(!name c.title)=false) sm ?_;rintro k ⟨hk,hall⟩;by_cases hlt:k<p.cls.length
  ·obtain ⟨x,hx,hd,hm⟩:=ja1 hlt;refine rcW hx (jhm x.title (h3 x hm).2) ?_;cases e:name x.title
   ·refine run ?_;refine fin (ja5 ?_);have:p.cls.any (fun c=> !name c.title)=true:=je2 hx (by simp[e]);simp only[jck,e1,this,Bool.false_eq_true,↓reduceIte]
   ·refine run ?_;exact round (k+1) ⟨om,jae (q:=fun c:Cls=>(!name c.title)=false) hall hx (by simp[e])⟩ om
  ·have e2:p.cls.any (fun c=> !name c.title)=false:=jg4 hall hlt;refine run ?_;refine jb6 ⟨[5,1],[1],[],[]⟩ (fun k:Nat=>1<=k/\(k<=p.cls.length\/k=1)/\jci (p.cls.map (·.code))=jci ((p.cls.map (·.code)).drop (k-1))) (fun k=>p.cls.length+1-k) (fun k=>[(5,.v (vi k))]) 1 ⟨om,om,sm⟩ ?_;rintro k ⟨hk1,hk,hall⟩;by_cases hlt:k<p.cls.length
   ·obtain ⟨x,hx,hd,hm⟩:=ja1 (l:=p.cls) (k:=k-1) om;obtain ⟨y,hy,he,hm'⟩:=ja1 hlt;have hk':k-1+1=k:=om
    have hd':=jlz (·.code) hd;have he':=jlz (·.code) he;rw[<- hk'] at he';have hr:=jnv hd' he';rw[hk'] at hr;refine rcW (ai hx hy) (jqf x.code y.code (h3 x hm).1 (h3 y hm').1) ?_;cases hc:cmp x.code y.code with
    | none=>
     rw[ji1 hc];refine run ?_;refine fin (ja5 ?_);have:jci (p.cls.map (·.code))=false:=by rw[hall,hr,lt2_n hc]; rfl
     simp only[jck,e1,e2,this,Bool.false_eq_true,↓reduceIte]
    | some n=>
     rw[cmpV_s hc];by_cases h0:n<0
     ·exact zdv
     ·refine run ?_;refine fin (ja5 ?_);have:jci (p.cls.map (·.code))=false:=by rw[hall,hr,lt2_s hc]; simp[h0]
      simp only[jck,e1,e2,this,Bool.false_eq_true,↓reduceIte]
   ·have e3:jci (p.cls.map (·.code))=true:=by rw[hall,joh zei]
    refine run ?_;refine ja7 ⟨[8,1],[1],[],[]⟩ p.cls.length (fun k=>∀c∈p.cls.take k,jf0 p c=false) sm ?_;rintro k ⟨hk,hall⟩;by_cases hlt:k<p.cls.length
    ·obtain ⟨x,hx,hd,hm⟩:=ja1 hlt;refine rcW hx (jqo x.code (h3 x hm).1) ?_;cases hpa:jdb x.code with
     | none=>
      rw[jih hpa];refine run ?_;exact round (k+1) ⟨om,jae (q:=fun c:Cls=>jf0 p c=false) hall hx (by simp[jf0,hpa])⟩ om
     | some u=>
      rw[jky hpa];refine rc (jjg p u h1) ?_;cases e:has p u
      ·refine run ?_;refine fin (ja5 ?_);have:p.cls.any (jf0 p)=true:=je2 hx (by simp[jf0,hpa,e]);simp only[jck,e1,e2,e3,this,Bool.false_eq_true,↓reduceIte,reduceCtorEq]
      ·refine run ?_;exact round (k+1) ⟨om,jae (q:=fun c:Cls=>jf0 p c=false) hall hx (by simp[jf0,hpa,e])⟩ om
    ·have e4:p.cls.any (jf0 p)=false:=jg4 hall hlt;refine run ?_;refine fin (ja5 ?_);simp only[jck,e1,e2,e3,e4,Bool.false_eq_true,↓reduceIte,reduceCtorEq]
set_option maxHeartbeats 2000000 in
theorem den_movedRef (old p:Plan) (ho:old.Fit) (hp:p.Fit):Den prog T 223 [.agg old.cs,.agg p.cs] (vi (jf1 old p)):=by
 have ho0:=ho;have hp0:=hp;obtain ⟨o1,o2,o3,o4⟩:=ho;obtain ⟨h1,h2,h3,h4⟩:=hp;refine ja0 call223 func223 86 ?_;refine run ?_;refine ja7 ⟨[5,2,3],[2,3],[],[]⟩ p.mov.length (fun k=>∀m∈p.mov.take k,(!has old m.frm || !has p m.to)=false) sm ?_;rintro k ⟨hk,hno⟩;by_cases hlt:k<p.mov.length
 ·obtain ⟨x,hx,hd,hm⟩:=ja1 hlt;refine rcW hx (jjg old x.frm o1) ?_;cases e1:has old x.frm
  ·refine run ?_;refine fin (ja5 ?_);have:p.mov.any (fun m=> !has old m.frm || !has p m.to)=true:=je2 hx (by simp[e1]);simp only[jf1,this,↓reduceIte]
  ·refine rcW hx (jjg p x.to h1) ?_;cases e2:has p x.to
   ·refine run ?_;refine fin (ja5 ?_);have:p.mov.any (fun m=> !has old m.frm || !has p m.to)=true:=je2 hx (by simp[e2]);simp only[jf1,this,↓reduceIte]
   ·refine run ?_;exact round (k+1) ⟨om,jae (q:=fun m:Mov=>(!has old m.frm || !has p m.to)=false) hno hx (by simp[e1,e2])⟩ om
 ·have e1:p.mov.any (fun m=> !has old m.frm || !has p m.to)=false:=jg4 hno hlt;refine run ?_;refine jb6 ⟨[6,2,3],[2,3],[],[]⟩ (fun k:Nat=>1<=k/\(k<=p.mov.length\/k=1)/\jci (p.mov.map (·.frm))=jci ((p.mov.map (·.frm)).drop (k-1))) (fun k=>p.mov.length+1-k) (fun k=>[(6,.v (vi k))]) 1 ⟨om,om,sm⟩ ?_;rintro k ⟨hk1,hk,hall⟩;by_cases hlt:k<p.mov.length
  ·obtain ⟨x,hx,hd,hm⟩:=ja1 (l:=p.mov) (k:=k-1) om;obtain ⟨y,hy,he,hm'⟩:=ja1 hlt;have hk':k-1+1=k:=om
   have hd':=jlz (·.frm) hd;have he':=jlz (·.frm) he;rw[<- hk'] at he';have hr:=jnv hd' he';rw[hk'] at hr;refine rcW (ai hx hy) (jqf x.frm y.frm (h4 x hm).1 (h4 y hm').1) ?_;cases hc:cmp x.frm y.frm with
   | none=>
    rw[ji1 hc];refine run ?_;refine fin (ja5 ?_);have:jci (p.mov.map (·.frm))=false:=by rw[hall,hr,lt2_n hc]; rfl
    simp only[jf1,e1,this,Bool.false_eq_true,↓reduceIte]
   | some n=>
    rw[cmpV_s hc];by_cases h0:n<0
    ·exact zdv
    ·refine run ?_;refine fin (ja5 ?_);have:jci (p.mov.map (·.frm))=false:=by rw[hall,hr,lt2_s hc]; simp[h0]
     simp only[jf1,e1,this,Bool.false_eq_true,↓reduceIte]
  ·have e3:jci (p.mov.map (·.frm))=true:=by rw[hall,joh zei]
   refine run ?_;refine ja7 ⟨[9,2,3],[2,3],[],[]⟩ old.cls.length (fun k=>∀c∈old.cls.take k,(next old p c.code).isNone=false) sm ?_;rintro k ⟨hk,hall⟩;by_cases hlt:k<old.cls.length
   ·obtain ⟨x,hx,hd,hm⟩:=ja1 hlt;refine rcW hx (den_NextRef old p x.code ho0 hp0 (o3 x hm).1) ?_;cases hn:next old p x.code with
    | none=>
     rw[jix hn];refine run ?_;refine fin (ja5 ?_);have:old.cls.any (fun c=>(next old p c.code).isNone)=true:=je2 hx (by simp[hn]);simp only[jf1,e1,e3,this,Bool.false_eq_true,↓reduceIte,reduceCtorEq]
    | some u=>
     rw[jhw hn];refine run ?_;exact round (k+1) ⟨om,jae (q:=fun c:Cls=>(next old p c.code).isNone=false) hall hx (by simp[hn])⟩ om
   ·have e4:old.cls.any (fun c=>(next old p c.code).isNone)=false:=jg4 hall hlt;refine run ?_;refine fin (ja5 ?_);simp only[jf1,e1,e3,e4,Bool.false_eq_true,↓reduceIte,reduceCtorEq]
theorem fault_2 {q:Option Plan} {i:Nat} {p:Plan} (h:p.ver≠i+1\/jaq p.frm p.til=false):je7 q i p=2:=by simp only[je7]; rw[if_pos h]
theorem fault_16 {q:Option Plan} {i:Nat} {p q':Plan} (h1:p.ver=i+1) (h2:jaq p.frm p.til=true) (hq:q=some q') (h3:p.frm≠q'.til):je7 q i p=16:=by
 simp only[je7]; rw[if_neg (by simp[h1,h2]),if_pos ⟨q',hq,h3⟩]
theorem jk2 {q:Option Plan} {i:Nat} {p:Plan} (h1:p.ver=i+1) (h2:jaq p.frm p.til=true) (h3:∀q',q=some q'->p.frm=q'.til) (h4:128<p.cls.length\/128<p.mov.length):je7 q i p=8:=by
 simp only[je7]; rw[if_neg (by simp[h1,h2]),if_neg (by rintro ⟨q',e,h⟩; exact h (h3 q' e)),if_pos h4]
theorem fault_c {q:Option Plan} {i:Nat} {p:Plan} (h1:p.ver=i+1) (h2:jaq p.frm p.til=true) (h3:∀q',q=some q'->p.frm=q'.til) (h4:¬(128<p.cls.length\/128<p.mov.length)) (h5:jck p≠0):je7 q i p=jck p:=by
 simp only[je7]; rw[if_neg (by simp[h1,h2]),if_neg (by rintro ⟨q',e,h⟩; exact h (h3 q' e)),if_neg h4,if_pos h5]
theorem fault_n {i:Nat} {p:Plan} (h1:p.ver=i+1) (h2:jaq p.frm p.til=true) (h4:¬(128<p.cls.length\/128<p.mov.length)) (h5:jck p=0):je7 none i p=if 0<p.mov.length then 1 else 0:=by
 simp only[je7]; rw[if_neg (by simp[h1,h2]),if_neg (by rintro ⟨q',e,h⟩; cases e),if_neg h4,if_neg (by simp[h5])]
theorem fault_m {i:Nat} {p q:Plan} (h1:p.ver=i+1) (h2:jaq p.frm p.til=true) (h3:p.frm=q.til) (h4:¬(128<p.cls.length\/128<p.mov.length)) (h5:jck p=0):je7 (some q) i p=jf1 q p:=by
 simp only[je7]; rw[if_neg (by simp[h1,h2]),if_neg (by rintro ⟨q',e,h⟩; cases e; exact h h3),if_neg h4,if_neg (by simp[h5])]
theorem den_faultRef (l:List Plan) (i:Nat) (hl:Fits l) (hi:i<l.length):Den prog T 166 [jad l,vi i] (vi (jd1 l i)):=by
 obtain ⟨hl0,hf⟩:=hl;obtain ⟨p,hp,-,hm⟩:=ja1 hi;have hfp:=hf p hm;obtain ⟨h1,h2,-,-⟩:=id hfp;have hfa:jd1 l i=je7 (before l i) i p:=by simp[jd1,hp]
 rw[hfa];refine ja0 call166 func166 65 ?_;by_cases hv:p.ver=i+1
 ·refine rcW hp (jkn p.frm p.til) ?_;cases hg:jaq p.frm p.til
  ·refine run ?_;exact fin (ja5 (fault_2 (.inr hg)).symm)
  ·by_cases h0:i=0
   ·subst h0;have hb:before l 0=none:=rfl;rw[hb];have h3:∀q':Plan,none=some q'->p.frm=q'.til:=fun _ h=>by cases h
    by_cases g1:128<p.cls.length
    ·refine run ?_;exact fin (ja5 (jk2 hv hg h3 (.inl g1)).symm)
    by_cases g2:128<p.mov.length
    ·refine run ?_;exact fin (ja5 (jk2 hv hg h3 (.inr g2)).symm)
    have h4:¬(128<p.cls.length\/128<p.mov.length):=om
    refine rc (jqe p hfp) ?_;by_cases hc:jck p=0
    ·rw[fault_n hv hg h4 hc,hc];by_cases hz:0<p.mov.length
     ·rw[if_pos hz];exact za
     ·rw[if_neg hz];exact za
    ·exact zbm
   ·obtain ⟨q,hq,-,hmq⟩:=ja1 (l:=l) (k:=i-1) om;have hb:before l i=some q:=by unfold before; rw[if_neg h0,hq]
    rw[hb];by_cases hgap:p.frm=q.til
    ·have h3:∀q':Plan,some q=some q'->p.frm=q'.til:=fun _ h=>by cases h; exact hgap
     by_cases g1:128<p.cls.length
     ·refine runW hq ?_;exact fin (ja5 (jk2 hv hg h3 (.inl g1)).symm)
     by_cases g2:128<p.mov.length
     ·refine runW hq ?_;exact fin (ja5 (jk2 hv hg h3 (.inr g2)).symm)
     have h4:¬(128<p.cls.length\/128<p.mov.length):=om
     refine rcW hq (jqe p hfp) ?_;by_cases hc:jck p=0
     ·rw[fault_m hv hg hgap h4 hc,hc];refine rcW hq (den_movedRef q p (hf q hmq) hfp) ?_;exact za
     ·exact zbm
    ·refine runW hq ?_;exact fin (ja5 (fault_16 hv hg rfl hgap).symm)
 ·refine runW hp ?_;exact fin (ja5 (fault_2 (.inl hv)).symm)
theorem check_many {l:List Plan} (h:16<l.length):check l=(-1,8):=by simp[check,h]
theorem check_bad {l:List Plan} (h:¬ 16<l.length) {k:Nat} (hk:k<l.length) (ha:∀i,i<k->jd1 l i=0) (hf:jd1 l k≠0):check l=((k:Int),jd1 l k):=by
 simp[check,h,bad_at hk ha hf]
theorem check_ok {l:List Plan} (h:¬ 16<l.length) (ha:∀i,i<l.length->jd1 l i=0):check l=(-1,0):=by
 simp[check,h,bad_none ha]
theorem jr0 (l:List Plan) (hl:Fits l):Den prog T 105 [jad l] (ji2 l):=by
 have hl0:=hl.1;refine ja0 call105 func105 22 ?_;by_cases h16:16<l.length
 ·refine run ?_;refine fin ?_;simp only[ji2,check_many h16]
 refine run ?_;refine ja7 ⟨[4,0],[],[],[]⟩ l.length (fun k=>∀i,i<k->jd1 l i=0) om ?_;rintro k ⟨hk,hall⟩;by_cases hlt:k<l.length
 ·refine rc (den_faultRef l k hl hlt) ?_;by_cases hz:jd1 l k=0
  ·refine run ?_;refine round (k+1) ⟨om,fun i hi=> ?_⟩ om;by_cases e:i=k
   ·exact zcr
   ·exact zb2
  ·refine run ?_;refine fin ?_;simp only[ji2,check_bad h16 hlt hall hz]
 ·refine run ?_;refine fin ?_;simp only[ji2,check_ok h16 fun i hi=>hall i om]
theorem den_GoodL (l:List Plan) (hl:Fits l):Den prog T 168 [jad l] (vb (jbe l)):=by
 refine ja0 call168 func168 12 ?_;refine rc (jr0 l hl) ?_;refine run ?_;exact fin (ja3 rfl)
theorem den_IndexRef (l:List Plan) (d:Int) (hl:l.length<=1048576):Den prog T 226 [jad l,vi d] (vi (idx l d)):=by
 refine ja0 call226 func226 20 ?_;refine run ?_;refine ja7 ⟨[5,0,1],[],[],[]⟩ l.length (fun k=>∀p∈l.take k,inS p.frm p.til d=false) sm ?_;rintro k ⟨hk,hall⟩;by_cases hlt:k<l.length
 ·obtain ⟨x,hx,-,hm⟩:=ja1 hlt;refine rcW hx (den_In04 x.frm x.til d) ?_;cases hpc:inS x.frm x.til d
  ·refine run ?_;exact round (k+1) ⟨om,jae (q:=fun p:Plan=>inS p.frm p.til d=false) hall hx hpc⟩ om
  ·refine run ?_;exact fin (ja5 (jge (p:=fun p:Plan=>inS p.frm p.til d) hall hx hpc))
 ·refine run ?_;exact fin (ja5 (jgv (p:=fun p:Plan=>inS p.frm p.til d) hall hlt))
theorem versErr_1 {l:List Plan} {f t:Int} (h:jbe l=false):jdg l f t=1:=by simp[jdg,h]
theorem jp8 {l:List Plan} {f t:Int} (h:jbe l=true) (h':f<1\/t<f\/l.length<t):jdg l f t=7:=by simp[jdg,h,h']
theorem versErr_0 {l:List Plan} {f t:Int} (h:jbe l=true) (h':¬(f<1\/t<f\/l.length<t)):jdg l f t=0:=by simp[jdg,h,h']
theorem versErr_z {l:List Plan} {f t:Int} (h:jdg l f t=0):jbe l=true/\1<=f/\f<=t/\t<=l.length:=by
 unfold jdg at h;split at h
 ·cases h
 ·split at h
  ·cases h
  ·rename_i h1 h2;exact ⟨by simpa using h1,om,om,om⟩
abbrev jhy (l:List Plan) (f t:Int) (s:Str):V:= .tup [.str (jhz l f t s).1,vi (jhz l f t s).2]
theorem followR_e {l:List Plan} {f t:Int} {s:Str} (h:jdg l f t≠0):jhz l f t s=([],jdg l f t):=by simp[jhz,h]
theorem followR_7 {l:List Plan} {f t:Int} {s:Str} (h:jdg l f t=0) (h':has (pl l (f-1).toNat) s=false):jhz l f t s=([],7):=by unfold jhz; rw[if_neg (fun e=>e h),if_pos h']
theorem followR_0 {l:List Plan} {f t:Int} {s:Str} (h:jdg l f t=0) (h':has (pl l (f-1).toNat) s=true):jhz l f t s=(walkI l f t s,0):=by unfold jhz; rw[if_neg (fun e=>e h),if_neg (by rw[h']; exact Bool.noConfusion)]
theorem nat_of {n:Int} (h:1<=n):∃k:Nat,n=k+1:=⟨(n-1).toNat,om⟩
end Go.Arc
