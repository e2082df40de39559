/- A part of this claim. -/
import Derived.Test.YtagljlfkpofdnaaGreatDoorBaS
import Derived.Test.YtagljlfkpofdnaaGreatDoorBaT
set_option maxRecDepth 100000
namespace Go.Arc
open Go.Ab Go.RowKit Go.Proofs
variable {T : Lay}
end Go.Arc
set_option maxRecDepth 100000
namespace Go.Arc
open Go.Ab Go.RowKit Go.Proofs
variable {T : Lay}
theorem den_isIDH (n:Int):Den Tryz.prog T 303 [vi n] (vb (idB n)):=by
 refine den_of_body follows (fun args w=>Tryz.call303 args w) Tryz.func303 rfl 9 rfl ?_;unfold idB;by_cases h1:1<=n <;> by_cases h2:n<=1073741824 <;> (refine run ?_; refine fin (vb_eq ?_); simp; try omega)
theorem den_validH (f u:Int):Den Tryz.prog T 304 [span f u] (vb (goodS f u)):=by
 refine den_of_body follows (fun args w=>Tryz.call304 args w) Tryz.func304 rfl 18 rfl ?_;unfold goodS;by_cases h1:0<=f <;> by_cases h2:f<u <;> by_cases h3:u<=1048576 <;> (refine run ?_; refine fin (vb_eq ?_); simp; try omega)
theorem ofErr_n {h:Hld} (hk:h.kind≠3):ofErr h=if idB h.obj=false\/h.cls≠[] then 1 else 0:=by unfold ofErr; rw[if_pos hk]
theorem ofErr_1 {h:Hld} (hk:h.kind=3) (ho:h.obj≠0):ofErr h=1:=by unfold ofErr; rw[if_neg (by simp[hk]),if_pos ho]
theorem ofErr_c {h:Hld} (hk:h.kind=3) (ho:h.obj=0):ofErr h=if (parse h.cls).isNone=true then 3 else 0:=by unfold ofErr; rw[if_neg (by simp[hk]),if_neg (by simp[ho])]
theorem nil_beq {s:Str} : (s == [])=decide (s=[]):=by cases s <;> rfl
theorem den_of (L:LibC T) (h:Hld) (hf:h.Fit):Den Tryz.prog T 302 [.agg h.cs] (vi (ofErr h)):=by
 refine den_of_body follows (fun args w=>Tryz.call302 args w) Tryz.func302 rfl 27 rfl ?_;by_cases hk:h.kind=3
 ·by_cases ho:h.obj=0
  ·rw[ofErr_c hk ho];refine run ?_;refine call (den_Parse L h.cls hf.1) ?_;cases hp:parse h.cls with
   | none=>rw[parseV_n hp]; refine run ?_; exact fin rfl
   | some l=>rw[parseV_s hp]; refine run ?_; exact fin rfl
  ·rw[ofErr_1 hk ho];refine run ?_;exact fin rfl
 ·rw[ofErr_n hk];refine run ?_;refine call (den_isIDH h.obj) ?_;cases hi:idB h.obj
  ·rw[if_pos (.inl rfl)];refine run ?_;exact fin rfl
  ·cases hc:h.cls == []
   ·have hne:h.cls≠[]:=fun e=>by rw[e] at hc; cases hc
    rw[if_pos (.inr hne)];refine runW hc ?_;exact fin rfl
   ·have he:h.cls=[]:=by rw[nil_beq] at hc; simpa using hc
    rw[if_neg (by simp[he])];refine runW hc ?_;exact fin rfl
theorem faultH_2 {l:List Hld} {i:Nat} {h:Hld} (hi:l[i]? = some h) (hb:badH h):faultH l i=2:=by simp only[faultH,hi]; rw[if_pos hb]
theorem faultH_r {l:List Hld} {i:Nat} {h:Hld} (hi:l[i]? = some h) (hb:¬badH h):faultH l i=if prevH l i h=true then 5 else if ofErr h≠0 then ofErr h else if name h.why=false then 4 else 0:=by
 simp only[faultH,hi]; rw[if_neg hb]
theorem badH_iff (h:Hld):badH h↔(idB h.id=false\/h.kind<1\/3<h.kind\/goodS h.frm h.til=false):=Iff.rfl
theorem prevH_cases {l:List Hld} {i:Nat} (hi:i<l.length) (h:Hld):(prevH l i h=true/\∃q,i≠0/\l[i-1]? = some q/\h.id<=q.id)\/(prevH l i h=false/\(i=0\/∃q,i≠0/\l[i-1]? = some q/\¬h.id<=q.id)):=by
 by_cases h0:i=0
 ·right; rw[h0]; exact ⟨prevH_0 l h,.inl rfl⟩
 ·obtain ⟨q,hq,-,-⟩:=drop_at (l:=l) (k:=i-1) (by omega);by_cases hle:h.id<=q.id
  ·left; exact ⟨by rw[prevH_s h0 hq]; simp[hle],q,h0,hq,hle⟩
  ·right; exact ⟨by rw[prevH_s h0 hq]; simp[hle],.inr ⟨q,h0,hq,hle⟩⟩
theorem den_checkH (L:LibC T) (l:List Hld) (i:Nat) (hl:FitsH l) (hi:i<l.length):Den Tryz.prog T 254 [hlds l,vi i] (vi (faultH l i)):=by
 obtain ⟨hl0,hf⟩:=hl;obtain ⟨h,hh,-,hm⟩:=drop_at hi;have hff:=hf h hm;refine den_of_body follows (fun args w=>Tryz.call254 args w) Tryz.func254 rfl 57 rfl ?_;refine runW hh ?_;refine call (den_of L h hff) ?_;refine run ?_;refine call (den_isIDH h.id) ?_;cases b1:idB h.id
 ·rw[faultH_2 hh ((badH_iff h).2 (.inl b1))];refine run ?_;exact fin rfl
 by_cases b2:h.kind<1
 ·rw[faultH_2 hh ((badH_iff h).2 (.inr (.inl b2)))];refine run ?_;exact fin rfl
 by_cases b3:3<h.kind
 ·rw[faultH_2 hh ((badH_iff h).2 (.inr (.inr (.inl b3))))];refine run ?_;exact fin rfl
 refine run ?_;refine call (den_validH h.frm h.til) ?_;cases b4:goodS h.frm h.til
 ·rw[faultH_2 hh ((badH_iff h).2 (.inr (.inr (.inr b4))))];refine run ?_;exact fin rfl
 rw[faultH_r hh fun hb=>by
  rcases (badH_iff h).1 hb with h | h | h | h
  ·rw[b1] at h; cases h
  ·exact b2 h
  ·exact b3 h
  ·rw[b4] at h; cases h]
 rcases prevH_cases hi h with ⟨hpv,q,h0,hq,hle⟩ | ⟨hpv,h0 | ⟨q,h0,hq,hle⟩⟩
 ·rw[if_pos hpv];refine runW hq ?_;exact fin rfl
 all_goals
  rw[if_neg (by rw[hpv]; exact Bool.noConfusion)];by_cases he:ofErr h=0
  ·rw[if_neg (by simp[he]),he]
   first
    | (subst h0; refine run ?_)
    | refine runW hq ?_
   refine call (den_Name L h.why hff.2) ?_;cases name h.why
   ·refine run ?_;exact fin rfl
   ·refine run ?_;exact fin rfl
  ·rw[if_pos he]
   first
    | (subst h0; refine run ?_)
    | refine runW hq ?_
   exact fin rfl
theorem den_CheckH (L:LibC T) (l:List Hld) (hl:FitsH l):Den Tryz.prog T 175 [hlds l] (chkV (checkH l)):=by
 have hl0:=hl.1;refine den_of_body follows (fun args w=>Tryz.call175 args w) Tryz.func175 rfl 22 rfl ?_;by_cases h16:64<l.length
 ·refine run ?_;refine fin ?_;simp only[chkV,checkH,chk_many h16]
 refine run ?_
 refine loop ⟨[0,10,11],[],[],[]⟩ (fun k:Nat=>k<=l.length/\∀i,i<k->faultH l i=0) (fun k=>l.length-k)
  (fun k=>⟨22,[(0,.v (hlds l)),(10,.v (vi l.length)),(11,.v (vi k))],[],[]⟩) 0 ⟨by omega,by omega⟩ ?_
 rintro k ⟨hk,hall⟩;by_cases hlt:k<l.length
 ·refine run ?_;refine call (den_checkH L l k hl hlt) ?_;by_cases hz:faultH l k=0
  ·refine run ?_;refine round (k+1) ⟨by omega,fun i hi=> ?_⟩ (by omega);by_cases e:i=k
   ·rw[e]; exact hz
   ·exact hall i (by omega)
  ·refine run ?_;refine fin ?_;simp only[chkV,checkH,chk_bad h16 hlt hall hz]
 ·refine run ?_;refine fin ?_;simp only[chkV,checkH,chk_ok h16 fun i hi=>hall i (by omega)]
end Go.Arc
set_option maxRecDepth 100000
namespace Go.Arc
open Go.Ab Go.RowKit Go.Proofs
variable {T : Lay}
theorem classR_len {l:List Plan} (hl:Fits l) {f:Fil} (hf:f.Fit) (d:Int):(classR l f d).1.length<=1048576:=by
 unfold classR;split
 ·simp
 ·split
  ·simp
  ·split
   ·simp
   ·exact walkN_len hl _ _ _ hf.1
end Go.Arc
set_option maxRecDepth 100000
namespace Go.Arc
open Go.Ab Go.RowKit Go.Proofs
variable {T : Lay}
theorem den_eqInts (a b:List Int) (ha:a.length<=1048576):Den Tryz.prog T 28 [ints a,ints b] (vb (decide (a=b))):=by
 refine den_of_body follows (fun args w=>Tryz.call28 args w) Tryz.func28 rfl 26 rfl ?_;by_cases hl:a.length=b.length
 ·refine run ?_
  refine loop ⟨[0,1,12,13],[],[],[]⟩ (fun k:Nat=>k<=a.length/\(a=b↔a.drop k=b.drop k)) (fun k=>a.length-k)
   (fun k=>⟨26,[(0,.v (ints a)),(1,.v (ints b)),(12,.v (vi a.length)),(13,.v (vi k))],[],[]⟩) 0 ⟨by omega,by simp⟩ ?_
  rintro k ⟨hk,hall⟩;by_cases hlt:k<a.length
  ·obtain ⟨x,hx,hd,-⟩:=drop_at hlt;obtain ⟨y,hy,he,-⟩:=drop_at (l:=b) (k:=k) (by omega);by_cases hxy:x=y
   ·subst hxy;refine runW (And.intro hx hy) ?_;exact round (k+1) ⟨by omega,by rw[hall,eq_drop hd he]; simp⟩ (by omega)
   ·refine runW (And.intro hx hy) ?_;refine fin (vb_eq ?_)
    symm
    rw[decide_eq_false_iff_not,hall,eq_drop hd he];simp[hxy]
  ·refine run ?_;refine fin (vb_eq ?_)
   symm; rw[decide_eq_true_iff,hall,drop_end hlt,drop_end (l:=b) (by omega)]
 ·refine run ?_;refine fin (vb_eq ?_)
  symm; rw[decide_eq_false_iff_not]; intro h; exact hl (by rw[h])
def fewH1 (h:Hld):Bool:= !(decide (100<h.cls.length) || decide (100<h.why.length))
def fewH (l:List Hld):Bool:= !((decide (12<l.length) && decide (l.length<=64)) || decide (69<l.length)) && l.all fewH1
theorem den_FewH2 (l:List Hld) (hl0:l.length<=2097152) (hl:∀h∈l,h.Fit):Den Tryz.prog T 34 [hlds l] (vb (fewH l)):=by
 refine den_of_body follows (fun args w=>Tryz.call34 args w) Tryz.func34 rfl 39 rfl ?_;by_cases g:(12<l.length/\l.length<=64)\/69<l.length
 ·have hf:fewH l=false:=by
   rcases g with ⟨g1,g2⟩ | g
   ·simp[fewH,g1,g2]
   ·simp[fewH,g]
  rw[hf];by_cases a1:l.length<=64
  ·have a2:12<l.length:=by omega
   refine run ?_;exact fin rfl
  ·have a2:12<l.length:=by omega
   have a3:69<l.length:=by omega
   refine run ?_;exact fin rfl
 ·have hq:fewH l=l.all fewH1:=by
   have e1:(decide (12<l.length) && decide (l.length<=64))=false:=by
    cases e:decide (12<l.length)
    ·rfl
    ·have:12<l.length:=by simpa using e
     simp; omega
   have e2:decide (69<l.length)=false:=by simp; omega
   simp only[fewH,e1,e2,Bool.or_false,Bool.not_false,Bool.true_and]
  have go:∀Q:Prop,(12<l.length->¬l.length<=64->Q)->(¬ 12<l.length->Q)->Q:=fun Q a b=>by
   by_cases a1:12<l.length
   ·exact a a1 (by omega)
   ·exact b a1
  rw[hq];have a3:¬ 69<l.length:=by omega
  refine go _ (fun a1 a2=> ?_) (fun a1=> ?_) <;>
  ·refine run ?_
   refine loop ⟨[0,3],[],[],[]⟩ (fun k:Nat=>k<=l.length/\∀p∈l.take k,fewH1 p=true) (fun k=>l.length-k)
    (fun k=>⟨39,[(0,.v (hlds l)),(3,.v (vi k))],[],[]⟩) 0 ⟨by omega,by simp⟩ ?_
   rintro k ⟨hk,hall⟩;by_cases hlt:k<l.length
   ·obtain ⟨x,hx,hd,hm⟩:=drop_at hlt;obtain ⟨f1,f2⟩:=hl x hm;by_cases g1:100<x.cls.length
    ·refine runW hx ?_;refine fin (vb_eq ?_);rw[all_at hx (by simp[fewH1,g1])]
    by_cases g2:100<x.why.length
    ·refine runW hx ?_;refine fin (vb_eq ?_);rw[all_at hx (by simp[fewH1,g2])]
    refine runW hx ?_;exact round (k+1) ⟨by omega,take_snoc (q:=fun p:Hld=>fewH1 p=true) hall hx (by simp[fewH1,g1,g2])⟩ (by omega)
   ·refine run ?_;refine fin (vb_eq ?_);rw[all_end hall hlt]
theorem den_FewH (l:List Hld) (hl:FitsH l):Den Tryz.prog T 34 [hlds l] (vb (fewH l)):=den_FewH2 l (Nat.le_trans hl.1 (by decide)) hl.2
end Go.Arc
