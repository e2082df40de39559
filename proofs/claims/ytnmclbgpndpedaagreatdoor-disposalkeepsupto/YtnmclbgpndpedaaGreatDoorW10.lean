/- A part of this claim. -/
import Derived.Test.YtnmclbgpndpedaaGreatDoorW9
set_option maxRecDepth 100000
namespace Go.Arc
open Go.Ab Go.RowKit Go.Proofs Tryz
variable {T : Lay}
theorem den_codes (p:Plan) (hl:p.cls.length<=1048576):DenO prog T 268 [.agg p.cs] 9 (strs (p.cls.map (·.code))):=by
 refine jir follows (fun args w=>call268 args w) func268 rfl 20 rfl ?_;refine run ?_
 refine loop ⟨[3,7,8,9],[],[3],[(3,9,1)]⟩ (fun y:Nat×List Str=>y.1<=p.cls.length/\y.2=(p.cls.take y.1).map (·.code)) (fun y=>p.cls.length-y.1)
  (fun y=>⟨20,[(3,.v (strs y.2)),(7,.v (clss p.cls)),(8,.v (vi p.cls.length)),(9,.v (vi y.1))],[],[(9,[3])]⟩) (0,[]) ⟨by simp,by simp⟩ ?_
 rintro ⟨k,out⟩ ⟨hk,hall⟩;simp only at hk hall;have hol:out.length=k:=by rw[hall]; simp; omega
 by_cases hlt:k<p.cls.length
 ·obtain ⟨x,hx,hd,hm⟩:=aj hlt;have hap:out.map Cst++[[V.str x.code]]=(out++[x.code]).map Cst:=by simp
  refine runW (ai hx hap) ?_;refine round (k+1,out++[x.code]) ⟨by simp only; omega,?_⟩ (by simp only; omega);simp only;obtain ⟨hlt',rfl⟩:=gsi.1 hx;rw[List.take_succ_eq_append_getElem hlt',hall,List.map_append]; rfl
 ·have ho:out=p.cls.map (·.code):=by rw[hall,List.take_of_length_le (by omega)]
  subst ho;refine run ?_;exact finO (.refl _)
theorem lt2_s {a b:Str} {n:Int} (h:cmp a b=some n):lt2 a b=decide (n<0):=by simp[lt2,h]
theorem lt2_n {a b:Str} (h:cmp a b=none):lt2 a b=false:=by simp[lt2,h]
theorem cmp_range {a b:Str} {n:Int} (h:cmp a b=some n): -1<=n/\n<=1:=by
 unfold cmp at h;split at h
 ·rename_i x y _ _;cases h
  have:∀x y:List Nat,-1<=cmpL x y/\cmpL x y<=1:=by
   intro x
   induction x with
   | nil=>intro y; cases y <;> simp[cmpL]
   | cons a r ih=>
    intro y;cases y with
    | nil=>simp[cmpL]
    | cons b q=>
     simp only[cmpL];split
     ·simp
     ·split
      ·simp
      ·exact ih q
  exact this x y
 ·cases h
theorem den_rising (L:LibC T) (l:List Str) (hl:l.length<=1048576) (hs:∀s∈l,s.length<=1048576):Den prog T 267 [strs l] (vb (je4 l)):=by
 refine ae follows (fun args w=>call267 args w) func267 rfl 32 rfl ?_;refine run ?_
 refine loop ⟨[0,8,9],[],[],[]⟩ (fun k:Nat=>k<=l.length/\je4 l=je4 (l.drop k)) (fun k=>l.length-k)
  (fun k=>⟨32,[(0,.v (strs l)),(8,.v (vi ((l.length:Int)-1))),(9,.v (vi k))],[],[]⟩) 0 ⟨by omega,by simp⟩ ?_
 rintro k ⟨hk,hall⟩;by_cases hlt:k+1<l.length
 ·obtain ⟨x,hx,hd,hm⟩:=aj (l:=l) (k:=k) (by omega);obtain ⟨y,hy,he,hm'⟩:=aj hlt;have hr:=rising_step hd he;refine runW (ai hx hy) ?_;refine call (den_Compare L x y (hs x hm) (hs y hm')) ?_;cases hc:cmp x y with
  | none=>
   rw[cmpV_n hc];refine run ?_;refine fin (ak ?_);rw[hall,hr,lt2_n hc]; rfl
  | some n=>
   rw[cmpV_s hc];have hrn:=cmp_range hc;by_cases h0:n<0
   ·refine run ?_;refine round (k+1) ⟨by omega,?_⟩ (by omega);rw[hall,hr,lt2_s hc]; simp[h0]
   ·refine run ?_;refine fin (ak ?_);rw[hall,hr,lt2_s hc]; simp[h0]
 ·refine run ?_;refine fin (ak ?_);rw[hall,rising_end hlt]
theorem den_cls1 (L:LibC T) (c:Cls) (hc:c.Fit):Den prog T 264 [.agg c.cs] (vb (!(aq c.code).isSome)):=by
 refine ae follows (fun args w=>call264 args w) func264 rfl 7 rfl ?_;refine run ?_;refine call (jos L c.code hc.1) ?_;cases hp:aq c.code with
 | none=>rw[jez hp]; refine run ?_; exact fin (ak rfl)
 | some l=>
  rw[je0 hp];obtain ⟨h0,-,-⟩:=jd4 hp;cases l with
  | nil=>exact absurd rfl h0
  | cons n r=>
   have e:nats (n::r)= .slice 1 (Cnat n::r.map Cnat):=rfl;refine runW e ?_;exact fin (ak rfl)
theorem den_cls2 (L:LibC T) (c:Cls) (hc:c.Fit):Den prog T 266 [.agg c.cs] (vb (!name c.title)):=by
 refine ae follows (fun args w=>call266 args w) func266 rfl 7 rfl ?_;refine run ?_;refine call (jk5 L c.title hc.2) ?_;refine run ?_;exact fin rfl
theorem den_cls3 (L:LibC T) (p:Plan) (hp:p.cls.length<=1048576) (c:Cls) (hc:c.Fit):Den prog T 269 [.agg c.cs,.row p.cs] (vb (orphan p c)):=by
 refine ae follows (fun args w=>call269 args w) func269 rfl 19 rfl ?_;refine run ?_;refine call (den_Parent L c.code hc.1) ?_;cases h:jjc c.code with
 | none=>rw[jpw h]; refine run ?_; refine fin (ak ?_); simp[orphan,h]
 | some u=>
  rw[parentV_s h];refine run ?_;refine call (jka p u hp) ?_;refine run ?_;refine fin (ak ?_); simp[orphan,h]
def jho (p:Plan):Int:=if 128<p.cls.length\/128<p.mov.length then 8 else jdg p
theorem jrh (L:LibC T) (p:Plan) (hp:p.Fit):Den prog T 232 [.agg p.cs] (vi (jho p)):=by
 obtain ⟨h1,h2,h3,h4⟩:=hp;refine ae follows (fun args w=>call232 args w) func232 rfl 33 rfl ?_;have hcl:(p.cls.map (·.code)).length<=1048576:=by simpa using h1
 have hcs:∀s∈p.cls.map (·.code),s.length<=1048576:=by
  intro s hs;obtain ⟨c,hc,rfl⟩:=List.mem_map.1 hs;exact (h3 c hc).1
 by_cases g1:128<p.cls.length
 ·refine run ?_;refine fin (al ?_); simp[jho,g1]
 by_cases g2:128<p.mov.length
 ·refine run ?_;refine fin (al ?_); simp[jho,g2]
 have hce:jho p=jdg p:=by simp[jho,g1,g2]
 rw[hce];unfold jdg;refine run ?_;refine call (jls p.cls _ _ _ h1 fun c hc=>den_cls1 L c (h3 c hc)) ?_;cases e1:p.cls.any fun c=> !(aq c.code).isSome
 ·refine run ?_;refine call (jls p.cls _ _ _ h1 fun c hc=>den_cls2 L c (h3 c hc)) ?_;cases e2:p.cls.any fun c=> !name c.title
  ·refine run ?_;refine callO (den_codes p h1) ?_;refine run ?_;refine call (den_rising L _ hcl hcs) ?_;cases e3:je4 (p.cls.map (·.code))
   ·refine run ?_;exact fin rfl
   ·refine run ?_;refine call (jls p.cls _ _ _ h1 fun c hc=>den_cls3 L p h1 c (h3 c hc)) ?_;cases e4:p.cls.any (orphan p)
    ·refine run ?_;exact fin rfl
    ·refine run ?_;exact fin rfl
  ·refine run ?_;exact fin rfl
 ·refine run ?_;exact fin rfl
theorem den_mov1 (L:LibC T) (old new:Plan) (ho:old.Fit) (hn:new.Fit) (c:Cls) (hc:c.Fit):Den prog T 271 [.agg c.cs,.row old.cs,.row new.cs] (vb (next old new c.code).isNone):=by
 refine ae follows (fun args w=>call271 args w) func271 rfl 17 rfl ?_;refine run ?_;refine call (den_Next L old new c.code ho hn hc.1) ?_;cases h:next old new c.code with
 | none=>rw[nextV_n h]; refine run ?_; exact fin rfl
 | some x=>rw[jml h]; refine run ?_; exact fin rfl
theorem den_moved (L:LibC T) (old p:Plan) (ho:old.Fit) (hp:p.Fit):Den prog T 233 [.agg old.cs,.agg p.cs] (vi (movErr old p)):=by
 have ho0:=ho;have hp0:=hp;obtain ⟨o1,o2,o3,o4⟩:=ho;obtain ⟨h1,h2,h3,h4⟩:=hp;refine ae follows (fun args w=>call233 args w) func233 rfl 42 rfl ?_;refine run ?_
 refine loop ⟨[2,3,5,10,11,12],[2,3],[5],[(5,9,1)]⟩ (fun y:Nat×List Str=>y.1<=p.mov.length/\y.2=(p.mov.take y.1).map (·.frm)/\∀m∈p.mov.take y.1,(!has old m.frm || !has p m.to)=false) (fun y=>p.mov.length-y.1)
  (fun y=>⟨42,[(2,.p 2 0),(3,.p 3 0),(5,.v (strs y.2)),(10,.v (movs p.mov)),(11,.v (vi p.mov.length)),(12,.v (vi y.1))],[(2,.var old.cs),(3,.var p.cs)],[(9,[5])]⟩) (0,[]) ⟨by simp,by simp,by simp⟩ ?_
 rintro ⟨k,out⟩ ⟨hk,hall,hno⟩;simp only at hk hall hno;have hol:out.length=k:=by rw[hall]; simp; omega
 by_cases hlt:k<p.mov.length
 ·obtain ⟨x,hx,hd,hm⟩:=aj hlt;refine runW hx ?_;refine call (jka old x.frm o1) ?_;cases e1:has old x.frm
  ·refine run ?_;refine fin (al ?_);have:p.mov.any (fun m=> !has old m.frm || !has p m.to)=true:=any_at hx (by simp[e1]);simp[movErr,this]
  ·refine run ?_;refine call (jka p x.to h1) ?_;cases e2:has p x.to
   ·refine run ?_;refine fin (al ?_);have:p.mov.any (fun m=> !has old m.frm || !has p m.to)=true:=any_at hx (by simp[e2]);simp[movErr,this]
   ·have hap:out.map Cst++[[V.str x.frm]]=(out++[x.frm]).map Cst:=by simp
    refine runW hap ?_;refine round (k+1,out++[x.frm]) ⟨by simp only; omega,?_,br (q:=fun m:Mov=>(!has old m.frm || !has p m.to)=false) hno hx (by simp[e1,e2])⟩ (by simp only; omega);simp only;obtain ⟨hlt',rfl⟩:=gsi.1 hx;rw[List.take_succ_eq_append_getElem hlt',hall,List.map_append]; rfl
 ·have hany:p.mov.any (fun m=> !has old m.frm || !has p m.to)=false:=any_end hno hlt;have hout:out=p.mov.map (·.frm):=by rw[hall,List.take_of_length_le (by omega)]
  subst hout;unfold movErr;rw[hany];have hml:(p.mov.map (·.frm)).length<=1048576:=by simpa using h2
  have hms:∀s∈p.mov.map (·.frm),s.length<=1048576:=by
   intro s hs;obtain ⟨m,hm,rfl⟩:=List.mem_map.1 hs;exact (h4 m hm).1
  refine run ?_;refine call (den_rising L _ hml hms) ?_;cases e3:je4 (p.mov.map (·.frm))
  ·refine run ?_;exact fin rfl
  ·refine run ?_;refine call (jls old.cls _ _ _ o1 fun c hc=>den_mov1 L old p ho0 hp0 c (o3 c hc)) ?_;cases e4:old.cls.any fun c=>(next old p c.code).isNone
   ·refine run ?_;exact fin rfl
   ·refine run ?_;exact fin rfl
end Go.Arc
