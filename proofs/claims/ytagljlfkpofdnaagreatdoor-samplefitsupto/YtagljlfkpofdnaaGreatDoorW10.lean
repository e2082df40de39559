/- A part of this claim. -/
import Derived.Test.YtagljlfkpofdnaaGreatDoorW9
set_option maxRecDepth 100000
namespace Go.Arc
open Go.Ab Go.RowKit Go.Proofs
variable {T : Lay}
theorem den_codes (p:Plan) (hl:p.cls.length<=1048576):DenO Tryz.prog T 233 [.agg p.cs] 9 (strs (p.cls.map (·.code))):=by
 refine denO_of_body follows (fun args w=>Tryz.call233 args w) Tryz.func233 rfl 20 rfl ?_;refine run ?_
 refine loop ⟨[3,7,8,9],[],[3],[(3,9,1)]⟩ (fun y:Nat×List Str=>y.1<=p.cls.length/\y.2=(p.cls.take y.1).map (·.code)) (fun y=>p.cls.length-y.1)
  (fun y=>⟨20,[(3,.v (strs y.2)),(7,.v (clss p.cls)),(8,.v (vi p.cls.length)),(9,.v (vi y.1))],[],[(9,[3])]⟩) (0,[]) ⟨by simp,by simp⟩ ?_
 rintro ⟨k,out⟩ ⟨hk,hall⟩;simp only at hk hall;have hol:out.length=k:=by rw[hall]; simp; omega
 by_cases hlt:k<p.cls.length
 ·obtain ⟨x,hx,hd,hm⟩:=drop_at hlt;have hap:out.map Cst++[[V.str x.code]]=(out++[x.code]).map Cst:=by simp
  refine runW (And.intro hx hap) ?_;refine round (k+1,out++[x.code]) ⟨by simp only; omega,?_⟩ (by simp only; omega);simp only;obtain ⟨hlt',rfl⟩:=List.getElem?_eq_some_iff.1 hx;rw[List.take_succ_eq_append_getElem hlt',hall,List.map_append]; rfl
 ·have ho:out=p.cls.map (·.code):=by rw[hall,List.take_of_length_le (by omega)]
  subst ho;refine run ?_;exact finO (.refl _)
theorem lt2_s {a b:Str} {n:Int} (h:cmp a b=some n):lt2 a b=decide (n<0):=by simp[lt2,h]
theorem lt2_n {a b:Str} (h:cmp a b=none):lt2 a b=false:=by simp[lt2,h]
theorem cmp_range {a b:Str} {n:Int} (h:cmp a b=some n): -1<=n/\n<=1:=by
 unfold cmp at h;split at h
 ·rename_i x y _ _;cases h
  have:∀x y:List Nat,-1<=cmpL x y/\cmpL x y<=1:=by
   intro x
   induction x with
   | nil=>intro y; cases y <;> simp[cmpL]
   | cons a r ih=>
    intro y;cases y with
    | nil=>simp[cmpL]
    | cons b q=>
     simp only[cmpL];split
     ·simp
     ·split
      ·simp
      ·exact ih q
  exact this x y
 ·cases h
theorem den_rising (L:LibC T) (l:List Str) (hl:l.length<=1048576) (hs:∀s∈l,s.length<=1048576):Den Tryz.prog T 232 [strs l] (vb (rising l)):=by
 refine den_of_body follows (fun args w=>Tryz.call232 args w) Tryz.func232 rfl 32 rfl ?_;refine run ?_
 refine loop ⟨[0,8,9],[],[],[]⟩ (fun k:Nat=>k<=l.length/\rising l=rising (l.drop k)) (fun k=>l.length-k)
  (fun k=>⟨32,[(0,.v (strs l)),(8,.v (vi ((l.length:Int)-1))),(9,.v (vi k))],[],[]⟩) 0 ⟨by omega,by simp⟩ ?_
 rintro k ⟨hk,hall⟩;by_cases hlt:k+1<l.length
 ·obtain ⟨x,hx,hd,hm⟩:=drop_at (l:=l) (k:=k) (by omega);obtain ⟨y,hy,he,hm'⟩:=drop_at hlt;have hr:=rising_step hd he;refine runW (And.intro hx hy) ?_;refine call (den_Compare L x y (hs x hm) (hs y hm')) ?_;cases hc:cmp x y with
  | none=>
   rw[cmpV_n hc];refine run ?_;refine fin (vb_eq ?_);rw[hall,hr,lt2_n hc]; rfl
  | some n=>
   rw[cmpV_s hc];have hrn:=cmp_range hc;by_cases h0:n<0
   ·refine run ?_;refine round (k+1) ⟨by omega,?_⟩ (by omega);rw[hall,hr,lt2_s hc]; simp[h0]
   ·refine run ?_;refine fin (vb_eq ?_);rw[hall,hr,lt2_s hc]; simp[h0]
 ·refine run ?_;refine fin (vb_eq ?_);rw[hall,rising_end hlt]
theorem den_cls1 (L:LibC T) (c:Cls) (hc:c.Fit):Den Tryz.prog T 229 [.agg c.cs] (vb (!(parse c.code).isSome)):=by
 refine den_of_body follows (fun args w=>Tryz.call229 args w) Tryz.func229 rfl 7 rfl ?_;refine run ?_;refine call (den_numbers L c.code hc.1) ?_;cases hp:parse c.code with
 | none=>rw[numsV_n hp]; refine run ?_; exact fin (vb_eq rfl)
 | some l=>
  rw[numsV_s hp];obtain ⟨h0,-,-⟩:=parse_some hp;cases l with
  | nil=>exact absurd rfl h0
  | cons n r=>
   have e:nats (n::r)= .slice 1 (Cnat n::r.map Cnat):=rfl;refine runW e ?_;exact fin (vb_eq rfl)
theorem den_cls2 (L:LibC T) (c:Cls) (hc:c.Fit):Den Tryz.prog T 231 [.agg c.cs] (vb (!name c.title)):=by
 refine den_of_body follows (fun args w=>Tryz.call231 args w) Tryz.func231 rfl 7 rfl ?_;refine run ?_;refine call (den_Name L c.title hc.2) ?_;refine run ?_;exact fin rfl
theorem den_cls3 (L:LibC T) (p:Plan) (hp:p.cls.length<=1048576) (c:Cls) (hc:c.Fit):Den Tryz.prog T 234 [.agg c.cs,.row p.cs] (vb (orphan p c)):=by
 refine den_of_body follows (fun args w=>Tryz.call234 args w) Tryz.func234 rfl 19 rfl ?_;refine run ?_;refine call (den_Parent L c.code hc.1) ?_;cases h:parent c.code with
 | none=>rw[parentV_n h]; refine run ?_; refine fin (vb_eq ?_); simp[orphan,h]
 | some u=>
  rw[parentV_s h];refine run ?_;refine call (den_Has p u hp) ?_;refine run ?_;refine fin (vb_eq ?_); simp[orphan,h]
def clsErr' (p:Plan):Int:=if 128<p.cls.length\/128<p.mov.length then 8 else clsErr p
theorem den_classes (L:LibC T) (p:Plan) (hp:p.Fit):Den Tryz.prog T 154 [.agg p.cs] (vi (clsErr' p)):=by
 obtain ⟨h1,h2,h3,h4⟩:=hp;refine den_of_body follows (fun args w=>Tryz.call154 args w) Tryz.func154 rfl 33 rfl ?_;have hcl:(p.cls.map (·.code)).length<=1048576:=by simpa using h1
 have hcs:∀s∈p.cls.map (·.code),s.length<=1048576:=by
  intro s hs;obtain ⟨c,hc,rfl⟩:=List.mem_map.1 hs;exact (h3 c hc).1
 by_cases g1:128<p.cls.length
 ·refine run ?_;refine fin (vi_eq ?_); simp[clsErr',g1]
 by_cases g2:128<p.mov.length
 ·refine run ?_;refine fin (vi_eq ?_); simp[clsErr',g2]
 have hce:clsErr' p=clsErr p:=by simp[clsErr',g1,g2]
 rw[hce];unfold clsErr;refine run ?_;refine call (den_anyCls p.cls _ _ _ h1 fun c hc=>den_cls1 L c (h3 c hc)) ?_;cases e1:p.cls.any fun c=> !(parse c.code).isSome
 ·refine run ?_;refine call (den_anyCls p.cls _ _ _ h1 fun c hc=>den_cls2 L c (h3 c hc)) ?_;cases e2:p.cls.any fun c=> !name c.title
  ·refine run ?_;refine callO (den_codes p h1) ?_;refine run ?_;refine call (den_rising L _ hcl hcs) ?_;cases e3:rising (p.cls.map (·.code))
   ·refine run ?_;exact fin rfl
   ·refine run ?_;refine call (den_anyCls p.cls _ _ _ h1 fun c hc=>den_cls3 L p h1 c (h3 c hc)) ?_;cases e4:p.cls.any (orphan p)
    ·refine run ?_;exact fin rfl
    ·refine run ?_;exact fin rfl
  ·refine run ?_;exact fin rfl
 ·refine run ?_;exact fin rfl
theorem den_mov1 (L:LibC T) (old new:Plan) (ho:old.Fit) (hn:new.Fit) (c:Cls) (hc:c.Fit):Den Tryz.prog T 236 [.agg c.cs,.row old.cs,.row new.cs] (vb (next old new c.code).isNone):=by
 refine den_of_body follows (fun args w=>Tryz.call236 args w) Tryz.func236 rfl 17 rfl ?_;refine run ?_;refine call (den_Next L old new c.code ho hn hc.1) ?_;cases h:next old new c.code with
 | none=>rw[nextV_n h]; refine run ?_; exact fin rfl
 | some x=>rw[nextV_s h]; refine run ?_; exact fin rfl
theorem den_moved (L:LibC T) (old p:Plan) (ho:old.Fit) (hp:p.Fit):Den Tryz.prog T 155 [.agg old.cs,.agg p.cs] (vi (movErr old p)):=by
 have ho0:=ho;have hp0:=hp;obtain ⟨o1,o2,o3,o4⟩:=ho;obtain ⟨h1,h2,h3,h4⟩:=hp;refine den_of_body follows (fun args w=>Tryz.call155 args w) Tryz.func155 rfl 42 rfl ?_;refine run ?_
 refine loop ⟨[2,3,5,10,11,12],[2,3],[5],[(5,9,1)]⟩ (fun y:Nat×List Str=>y.1<=p.mov.length/\y.2=(p.mov.take y.1).map (·.frm)/\∀m∈p.mov.take y.1,(!has old m.frm || !has p m.to)=false) (fun y=>p.mov.length-y.1)
  (fun y=>⟨42,[(2,.p 2 0),(3,.p 3 0),(5,.v (strs y.2)),(10,.v (movs p.mov)),(11,.v (vi p.mov.length)),(12,.v (vi y.1))],[(2,.var old.cs),(3,.var p.cs)],[(9,[5])]⟩) (0,[]) ⟨by simp,by simp,by simp⟩ ?_
 rintro ⟨k,out⟩ ⟨hk,hall,hno⟩;simp only at hk hall hno;have hol:out.length=k:=by rw[hall]; simp; omega
 by_cases hlt:k<p.mov.length
 ·obtain ⟨x,hx,hd,hm⟩:=drop_at hlt;refine runW hx ?_;refine call (den_Has old x.frm o1) ?_;cases e1:has old x.frm
  ·refine run ?_;refine fin (vi_eq ?_);have:p.mov.any (fun m=> !has old m.frm || !has p m.to)=true:=any_at hx (by simp[e1]);simp[movErr,this]
  ·refine run ?_;refine call (den_Has p x.to h1) ?_;cases e2:has p x.to
   ·refine run ?_;refine fin (vi_eq ?_);have:p.mov.any (fun m=> !has old m.frm || !has p m.to)=true:=any_at hx (by simp[e2]);simp[movErr,this]
   ·have hap:out.map Cst++[[V.str x.frm]]=(out++[x.frm]).map Cst:=by simp
    refine runW hap ?_;refine round (k+1,out++[x.frm]) ⟨by simp only; omega,?_,take_snoc (q:=fun m:Mov=>(!has old m.frm || !has p m.to)=false) hno hx (by simp[e1,e2])⟩ (by simp only; omega);simp only;obtain ⟨hlt',rfl⟩:=List.getElem?_eq_some_iff.1 hx;rw[List.take_succ_eq_append_getElem hlt',hall,List.map_append]; rfl
 ·have hany:p.mov.any (fun m=> !has old m.frm || !has p m.to)=false:=any_end hno hlt;have hout:out=p.mov.map (·.frm):=by rw[hall,List.take_of_length_le (by omega)]
  subst hout;unfold movErr;rw[hany];have hml:(p.mov.map (·.frm)).length<=1048576:=by simpa using h2
  have hms:∀s∈p.mov.map (·.frm),s.length<=1048576:=by
   intro s hs;obtain ⟨m,hm,rfl⟩:=List.mem_map.1 hs;exact (h4 m hm).1
  refine run ?_;refine call (den_rising L _ hml hms) ?_;cases e3:rising (p.mov.map (·.frm))
  ·refine run ?_;exact fin rfl
  ·refine run ?_;refine call (den_anyCls old.cls _ _ _ o1 fun c hc=>den_mov1 L old p ho0 hp0 c (o3 c hc)) ?_;cases e4:old.cls.any fun c=>(next old p c.code).isNone
   ·refine run ?_;exact fin rfl
   ·refine run ?_;exact fin rfl
end Go.Arc
