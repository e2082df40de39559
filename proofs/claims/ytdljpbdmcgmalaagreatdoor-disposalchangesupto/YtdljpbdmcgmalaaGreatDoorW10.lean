/- A part of this claim. -/
import Derived.Test.YtdljpbdmcgmalaaGreatDoorW9
set_option maxRecDepth 100000
namespace Go.Arc
open Go.Ab Go.RowKit Go.Proofs Tryz
variable {T : Lay}
theorem den_codes (p:Plan) (hl:p.cls.length<=1048576):DenO prog T 322 [.agg p.cs] 9 (strs (p.cls.map (·.code))):=by
 refine jhk call322 func322 20 ?_;refine run ?_
 refine loop ⟨[3,7,8,9],[],[3],[(3,9,1)]⟩ (fun y:Nat×List Str=>y.1<=p.cls.length/\y.2=(p.cls.take y.1).map (·.code)) (fun y=>p.cls.length-y.1)
  (fun y=>⟨20,[(3,.v (strs y.2)),(7,.v (clss p.cls)),(8,.v (vi p.cls.length)),(9,.v (vi y.1))],[],[(9,[3])]⟩) (0,[]) ⟨sm,sm⟩ ?_
 rintro ⟨k,out⟩ ⟨hk,hall⟩;simp only at hk hall;have hol:out.length=k:=by rw[hall]; simp; omega
 by_cases hlt:k<p.cls.length
 ·obtain ⟨x,hx,hd,hm⟩:=ja1 hlt;have hap:out.map Cst++[[V.str x.code]]=(out++[x.code]).map Cst:=by simp
  refine runW (ai hx hap) ?_;refine round (k+1,out++[x.code]) ⟨by simp only; omega,?_⟩ zeh;exact zu
 ·have ho:out=p.cls.map (·.code):=by rw[hall,List.take_of_length_le om]
  subst ho;exact zbi
theorem lt2_s {a b:Str} {n:Int} (h:cmp a b=some n):lt2 a b=decide (n<0):=by simp[lt2,h]
theorem lt2_n {a b:Str} (h:cmp a b=none):lt2 a b=false:=by simp[lt2,h]
theorem cmp_range {a b:Str} {n:Int} (h:cmp a b=some n): -1<=n/\n<=1:=by
 unfold cmp at h;split at h
 ·rename_i x y _ _;cases h
  have:∀x y:List Nat,-1<=cmpL x y/\cmpL x y<=1:=by
   intro x
   induction x with
   | nil=>intro y; cases y <;> simp[cmpL]
   | cons a r ih=>
    intro y;cases y with
    | nil=>simp[cmpL]
    | cons b q=>
     simp only[cmpL];split
     ·simp
     ·split
      ·simp
      ·exact ih q
  exact this x y
 ·cases h
theorem den_rising (L:LibC T) (l:List Str) (hl:l.length<=1048576) (hs:∀s∈l,s.length<=1048576):Den prog T 321 [strs l] (vb (jci l)):=by
 refine ja0 call321 func321 32 ?_;refine run ?_;refine ja7 ⟨[9,0,8],[],[],[]⟩ l.length (fun k=>jci l=jci (l.drop k)) sm ?_;rintro k ⟨hk,hall⟩;by_cases hlt:k+1<l.length
 ·obtain ⟨x,hx,hd,hm⟩:=ja1 (l:=l) (k:=k) om;obtain ⟨y,hy,he,hm'⟩:=ja1 hlt;have hr:=jnv hd he;refine rcW (ai hx hy) (den_Compare L x y (hs x hm) (hs y hm')) ?_;cases hc:cmp x y with
  | none=>
   rw[ji1 hc];refine run ?_;refine fin (ja3 ?_);rw[hall,hr,lt2_n hc]; rfl
  | some n=>
   rw[cmpV_s hc];have hrn:=cmp_range hc;by_cases h0:n<0
   ·refine run ?_;refine round (k+1) ⟨om,?_⟩ om;rw[hall,hr,lt2_s hc]; simp[h0]
   ·refine run ?_;refine fin (ja3 ?_);rw[hall,hr,lt2_s hc]; simp[h0]
 ·refine run ?_;refine fin (ja3 ?_);rw[hall,joh hlt]
theorem den_cls1 (L:LibC T) (c:Cls) (hc:c.Fit):Den prog T 318 [.agg c.cs] (vb (!(ja6 c.code).isSome)):=by
 refine ja0 call318 func318 7 ?_;refine rc (jo2 L c.code hc.1) ?_;cases hp:ja6 c.code with
 | none=>rw[jgs hp]; refine run ?_; exact fin (ja3 rfl)
 | some l=>
  rw[jg3 hp];obtain ⟨h0,-,-⟩:=jde hp;cases l with
  | nil=>exact absurd rfl h0
  | cons n r=>
   have e:nats (n::r)= .slice 1 (Cnat n::r.map Cnat):=rfl;refine runW e ?_;exact fin (ja3 rfl)
theorem den_cls2 (L:LibC T) (c:Cls) (hc:c.Fit):Den prog T 320 [.agg c.cs] (vb (!name c.title)):=by
 refine ja0 call320 func320 7 ?_;refine rc (jiq L c.title hc.2) ?_;exact za
theorem den_cls3 (L:LibC T) (p:Plan) (hp:p.cls.length<=1048576) (c:Cls) (hc:c.Fit):Den prog T 323 [.agg c.cs,.row p.cs] (vb (jf0 p c)):=by
 refine ja0 call323 func323 19 ?_;refine rc (den_Parent L c.code hc.1) ?_;cases h:jdb c.code with
 | none=>rw[jih h]; refine run ?_; refine fin (ja3 ?_); simp[jf0,h]
 | some u=>
  rw[jky h];refine rc (jj0 p u hp) ?_;refine run ?_;refine fin (ja3 ?_); simp[jf0,h]
def jhc (p:Plan):Int:=if 128<p.cls.length\/128<p.mov.length then 8 else jck p
theorem jrp (L:LibC T) (p:Plan) (hp:p.Fit):Den prog T 269 [.agg p.cs] (vi (jhc p)):=by
 obtain ⟨h1,h2,h3,h4⟩:=hp;refine ja0 call269 func269 33 ?_;have hcl:(p.cls.map (·.code)).length<=1048576:=by simpa using h1
 have hcs:∀s∈p.cls.map (·.code),s.length<=1048576:=by
  intro s hs;obtain ⟨c,hc,rfl⟩:=List.mem_map.1 hs;exact (h3 c hc).1
 by_cases g1:128<p.cls.length
 ·refine run ?_;refine fin (ja5 ?_); simp[jhc,g1]
 by_cases g2:128<p.mov.length
 ·refine run ?_;refine fin (ja5 ?_); simp[jhc,g2]
 have hce:jhc p=jck p:=by simp[jhc,g1,g2]
 rw[hce];unfold jck;refine rc (jkm p.cls _ _ _ h1 fun c hc=>den_cls1 L c (h3 c hc)) ?_;cases e1:p.cls.any fun c=> !(ja6 c.code).isSome
 ·refine rc (jkm p.cls _ _ _ h1 fun c hc=>den_cls2 L c (h3 c hc)) ?_;cases e2:p.cls.any fun c=> !name c.title
  ·refine run ?_;refine callO (den_codes p h1) ?_;refine rc (den_rising L _ hcl hcs) ?_;cases e3:jci (p.cls.map (·.code))
   ·exact za
   ·refine rc (jkm p.cls _ _ _ h1 fun c hc=>den_cls3 L p h1 c (h3 c hc)) ?_;cases e4:p.cls.any (jf0 p)
    ·exact za
    ·exact za
  ·exact za
 ·exact za
theorem den_mov1 (L:LibC T) (old new:Plan) (ho:old.Fit) (hn:new.Fit) (c:Cls) (hc:c.Fit):Den prog T 325 [.agg c.cs,.row old.cs,.row new.cs] (vb (next old new c.code).isNone):=by
 refine ja0 call325 func325 17 ?_;refine rc (den_Next L old new c.code ho hn hc.1) ?_;cases h:next old new c.code with
 | none=>rw[jix h]; refine run ?_; exact fin rfl
 | some x=>rw[jhw h]; refine run ?_; exact fin rfl
theorem den_moved (L:LibC T) (old p:Plan) (ho:old.Fit) (hp:p.Fit):Den prog T 270 [.agg old.cs,.agg p.cs] (vi (jf1 old p)):=by
 have ho0:=ho;have hp0:=hp;obtain ⟨o1,o2,o3,o4⟩:=ho;obtain ⟨h1,h2,h3,h4⟩:=hp;refine ja0 call270 func270 42 ?_;refine run ?_
 refine loop ⟨[2,3,5,10,11,12],[2,3],[5],[(5,9,1)]⟩ (fun y:Nat×List Str=>y.1<=p.mov.length/\y.2=(p.mov.take y.1).map (·.frm)/\∀m∈p.mov.take y.1,(!has old m.frm || !has p m.to)=false) (fun y=>p.mov.length-y.1)
  (fun y=>⟨42,[(2,.p 2 0),(3,.p 3 0),(5,.v (strs y.2)),(10,.v (movs p.mov)),(11,.v (vi p.mov.length)),(12,.v (vi y.1))],[(2,.var old.cs),(3,.var p.cs)],[(9,[5])]⟩) (0,[]) ⟨sm,sm,sm⟩ ?_
 rintro ⟨k,out⟩ ⟨hk,hall,hno⟩;simp only at hk hall hno;have hol:out.length=k:=by rw[hall]; simp; omega
 by_cases hlt:k<p.mov.length
 ·obtain ⟨x,hx,hd,hm⟩:=ja1 hlt;refine rcW hx (jj0 old x.frm o1) ?_;cases e1:has old x.frm
  ·refine run ?_;refine fin (ja5 ?_);have:p.mov.any (fun m=> !has old m.frm || !has p m.to)=true:=je2 hx (by simp[e1]);simp[jf1,this]
  ·refine rc (jj0 p x.to h1) ?_;cases e2:has p x.to
   ·refine run ?_;refine fin (ja5 ?_);have:p.mov.any (fun m=> !has old m.frm || !has p m.to)=true:=je2 hx (by simp[e2]);simp[jf1,this]
   ·have hap:out.map Cst++[[V.str x.frm]]=(out++[x.frm]).map Cst:=by simp
    refine runW hap ?_;refine round (k+1,out++[x.frm]) ⟨by simp only; omega,?_,jae (q:=fun m:Mov=>(!has old m.frm || !has p m.to)=false) hno hx (by simp[e1,e2])⟩ zeh;exact zu
 ·have hany:p.mov.any (fun m=> !has old m.frm || !has p m.to)=false:=jg4 hno hlt;have hout:out=p.mov.map (·.frm):=by rw[hall,List.take_of_length_le om]
  subst hout;unfold jf1;rw[hany];have hml:(p.mov.map (·.frm)).length<=1048576:=by simpa using h2
  have hms:∀s∈p.mov.map (·.frm),s.length<=1048576:=by
   intro s hs;obtain ⟨m,hm,rfl⟩:=List.mem_map.1 hs;exact (h4 m hm).1
  refine rc (den_rising L _ hml hms) ?_;cases e3:jci (p.mov.map (·.frm))
  ·exact za
  ·refine rc (jkm old.cls _ _ _ o1 fun c hc=>den_mov1 L old p ho0 hp0 c (o3 c hc)) ?_;cases e4:old.cls.any fun c=>(next old p c.code).isNone
   ·exact za
   ·exact za
end Go.Arc
