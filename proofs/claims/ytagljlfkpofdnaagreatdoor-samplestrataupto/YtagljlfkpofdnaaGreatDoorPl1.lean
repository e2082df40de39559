/- A part of this claim. -/
import Derived.Test.YtagljlfkpofdnaaGreatDoorW11
namespace Go.Arc
open Go.Ab
theorem good_all {l:List Plan} (h:goodL l=true):l.length<=16/\∀i,i<l.length->faultAt l i=0:=by
 have h0:(check l).2=0:=by simpa [goodL] using h
 by_cases h16:16<l.length
 ·rw[check_many h16] at h0; cases h0
 ·refine ⟨by omega,?_⟩;unfold check at h0;rw[if_neg h16] at h0;cases hb:bad l with
  | some i=>
   rw[hb] at h0;have:=List.find?_some hb;simp only at h0;rw[h0] at this;simp at this
  | none=>
   intro i hi;have:=List.find?_eq_none.1 hb i (by simpa using hi);simpa using this
theorem fault_zero {q:Option Plan} {i:Nat} {p:Plan} (h:fault q i p=0):p.ver=i+1/\goodS p.frm p.til=true/\(∀q',q=some q'->p.frm=q'.til)/\¬(128<p.cls.length\/128<p.mov.length)/\clsErr p=0/\
  (q=none->p.mov=[])/\∀q',q=some q'->movErr q' p=0:=by
 have hv:p.ver=i+1:=Decidable.byContradiction fun e=>by rw[fault_2 (.inl e)] at h; cases h
 have hg:goodS p.frm p.til=true:=by
  cases hg:goodS p.frm p.til
  ·rw[fault_2 (.inr hg)] at h; cases h
  ·rfl
 have h3:∀q',q=some q'->p.frm=q'.til:=fun q' e=>Decidable.byContradiction fun hne=>by rw[fault_16 hv hg e hne] at h; cases h
 have h4:¬(128<p.cls.length\/128<p.mov.length):=fun e=>by rw[fault_8 hv hg h3 e] at h; cases h
 have h5:clsErr p=0:=Decidable.byContradiction fun e=>by rw[fault_c hv hg h3 h4 e] at h; exact e h
 refine ⟨hv,hg,h3,h4,h5,fun e=> ?_,fun q' e=> ?_⟩
 ·subst e;rw[fault_n hv hg h4 h5] at h;split at h
  ·cases h
  ·exact List.eq_nil_of_length_eq_zero (by omega)
 ·subst e
  rwa [fault_m hv hg (h3 q' rfl) h4 h5] at h
theorem clsErr_zero {p:Plan} (h:clsErr p=0):(∀c∈p.cls,(parse c.code).isSome=true)/\(∀c∈p.cls,name c.title=true)/\rising (p.cls.map (·.code))=true/\∀c∈p.cls,orphan p c=false:=by
 unfold clsErr at h;split at h
 ·cases h
 split at h
 ·cases h
 split at h
 ·cases h
 split at h
 ·cases h
 rename_i h1 h2 h3 h4;refine ⟨fun c hc=> ?_,fun c hc=> ?_,?_,fun c hc=> ?_⟩
 ·cases e:(parse c.code).isSome
  ·exact absurd (List.any_eq_true.2 ⟨c,hc,by simp[e]⟩) h1
  ·rfl
 ·cases e:name c.title
  ·exact absurd (List.any_eq_true.2 ⟨c,hc,by simp[e]⟩) h2
  ·rfl
 ·simpa using h3
 ·cases e:orphan p c
  ·rfl
  ·exact absurd (List.any_eq_true.2 ⟨c,hc,e⟩) h4
theorem movErr_zero {q p:Plan} (h:movErr q p=0):(∀m∈p.mov,has q m.frm=true/\has p m.to=true)/\rising (p.mov.map (·.frm))=true/\∀c∈q.cls,(next q p c.code).isSome=true:=by
 unfold movErr at h;split at h
 ·cases h
 split at h
 ·cases h
 split at h
 ·cases h
 rename_i h1 h2 h3;refine ⟨fun m hm=> ?_,by simpa using h2,fun c hc=> ?_⟩
 ·cases e1:has q m.frm
  ·exact absurd (List.any_eq_true.2 ⟨m,hm,by simp[e1]⟩) h1
  ·cases e2:has p m.to
   ·exact absurd (List.any_eq_true.2 ⟨m,hm,by simp[e2]⟩) h1
   ·exact ⟨rfl,rfl⟩
 ·cases e:next q p c.code with
  | none=>exact absurd (List.any_eq_true.2 ⟨c,hc,by simp[e]⟩) h3
  | some x=>rfl
theorem pl_some {l:List Plan} {i:Nat} (h:i<l.length):l[i]? = some (pl l i):=by
 rw[List.getElem?_eq_getElem h]; simp[pl,h]
theorem good_at {l:List Plan} (h:goodL l=true) {i:Nat} (hi:i<l.length):(pl l i).ver=i+1/\goodS (pl l i).frm (pl l i).til=true/\clsErr (pl l i)=0:=by
 have:=(good_all h).2 i hi;unfold faultAt at this;rw[pl_some hi] at this;obtain ⟨h1,h2,-,-,h3,-⟩:=fault_zero this;exact ⟨h1,h2,h3⟩
theorem good_next {l:List Plan} (h:goodL l=true) {i:Nat} (hi:i+1<l.length):(pl l (i+1)).frm=(pl l i).til/\movErr (pl l i) (pl l (i+1))=0:=by
 have:=(good_all h).2 (i+1) hi;unfold faultAt at this;rw[pl_some hi] at this;obtain ⟨-,-,h1,-,-,-,h2⟩:=fault_zero this
 have hb:before l (i+1)=some (pl l i):=by
  unfold before;rw[if_neg (by omega),Nat.add_sub_cancel,pl_some (by omega)]
 exact ⟨h1 _ hb,h2 _ hb⟩
theorem up_has {p:Plan} {s x:Str} (h:up p s=some x):has p x=true:=by
 unfold up at h;split at h
 ·cases h; assumption
 ·split at h
  ·cases h
  ·rename_i l hl
   have:∀n,climbN p l n=some x->has p x=true:=by
    intro n
    induction n with
    | zero=>intro h; cases h
    | succ n ih=>
     intro h;simp only[climbN] at h;split at h
     ·cases h; assumption
     ·exact ih h
   exact this _ h
theorem next_has {q p:Plan} {s:Str} (hm:movErr q p=0) (hs:has q s=true):∃x,next q p s=some x/\has p x=true:=by
 obtain ⟨h1,-,h3⟩:=movErr_zero hm;obtain ⟨c,hc,rfl⟩:=has_iff.1 hs;have:=h3 c hc;cases hn:next q p c.code with
 | none=>rw[hn] at this; cases this
 | some x=>
  refine ⟨x,rfl,?_⟩;unfold next at hn;rw[if_pos hs] at hn;split at hn
  ·rename_i m hf;cases hn;exact (h1 m (List.mem_of_find?_eq_some hf)).2
  ·exact up_has hn
theorem nxt_has {q p:Plan} {s:Str} (hm:movErr q p=0) (hs:has q s=true):has p (nxt q p s)=true:=by
 obtain ⟨x,h,hx⟩:=next_has hm hs;unfold nxt;rw[h]; exact hx
theorem walk_has {l:List Plan} (h:goodL l=true):∀(n i:Nat) (s:Str),i+n<l.length->has (pl l i) s=true->has (pl l (i+n)) (walkN l i n s)=true
 | 0,i,s,_,hs=>hs
 | n+1,i,s,hi,hs=>by
  have:=walk_has h n (i+1) _ (by omega) (nxt_has (good_next h (show i+1<l.length by omega)).2 hs);rw[show i+(n+1)=i+1+n by omega];exact this
theorem walkI_has {l:List Plan} {f m:Int} {s:Str} (h1:versErr l f m=0) (hs:has (pl l (f-1).toNat) s=true):has (pl l (m-1).toNat) (walkI l f m s)=true:=by
 obtain ⟨hg,a1,a2,a3⟩:=versErr_z h1;have:=walk_has hg (m-f).toNat (f-1).toNat s (by omega) hs;rw[show (f-1).toNat+(m-f).toNat=(m-1).toNat by omega] at this;exact this
theorem idx_cases (l:List Plan) (d:Int):(idx l d= -1/\∀i,i<l.length->inS (pl l i).frm (pl l i).til d=false)\/∃i:Nat,idx l d=i/\i<l.length/\inS (pl l i).frm (pl l i).til d=true:=by
 rcases ix_find (fun p:Plan=>inS p.frm p.til d) l with ⟨h1,h2⟩ | ⟨k,x,h1,h2,h3,-,h5⟩
 ·refine .inl ⟨h1,fun i hi=> ?_⟩;rw[List.find?_eq_none] at h2;have:=h2 (pl l i) (List.mem_of_getElem? (pl_some hi));simpa using this
 ·exact .inr ⟨k,h1,h2,by rw[pl_at h3]; exact h5⟩
end Go.Arc
