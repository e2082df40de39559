/- A part of this claim. -/
import Derived.Test.YtdljpbdmcgmalaaGreatDoorW11
namespace Go.Arc
open Go.Ab
theorem pl_some {l:List Plan} {i:Nat} (h:i<l.length):l[i]? = some (pl l i):=by
 rw[gge h]; simp[pl,h]
theorem idx_cases (l:List Plan) (d:Int):(idx l d= -1/\∀i,i<l.length->inS (pl l i).frm (pl l i).til d=false)\/∃i:Nat,idx l d=i/\i<l.length/\inS (pl l i).frm (pl l i).til d=true:=by
 rcases ix_find (fun p:Plan=>inS p.frm p.til d) l with ⟨h1,h2⟩ | ⟨k,x,h1,h2,h3,-,h5⟩
 ·refine .inl ⟨h1,fun i hi=> ?_⟩;rw[List.find?_eq_none] at h2;have:=h2 (pl l i) (List.mem_of_getElem? (pl_some hi));exact zcw
 ·exact .inr ⟨k,h1,h2,by rw[pl_at h3]; exact h5⟩
end Go.Arc
