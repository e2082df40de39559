/- A part of this claim. -/
import Derived.Test.YtkmmdckcdgopgaaGreatDoorBaS
namespace Go.Arc
open Go.Ab
theorem prevH_0 (l:List Hld) (h:Hld):prevH l 0 h=false:=by unfold prevH; rw[if_pos rfl]
theorem prevH_s {l:List Hld} {i:Nat} {h q:Hld} (h0:i≠0) (hq:l[i-1]? = some q):prevH l i h=decide (h.id≤q.id):=by unfold prevH; rw[if_neg h0,hq]
end Go.Arc
