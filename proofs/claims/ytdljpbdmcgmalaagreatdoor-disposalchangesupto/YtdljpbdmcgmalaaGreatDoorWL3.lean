/- A part of this claim. -/
import Derived.Test.YtdljpbdmcgmalaaGreatDoorWL
set_option maxRecDepth 100000
namespace Go.Arc
open Go.Ab Go.RowKit Go.Proofs Tryz
variable {T : Lay}
theorem rep0:∀n:Nat,Lib.repeatL [0] n=List.replicate n 0
 | 0=>rfl
 | n+1=>by
  have ih:=rep0 n;rw[List.replicate_succ,<- ih];rfl
theorem jrb (_L:LibT T) (n:Nat) (h:n<=1048576):Den prog T 129 [.str [0],vi n] (.str (List.replicate n 0)):=by
 refine ⟨fun args w=>call129 args w,fun w F xs hF hlay hx=> ?_⟩;obtain ⟨x,y,rfl,h1,h2⟩:=reps2 hx;obtain rfl:=jbg h1;obtain rfl:=ja8 h2;refine (Any.strings_Repeat Tryz.lays105 Tryz.Builder_Extra_105 ⟨[0].toArray⟩ n w om (by show 1*n<=_; omega)).mono ?_;rintro e w' ⟨rfl,hbe⟩;refine ⟨_,F,rfl,jij hF hbe,?_⟩;have:=rep0 n;rw[<- this];exact .str _
end Go.Arc
