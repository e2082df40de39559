/- A part of this claim. -/
import Derived.Test.YtdljpbdmcgmalaaGreatDoorWL
import Derived.Test.YtdljpbdmcgmalaaGreatDoorBaS
set_option maxRecDepth 100000
namespace Go.Arc
open Go.Ab Go.RowKit Go.Proofs Tryz
variable {T : Lay}
theorem jol:∀s:Str,(0<=Lib.indexByte s 34)↔jcj s=true
 | []=>by simp[Lib.indexByte,jcj]
 | b::r=>by
  have ih:=jol r;have hg:=Lib.indexByte_ge r 34;have e:Lib.indexByte (b::r) 34=if (b == 34)=true then 0 else if (Lib.indexByte r 34 == -1)=true then -1 else Lib.indexByte r 34+1:=rfl
  have q:jcj (b::r)=((b == 34) || jcj r):=rfl;rw[e,q];by_cases hb:(b == 34)=true
  ·rw[if_pos hb,hb]; simp
  ·have hb':(b == 34)=false:=by simpa using hb
   rw[if_neg hb,hb',Bool.false_or,<- ih];by_cases h1:Lib.indexByte r 34= -1
   ·rw[if_pos (by simp[h1]),h1]
   ·rw[if_neg (by simp[h1])];omega
theorem quoted_idx (s:Str):decide (0<=Lib.indexByte s 34)=jcj s:=by
 cases h:jcj s
 ·have:¬ 0<=Lib.indexByte s 34:=fun g=>by rw[(jol s).1 g] at h; cases h
  exact zcw
 ·simpa using (jol s).2 h
theorem jjk (s:Str):Den prog T 159 [.str s,.str [34]] (vb (jcj s)):=by
 refine ⟨fun args w=>call159 args w,fun w F xs hF hl hx=> ?_⟩;obtain ⟨x,y,rfl,h1,h2⟩:=reps2 hx;obtain rfl:=jbg h1;obtain rfl:=jbg h2;refine (Any.strings_Contains_one Tryz.lays144 ⟨s.toArray⟩ 34 w).mono ?_;rintro e w' ⟨rfl,rfl⟩;refine ⟨_,_,rfl,Ext.refl hF,?_⟩;have:=quoted_idx s;rw[<- this];exact .val _
end Go.Arc
