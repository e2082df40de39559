/- A part of this claim. -/
import Derived.Test.YtnmclbgpndpedaaGreatDoorWL
import Derived.Test.YtnmclbgpndpedaaGreatDoorBaS
set_option maxRecDepth 100000
namespace Go.Arc
open Go.Ab Go.RowKit Go.Proofs Tryz
variable {T : Lay}
theorem jp7:∀s:Str,(0<=Lib.indexByte s 34)↔jbo s=true
 | []=>by simp[Lib.indexByte,jbo]
 | b::r=>by
  have ih:=jp7 r;have hg:=Lib.indexByte_ge r 34;have e:Lib.indexByte (b::r) 34=if (b == 34)=true then 0 else if (Lib.indexByte r 34 == -1)=true then -1 else Lib.indexByte r 34+1:=rfl
  have q:jbo (b::r)=((b == 34) || jbo r):=rfl;rw[e,q];by_cases hb:(b == 34)=true
  ·rw[if_pos hb,hb]; simp
  ·have hb':(b == 34)=false:=by simpa using hb
   rw[if_neg hb,hb',Bool.false_or,<- ih];by_cases h1:Lib.indexByte r 34= -1
   ·rw[if_pos (by simp[h1]),h1]
   ·rw[if_neg (by simp[h1])];omega
theorem quoted_idx (s:Str):decide (0<=Lib.indexByte s 34)=jbo s:=by
 cases h:jbo s
 ·have:¬ 0<=Lib.indexByte s 34:=fun g=>by rw[(jp7 s).1 g] at h; cases h
  simpa using this
 ·simpa using (jp7 s).2 h
theorem jkv (s:Str):Den prog T 140 [.str s,.str [34]] (vb (jbo s)):=by
 refine ⟨fun args w=>call140 args w,fun w F xs hF hl hx=> ?_⟩;obtain ⟨x,y,rfl,h1,h2⟩:=reps2 hx;obtain rfl:=cq h1;obtain rfl:=cq h2;refine (Any.strings_Contains_one Tryz.lays144 ⟨s.toArray⟩ 34 w).mono ?_;rintro e w' ⟨rfl,rfl⟩;refine ⟨_,_,rfl,Ext.refl hF,?_⟩;have:=quoted_idx s;rw[<- this];exact .val _
end Go.Arc
