/- A part of this claim. -/
import Derived.Test.YtagljlfkpofdnaaGreatDoorWL
import Derived.Test.YtagljlfkpofdnaaGreatDoorBaS
set_option maxRecDepth 100000
namespace Go.Arc
open Go.Ab Go.RowKit Go.Proofs
variable {T : Lay}
theorem quoted_iff:∀s:Str,(0<=Lib.indexByte s 34)↔quoted s=true
 | []=>by simp[Lib.indexByte,quoted]
 | b::r=>by
  have ih:=quoted_iff r;have hg:=Lib.indexByte_ge r 34;have e:Lib.indexByte (b::r) 34=if (b == 34)=true then 0 else if (Lib.indexByte r 34 == -1)=true then -1 else Lib.indexByte r 34+1:=rfl
  have q:quoted (b::r)=((b == 34) || quoted r):=rfl;rw[e,q];by_cases hb:(b == 34)=true
  ·rw[if_pos hb,hb]; simp
  ·have hb':(b == 34)=false:=by simpa using hb
   rw[if_neg hb,hb',Bool.false_or,<- ih];by_cases h1:Lib.indexByte r 34= -1
   ·rw[if_pos (by simp[h1]),h1]
   ·rw[if_neg (by simp[h1])];omega
theorem quoted_idx (s:Str):decide (0<=Lib.indexByte s 34)=quoted s:=by
 cases h:quoted s
 ·have:¬ 0<=Lib.indexByte s 34:=fun g=>by rw[(quoted_iff s).1 g] at h; cases h
  simpa using this
 ·simpa using (quoted_iff s).2 h
theorem lib_quote (s:Str):Den Tryz.prog T 83 [.str s,.str [34]] (vb (quoted s)):=by
 refine ⟨fun args w=>Tryz.call83 args w,fun w F xs hF hl hx=> ?_⟩;obtain ⟨x,y,rfl,h1,h2⟩:=reps2 hx;obtain rfl:=rep_str_inv h1;obtain rfl:=rep_str_inv h2;refine (Any.strings_Contains_one Tryz.lays144 ⟨s.toArray⟩ 34 w).mono ?_;rintro e w' ⟨rfl,rfl⟩;refine ⟨_,_,rfl,Ext.refl hF,?_⟩;have:=quoted_idx s;rw[<- this];exact .val _
end Go.Arc
