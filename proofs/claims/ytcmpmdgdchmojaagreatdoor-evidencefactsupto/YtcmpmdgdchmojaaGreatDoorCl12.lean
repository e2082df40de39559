/-
 What steps of explanations read as.
-/
import Derived.Test.YtcmpmdgdchmojaaGreatDoorCl11
set_option maxRecDepth 100000
namespace Go.Arc
open Go.Ab Go.RowKit Go.Proofs Go.ChangeShapes Go.WideShapes Go.ChangeAt
open Go.Proofs.YtcmpmdgdchmojaaGreatDoor.Rows (uptoBulk uptoBulkAll)
variable {H : Type} {enc : TypeId × Value → H} {W : World}
theorem typed_stp {m:Nat} {vs:List V} (h:typed Tryz.prog m 54 vs):∃q:Stp,vs=q.cs∧q.txt.length≤1048576:=by
 obtain ⟨m',h⟩:=typed_struct Tryz.underlying54 h
 obtain ⟨a0,b0,rfl,h0,a1,b1,rfl,h1,a2,b2,rfl,h2,a3,b3,rfl,h3,a4,b4,rfl,h4,rfl⟩:=h
 obtain ⟨i0,rfl,-⟩:=typed_int Tryz.underlying3 h0
 obtain ⟨i1,rfl,-⟩:=typed_int Tryz.underlying3 h1
 obtain ⟨i2,rfl,-⟩:=typed_int Tryz.underlying3 h2
 obtain ⟨i3,rfl,-⟩:=typed_int Tryz.underlying3 h3
 obtain ⟨s4,rfl,hs4⟩:=typed_str Tryz.underlying9 h4
 exact ⟨⟨i0,i1,i2,i3,s4⟩,rfl,hs4⟩
theorem okT_stp:okT Tryz.prog 8 54=true:=by kernel_rfl
theorem op_stp {b:Nat} {v:Value} {d:DataW H} {p:List MemPlace} (hv:Value.okWide Tryz.prog W .any b 54 v) (h:DataW.Trod enc Tryz.prog W 0 (fun _=>true) true 54 v d p) (hb:uptoBulk d≤1048576):
  ∃q:Stp,Rep (fw W) (.agg q.cs) v∧q.txt.length≤1048576:=by
 obtain ⟨cs,rfl,-⟩:=okWide_struct Tryz.underlying54 hv
 obtain ⟨fuel,h⟩:=h
 obtain ⟨vs,h1,h2⟩:=trod_typed 8 fuel _ _ (d,p) h okT_stp hb
 obtain ⟨q,rfl,hq⟩:=typed_stp h1
 exact ⟨q,.agg h2.len.symm h2.one fun j c x e1 e2=>h2.rep j c x e1 (by show cs.toList[j]? = some x; simpa using e2),hq⟩
end Go.Arc
