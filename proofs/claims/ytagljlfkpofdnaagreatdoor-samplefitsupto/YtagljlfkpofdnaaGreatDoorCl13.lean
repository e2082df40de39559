/-
 What an appraisal reads as.
-/
import Derived.Test.YtagljlfkpofdnaaGreatDoorCl11
import Derived.Test.YtagljlfkpofdnaaGreatDoorBaU
set_option maxRecDepth 100000
namespace Go.Arc
open Go.Ab Go.RowKit Go.Proofs Go.ChangeShapes Go.WideShapes Go.ChangeAt
open Go.Proofs.YtagljlfkpofdnaaGreatDoor.Rows (uptoBulk uptoBulkAll)
variable {H : Type} {enc : TypeId × Value -> H} {W : World}
theorem typed_smp {m:Nat} {vs:List V} (h:typed Tryz.prog m 36 vs):∃q:Smp,vs=q.cs/\q.cls.length<=1048576/\q.seed.length<=1048576:=by
 obtain ⟨m',h⟩:=typed_struct Tryz.underlying36 h;obtain ⟨a0,b0,rfl,h0,a1,b1,rfl,h1,a2,b2,rfl,h2,a3,b3,rfl,h3,a4,b4,rfl,h4,a5,b5,rfl,h5,rfl⟩:=h;obtain ⟨i0,rfl,-⟩:=typed_int Tryz.underlying3 h0;obtain ⟨i1,rfl,-⟩:=typed_int Tryz.underlying3 h1;obtain ⟨i2,rfl,-⟩:=typed_int Tryz.underlying3 h2;obtain ⟨i3,rfl,-⟩:=typed_int Tryz.underlying3 h3;obtain ⟨s4,rfl,hs4⟩:=typed_str Tryz.underlying9 h4;obtain ⟨s5,rfl,hs5⟩:=typed_str Tryz.underlying9 h5;exact ⟨⟨i0,i1,i2,i3,s4,s5⟩,rfl,hs4,hs5⟩
theorem okT_smp:okT Tryz.prog 8 36=true:=by kernel_rfl
theorem op_smp {b:Nat} {v:Value} {d:DataW H} {p:List MemPlace} (hv:Value.okWide Tryz.prog W .any b 36 v) (h:DataW.Trod enc Tryz.prog W 0 (fun _=>true) true 36 v d p) (hb:uptoBulk d<=1048576):
  ∃q:Smp,Rep (fw W) (.agg q.cs) v/\q.cls.length<=1048576/\q.seed.length<=1048576:=by
 obtain ⟨cs,rfl,-⟩:=okWide_struct Tryz.underlying36 hv;obtain ⟨fuel,h⟩:=h;obtain ⟨vs,h1,h2⟩:=trod_typed 8 fuel _ _ (d,p) h okT_smp hb;obtain ⟨q,rfl,hq⟩:=typed_smp h1;exact ⟨q,.agg h2.len.symm h2.one fun j c x e1 e2=>h2.rep j c x e1 (by show cs.toList[j]? = some x; simpa using e2),hq⟩
end Go.Arc
