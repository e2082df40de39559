/-
 What arguments of chapter 10 read as.
-/
import Derived.Test.YtagljlfkpofdnaaGreatDoorCl8
import Derived.Test.YtagljlfkpofdnaaGreatDoorBaS
namespace Go.Arc
open Go.Ab Go.RowKit Go.Proofs Go.ChangeShapes Go.WideShapes Go.ChangeAt
open Go.Proofs.YtagljlfkpofdnaaGreatDoor.Rows (uptoBulk uptoBulkAll)
variable {H : Type} {enc : TypeId × Value -> H} {W : World}
theorem cells_hld:Tryz.prog.cellsOf 132=7:=by kernel_rfl
theorem typed_hld {m:Nat} {vs:List V} (h:typed Tryz.prog m 132 vs):∃q:Hld,vs=q.cs/\q.Fit:=by
 obtain ⟨m',h⟩:=typed_struct Tryz.underlying132 h;obtain ⟨a0,b0,rfl,h0,a1,b1,rfl,h1,a2,b2,rfl,h2,a3,b3,rfl,h3,a4,b4,rfl,h4,a5,b5,rfl,h5,rfl⟩:=h;obtain ⟨i0,rfl,-⟩:=typed_int Tryz.underlying3 h0;obtain ⟨i1,rfl,-⟩:=typed_int Tryz.underlying3 h1;obtain ⟨i2,rfl,-⟩:=typed_int Tryz.underlying3 h2;obtain ⟨s3,rfl,hs3⟩:=typed_str Tryz.underlying9 h3;obtain ⟨s4,rfl,hs4⟩:=typed_str Tryz.underlying9 h4;obtain ⟨m'',h5⟩:=typed_struct Tryz.underlying106 h5;obtain ⟨c0,d0,rfl,g0,c1,d1,rfl,g1,rfl⟩:=h5;obtain ⟨frm,rfl,-⟩:=typed_int Tryz.underlying3 g0;obtain ⟨til,rfl,-⟩:=typed_int Tryz.underlying3 g1;exact ⟨⟨i0,i1,i2,s3,s4,frm,til⟩,rfl,hs3,hs4⟩
theorem typed_hlds {m:Nat} {vs:List V} (h:typed Tryz.prog m 26 vs):∃l:List Hld,vs=[hlds l]/\FitsH l:=by
 obtain ⟨es,m3,rfl,hel,he⟩:=typed_slice Tryz.underlying26 h;obtain ⟨l,rfl,hl⟩:=map_of (fun x hx=>typed_hld hx) es he;refine ⟨l,?_,by simpa using hel,hl⟩;rw[cells_hld]
end Go.Arc
