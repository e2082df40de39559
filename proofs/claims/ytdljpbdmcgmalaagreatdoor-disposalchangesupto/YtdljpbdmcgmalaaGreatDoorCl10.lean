/-
 What arguments of chapter 10 read as.
-/
import Derived.Test.YtdljpbdmcgmalaaGreatDoorCl8
import Derived.Test.YtdljpbdmcgmalaaGreatDoorBaS
namespace Go.Arc
open Go.Ab Go.RowKit Go.Proofs Go.ChangeShapes Go.WideShapes Go.ChangeAt Tryz
open Go.Proofs.YtdljpbdmcgmalaaGreatDoor.Rows (uptoBulk uptoBulkAll)
variable {H : Type} {enc : TypeId × Value -> H} {W : World}
theorem cells_hld:prog.cellsOf 113=7:=kr
theorem typed_hld {m:Nat} {vs:List V} (h:jam prog m 113 vs):∃q:Hld,vs=q.cs/\q.Fit:=by
 obtain ⟨m',h⟩:=jcd Tryz.underlying113 h;obtain ⟨a0,b0,rfl,h0,a1,b1,rfl,h1,a2,b2,rfl,h2,a3,b3,rfl,h3,a4,b4,rfl,h4,a5,b5,rfl,h5,rfl⟩:=h;obtain ⟨i0,rfl,-⟩:=jan Tryz.underlying3 h0;obtain ⟨i1,rfl,-⟩:=jan Tryz.underlying3 h1;obtain ⟨i2,rfl,-⟩:=jan Tryz.underlying3 h2;obtain ⟨s3,rfl,hs3⟩:=jdx Tryz.underlying9 h3;obtain ⟨s4,rfl,hs4⟩:=jdx Tryz.underlying9 h4;obtain ⟨m'',h5⟩:=jcd Tryz.underlying65 h5;obtain ⟨c0,d0,rfl,g0,c1,d1,rfl,g1,rfl⟩:=h5;obtain ⟨frm,rfl,-⟩:=jan Tryz.underlying3 g0;obtain ⟨til,rfl,-⟩:=jan Tryz.underlying3 g1;exact ⟨⟨i0,i1,i2,s3,s4,frm,til⟩,rfl,hs3,hs4⟩
theorem typed_hlds {m:Nat} {vs:List V} (h:jam prog m 26 vs):∃l:List Hld,vs=[hlds l]/\FitsH l:=by
 obtain ⟨es,m3,rfl,hel,he⟩:=jd9 Tryz.underlying26 h;obtain ⟨l,rfl,hl⟩:=jd3 (fun x hx=>typed_hld hx) es he;refine ⟨l,?_,by simpa using hel,hl⟩;rw[cells_hld]
end Go.Arc
