/-
 What arguments of chapter 08 read as.
-/
import Derived.Test.YtagljlfkpofdnaaGreatDoorCl0
import Derived.Test.YtagljlfkpofdnaaGreatDoorSp8
import Derived.Test.YtagljlfkpofdnaaGreatDoorSp6
namespace Go.Arc
open Go.Ab Go.RowKit Go.Proofs Go.ChangeShapes Go.WideShapes Go.ChangeAt
open Go.Proofs.YtagljlfkpofdnaaGreatDoor.Rows (uptoBulk uptoBulkAll)
variable {H : Type} {enc : TypeId × Value -> H} {W : World}
theorem cells_note:Tryz.prog.cellsOf 128=4:=by kernel_rfl
theorem typed_note {m:Nat} {vs:List V} (h:typed Tryz.prog m 128 vs):∃n:Note,vs=n.cs/\n.Fit:=by
 obtain ⟨m',h⟩:=typed_struct Tryz.underlying128 h;obtain ⟨a0,b0,rfl,h0,a1,b1,rfl,h1,a2,b2,rfl,h2,rfl⟩:=h;obtain ⟨s,rfl,hs⟩:=typed_str Tryz.underlying9 h0;obtain ⟨m'',h1⟩:=typed_struct Tryz.underlying126 h1;obtain ⟨c0,d0,rfl,g0,c1,d1,rfl,g1,rfl⟩:=h1;obtain ⟨fst,rfl,-⟩:=typed_int Tryz.underlying3 g0;obtain ⟨lst,rfl,-⟩:=typed_int Tryz.underlying3 g1;obtain ⟨rcd,rfl,-⟩:=typed_int Tryz.underlying3 h2;exact ⟨⟨s,fst,lst,rcd⟩,rfl,hs⟩
theorem typed_fil {m:Nat} {vs:List V} (h:typed Tryz.prog m 53 vs):∃f:Fil,vs=f.cs/\f.Fit:=by
 obtain ⟨m',h⟩:=typed_struct Tryz.underlying53 h;obtain ⟨a0,b0,rfl,h0,a1,b1,rfl,h1,a2,b2,rfl,h2,a3,b3,rfl,h3,a4,b4,rfl,h4,a5,b5,rfl,h5,a6,b6,rfl,h6,a7,b7,rfl,h7,rfl⟩:=h;obtain ⟨i0,rfl,-⟩:=typed_int Tryz.underlying3 h0;obtain ⟨i1,rfl,-⟩:=typed_int Tryz.underlying3 h1;obtain ⟨i2,rfl,-⟩:=typed_int Tryz.underlying3 h2;obtain ⟨i3,rfl,-⟩:=typed_int Tryz.underlying3 h3;obtain ⟨s4,rfl,hs4⟩:=typed_str Tryz.underlying9 h4;obtain ⟨s5,rfl,hs5⟩:=typed_str Tryz.underlying9 h5;obtain ⟨i6,rfl,-⟩:=typed_int Tryz.underlying3 h6;obtain ⟨es,m3,rfl,hel,he⟩:=typed_slice Tryz.underlying51 h7;obtain ⟨ns,rfl,hn⟩:=map_of (fun x hx=>typed_note hx) es he;refine ⟨⟨i0,i1,i2,i3,s4,s5,i6,ns⟩,?_,hs4,hs5,by simpa using hel,hn⟩;rw[cells_note]; rfl
theorem cells_fil:Tryz.prog.cellsOf 53=8:=by kernel_rfl
theorem cells_ofc:Tryz.prog.cellsOf 119=5:=by kernel_rfl
theorem cells_int:Tryz.prog.cellsOf 3=1:=by kernel_rfl
theorem typed_int1 {m:Nat} {vs:List V} (h:typed Tryz.prog m 3 vs):∃n:Int,vs=Cint n/\True:=by
 obtain ⟨n,rfl,-⟩:=typed_int Tryz.underlying3 h;exact ⟨n,rfl,trivial⟩
theorem typed_ofc {m:Nat} {vs:List V} (h:typed Tryz.prog m 119 vs):∃o:Ofc,vs=o.cs/\o.Fit:=by
 obtain ⟨m',h⟩:=typed_struct Tryz.underlying119 h;obtain ⟨a0,b0,rfl,h0,a1,b1,rfl,h1,a2,b2,rfl,h2,a3,b3,rfl,h3,rfl⟩:=h;obtain ⟨i0,rfl,-⟩:=typed_int Tryz.underlying3 h0;obtain ⟨s1,rfl,hs1⟩:=typed_str Tryz.underlying9 h1;obtain ⟨m'',h2⟩:=typed_struct Tryz.underlying106 h2;obtain ⟨c0,d0,rfl,g0,c1,d1,rfl,g1,rfl⟩:=h2;obtain ⟨frm,rfl,-⟩:=typed_int Tryz.underlying3 g0;obtain ⟨til,rfl,-⟩:=typed_int Tryz.underlying3 g1;obtain ⟨es,m3,rfl,hel,he⟩:=typed_slice Tryz.underlying39 h3;obtain ⟨ns,rfl,hn⟩:=map_of (fun x hx=>typed_int1 hx) es he;refine ⟨⟨i0,s1,frm,til,ns⟩,?_,hs1,by simpa using hel⟩;rw[cells_int]; rfl
theorem typed_ofcs {m:Nat} {vs:List V} (h:typed Tryz.prog m 22 vs):∃l:List Ofc,vs=[ofcs l]/\FitsO l:=by
 obtain ⟨es,m3,rfl,hel,he⟩:=typed_slice Tryz.underlying22 h;obtain ⟨l,rfl,hl⟩:=map_of (fun x hx=>typed_ofc hx) es he;refine ⟨l,?_,by simpa using hel,hl⟩;rw[cells_ofc]
theorem typed_fils {m:Nat} {vs:List V} (h:typed Tryz.prog m 24 vs):∃l:List Fil,vs=[fils l]/\FitsF l:=by
 obtain ⟨es,m3,rfl,hel,he⟩:=typed_slice Tryz.underlying24 h;obtain ⟨l,rfl,hl⟩:=map_of (fun x hx=>typed_fil hx) es he;refine ⟨l,?_,by simpa using hel,hl⟩;rw[cells_fil]
end Go.Arc
