/-
 What arguments of chapter 08 read as.
-/
import Derived.Test.YtdljpbdmcgmalaaGreatDoorCl0
import Derived.Test.YtdljpbdmcgmalaaGreatDoorSp8
import Derived.Test.YtdljpbdmcgmalaaGreatDoorSp6
namespace Go.Arc
open Go.Ab Go.RowKit Go.Proofs Go.ChangeShapes Go.WideShapes Go.ChangeAt Tryz
open Go.Proofs.YtdljpbdmcgmalaaGreatDoor.Rows (uptoBulk uptoBulkAll)
variable {H : Type} {enc : TypeId × Value -> H} {W : World}
theorem cells_note:prog.cellsOf 191=4:=kr
theorem typed_note {m:Nat} {vs:List V} (h:jam prog m 191 vs):∃n:Note,vs=n.cs/\n.Fit:=by
 obtain ⟨m',h⟩:=jcd Tryz.underlying191 h;obtain ⟨a0,b0,rfl,h0,a1,b1,rfl,h1,a2,b2,rfl,h2,rfl⟩:=h;obtain ⟨s,rfl,hs⟩:=jdx Tryz.underlying9 h0;obtain ⟨m'',h1⟩:=jcd Tryz.underlying189 h1;obtain ⟨c0,d0,rfl,g0,c1,d1,rfl,g1,rfl⟩:=h1;obtain ⟨fst,rfl,-⟩:=jan Tryz.underlying3 g0;obtain ⟨lst,rfl,-⟩:=jan Tryz.underlying3 g1;obtain ⟨rcd,rfl,-⟩:=jan Tryz.underlying3 h2;exact ⟨⟨s,fst,lst,rcd⟩,rfl,hs⟩
theorem typed_fil {m:Nat} {vs:List V} (h:jam prog m 109 vs):∃f:Fil,vs=f.cs/\f.Fit:=by
 obtain ⟨m',h⟩:=jcd Tryz.underlying109 h;obtain ⟨a0,b0,rfl,h0,a1,b1,rfl,h1,a2,b2,rfl,h2,a3,b3,rfl,h3,a4,b4,rfl,h4,a5,b5,rfl,h5,a6,b6,rfl,h6,a7,b7,rfl,h7,rfl⟩:=h;obtain ⟨i0,rfl,-⟩:=jan Tryz.underlying3 h0;obtain ⟨i1,rfl,-⟩:=jan Tryz.underlying3 h1;obtain ⟨i2,rfl,-⟩:=jan Tryz.underlying3 h2;obtain ⟨i3,rfl,-⟩:=jan Tryz.underlying3 h3;obtain ⟨s4,rfl,hs4⟩:=jdx Tryz.underlying9 h4;obtain ⟨s5,rfl,hs5⟩:=jdx Tryz.underlying9 h5;obtain ⟨i6,rfl,-⟩:=jan Tryz.underlying3 h6;obtain ⟨es,m3,rfl,hel,he⟩:=jd9 Tryz.underlying107 h7;obtain ⟨ns,rfl,hn⟩:=jd3 (fun x hx=>typed_note hx) es he;refine ⟨⟨i0,i1,i2,i3,s4,s5,i6,ns⟩,?_,hs4,hs5,by simpa using hel,hn⟩;rw[cells_note]; rfl
theorem cells_fil:prog.cellsOf 109=8:=kr
theorem cells_ofc:prog.cellsOf 100=5:=kr
theorem jmy:prog.cellsOf 3=1:=kr
theorem jm3 {m:Nat} {vs:List V} (h:jam prog m 3 vs):∃n:Int,vs=Cint n/\True:=by
 obtain ⟨n,rfl,-⟩:=jan Tryz.underlying3 h;exact ⟨n,rfl,trivial⟩
theorem typed_ofc {m:Nat} {vs:List V} (h:jam prog m 100 vs):∃o:Ofc,vs=o.cs/\o.Fit:=by
 obtain ⟨m',h⟩:=jcd Tryz.underlying100 h;obtain ⟨a0,b0,rfl,h0,a1,b1,rfl,h1,a2,b2,rfl,h2,a3,b3,rfl,h3,rfl⟩:=h;obtain ⟨i0,rfl,-⟩:=jan Tryz.underlying3 h0;obtain ⟨s1,rfl,hs1⟩:=jdx Tryz.underlying9 h1;obtain ⟨m'',h2⟩:=jcd Tryz.underlying65 h2;obtain ⟨c0,d0,rfl,g0,c1,d1,rfl,g1,rfl⟩:=h2;obtain ⟨frm,rfl,-⟩:=jan Tryz.underlying3 g0;obtain ⟨til,rfl,-⟩:=jan Tryz.underlying3 g1;obtain ⟨es,m3,rfl,hel,he⟩:=jd9 Tryz.underlying35 h3;obtain ⟨ns,rfl,hn⟩:=jd3 (fun x hx=>jm3 hx) es he;refine ⟨⟨i0,s1,frm,til,ns⟩,?_,hs1,by simpa using hel⟩;rw[jmy]; rfl
theorem typed_ofcs {m:Nat} {vs:List V} (h:jam prog m 22 vs):∃l:List Ofc,vs=[ofcs l]/\jdw l:=by
 obtain ⟨es,m3,rfl,hel,he⟩:=jd9 Tryz.underlying22 h;obtain ⟨l,rfl,hl⟩:=jd3 (fun x hx=>typed_ofc hx) es he;refine ⟨l,?_,by simpa using hel,hl⟩;rw[cells_ofc]
theorem typed_fils {m:Nat} {vs:List V} (h:jam prog m 24 vs):∃l:List Fil,vs=[fils l]/\FitsF l:=by
 obtain ⟨es,m3,rfl,hel,he⟩:=jd9 Tryz.underlying24 h;obtain ⟨l,rfl,hl⟩:=jd3 (fun x hx=>typed_fil hx) es he;refine ⟨l,?_,by simpa using hel,hl⟩;rw[cells_fil]
end Go.Arc
