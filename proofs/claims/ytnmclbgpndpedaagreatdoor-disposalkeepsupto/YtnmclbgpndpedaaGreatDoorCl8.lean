/-
 What arguments of chapter 08 read as.
-/
import Derived.Test.YtnmclbgpndpedaaGreatDoorCl0
import Derived.Test.YtnmclbgpndpedaaGreatDoorSp8
import Derived.Test.YtnmclbgpndpedaaGreatDoorSp6
namespace Go.Arc
open Go.Ab Go.RowKit Go.Proofs Go.ChangeShapes Go.WideShapes Go.ChangeAt Tryz
open Go.Proofs.YtnmclbgpndpedaaGreatDoor.Rows (uptoBulk uptoBulkAll)
variable {H : Type} {enc : TypeId × Value -> H} {W : World}
theorem cells_note:Tryz.prog.cellsOf 184=4:=by kernel_rfl
theorem typed_note {m:Nat} {vs:List V} (h:bc prog m 184 vs):∃n:Note,vs=n.cs/\n.Fit:=by
 obtain ⟨m',h⟩:=jaa underlying184 h;obtain ⟨a0,b0,rfl,h0,a1,b1,rfl,h1,a2,b2,rfl,h2,rfl⟩:=h;obtain ⟨s,rfl,hs⟩:=jbv underlying9 h0;obtain ⟨m'',h1⟩:=jaa underlying155 h1;obtain ⟨c0,d0,rfl,g0,c1,d1,rfl,g1,rfl⟩:=h1;obtain ⟨fst,rfl,-⟩:=bd underlying3 g0;obtain ⟨lst,rfl,-⟩:=bd underlying3 g1;obtain ⟨rcd,rfl,-⟩:=bd underlying3 h2;exact ⟨⟨s,fst,lst,rcd⟩,rfl,hs⟩
theorem typed_fil {m:Nat} {vs:List V} (h:bc prog m 86 vs):∃f:Fil,vs=f.cs/\f.Fit:=by
 obtain ⟨m',h⟩:=jaa underlying86 h;obtain ⟨a0,b0,rfl,h0,a1,b1,rfl,h1,a2,b2,rfl,h2,a3,b3,rfl,h3,a4,b4,rfl,h4,a5,b5,rfl,h5,a6,b6,rfl,h6,a7,b7,rfl,h7,rfl⟩:=h;obtain ⟨i0,rfl,-⟩:=bd underlying3 h0;obtain ⟨i1,rfl,-⟩:=bd underlying3 h1;obtain ⟨i2,rfl,-⟩:=bd underlying3 h2;obtain ⟨i3,rfl,-⟩:=bd underlying3 h3;obtain ⟨s4,rfl,hs4⟩:=jbv underlying9 h4;obtain ⟨s5,rfl,hs5⟩:=jbv underlying9 h5;obtain ⟨i6,rfl,-⟩:=bd underlying3 h6;obtain ⟨es,m3,rfl,hel,he⟩:=jax underlying84 h7;obtain ⟨ns,rfl,hn⟩:=jaq (fun x hx=>typed_note hx) es he;refine ⟨⟨i0,i1,i2,i3,s4,s5,i6,ns⟩,?_,hs4,hs5,by simpa using hel,hn⟩;rw[cells_note]; rfl
theorem cells_fil:Tryz.prog.cellsOf 86=8:=by kernel_rfl
theorem cells_ofc:Tryz.prog.cellsOf 112=5:=by kernel_rfl
theorem jnv:Tryz.prog.cellsOf 3=1:=by kernel_rfl
theorem jmz {m:Nat} {vs:List V} (h:bc prog m 3 vs):∃n:Int,vs=Cint n/\True:=by
 obtain ⟨n,rfl,-⟩:=bd underlying3 h;exact ⟨n,rfl,trivial⟩
theorem typed_ofc {m:Nat} {vs:List V} (h:bc prog m 112 vs):∃o:Ofc,vs=o.cs/\o.Fit:=by
 obtain ⟨m',h⟩:=jaa underlying112 h;obtain ⟨a0,b0,rfl,h0,a1,b1,rfl,h1,a2,b2,rfl,h2,a3,b3,rfl,h3,rfl⟩:=h;obtain ⟨i0,rfl,-⟩:=bd underlying3 h0;obtain ⟨s1,rfl,hs1⟩:=jbv underlying9 h1;obtain ⟨m'',h2⟩:=jaa underlying54 h2;obtain ⟨c0,d0,rfl,g0,c1,d1,rfl,g1,rfl⟩:=h2;obtain ⟨frm,rfl,-⟩:=bd underlying3 g0;obtain ⟨til,rfl,-⟩:=bd underlying3 g1;obtain ⟨es,m3,rfl,hel,he⟩:=jax underlying40 h3;obtain ⟨ns,rfl,hn⟩:=jaq (fun x hx=>jmz hx) es he;refine ⟨⟨i0,s1,frm,til,ns⟩,?_,hs1,by simpa using hel⟩;rw[jnv]; rfl
theorem typed_ofcs {m:Nat} {vs:List V} (h:bc prog m 22 vs):∃l:List Ofc,vs=[ofcs l]/\jeo l:=by
 obtain ⟨es,m3,rfl,hel,he⟩:=jax underlying22 h;obtain ⟨l,rfl,hl⟩:=jaq (fun x hx=>typed_ofc hx) es he;refine ⟨l,?_,by simpa using hel,hl⟩;rw[cells_ofc]
theorem typed_fils {m:Nat} {vs:List V} (h:bc prog m 24 vs):∃l:List Fil,vs=[fils l]/\FitsF l:=by
 obtain ⟨es,m3,rfl,hel,he⟩:=jax underlying24 h;obtain ⟨l,rfl,hl⟩:=jaq (fun x hx=>typed_fil hx) es he;refine ⟨l,?_,by simpa using hel,hl⟩;rw[cells_fil]
end Go.Arc
