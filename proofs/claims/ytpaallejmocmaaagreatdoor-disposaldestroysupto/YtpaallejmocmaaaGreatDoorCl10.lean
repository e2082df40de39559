/-
 What arguments of chapter 10 read as.
-/
import Derived.Test.YtpaallejmocmaaaGreatDoorCl8
import Derived.Test.YtpaallejmocmaaaGreatDoorBaS
namespace Go.Arc
open Go.Ab Go.RowKit Go.Proofs Go.ChangeShapes Go.WideShapes Go.ChangeAt Tryz
open Go.Proofs.YtpaallejmocmaaaGreatDoor.Rows (uptoBulk uptoBulkAll)
variable {H : Type}{enc : TypeId × Value -> H}{W : World}
variable {vs:List V}{m:Nat}
theorem qno:prog.cellsOf 109=7:=krq
theorem qkg(h:bd prog m 109 vs):∃q:Hld,vs=q.cs/\q.Fit:=by
 obtain⟨m',h⟩:=ep Tryz.underlying109 h;obtain⟨a0,b0,rfl,h0,a1,b1,rfl,h1,a2,b2,rfl,h2,a3,b3,rfl,h3,a4,b4,rfl,h4,a5,b5,rfl,h5,rfl⟩:=h;obtain⟨i0,rfl,-⟩:=be Tryz.underlying3 h0;obtain⟨i1,rfl,-⟩:=be Tryz.underlying3 h1;obtain⟨i2,rfl,-⟩:=be Tryz.underlying3 h2;obtain⟨s3,rfl,hs3⟩:=jm Tryz.underlying9 h3;obtain⟨s4,rfl,hs4⟩:=jm Tryz.underlying9 h4;obtain⟨m'',h5⟩:=ep Tryz.underlying54 h5;obtain⟨c0,d0,rfl,g0,c1,d1,rfl,g1,rfl⟩:=h5;obtain⟨frm,rfl,-⟩:=be Tryz.underlying3 g0;obtain⟨til,rfl,-⟩:=be Tryz.underlying3 g1;exact⟨⟨i0,i1,i2,s3,s4,frm,til⟩,rfl,hs3,hs4⟩
theorem qhg(h:bd prog m 26 vs):∃l:List Hld,vs=[hlds l]/\uj l:=by
 obtain⟨es,m3,rfl,hel,he⟩:=gt Tryz.underlying26 h;obtain⟨l,rfl,hl⟩:=gi (fun x hx=>qkg hx) es he;refine⟨l,?_,by simpa using hel,hl⟩;rw[qno]
end Go.Arc
