/-
 What arguments of chapter 08 read as.
-/
import Derived.Test.YtpaallejmocmaaaGreatDoorCl0
namespace Go.Arc
open Go.Ab Go.RowKit Go.Proofs Go.ChangeShapes Go.WideShapes Go.ChangeAt Tryz
open Go.Proofs.YtpaallejmocmaaaGreatDoor.Rows (uptoBulk uptoBulkAll)
variable {H : Type}{enc : TypeId × Value -> H}{W : World}
variable {vs:List V}{m:Nat}
theorem qjp:prog.cellsOf 173=4:=krq
theorem qhf(h:bd prog m 173 vs):∃n:Note,vs=n.cs/\n.Fit:=by
 obtain⟨m',h⟩:=ep Tryz.underlying173 h;obtain⟨a0,b0,rfl,h0,a1,b1,rfl,h1,a2,b2,rfl,h2,rfl⟩:=h;obtain⟨s,rfl,hs⟩:=jm Tryz.underlying9 h0;obtain⟨m'',h1⟩:=ep Tryz.underlying171 h1;obtain⟨c0,d0,rfl,g0,c1,d1,rfl,g1,rfl⟩:=h1;obtain⟨fst,rfl,-⟩:=be Tryz.underlying3 g0;obtain⟨lst,rfl,-⟩:=be Tryz.underlying3 g1;obtain⟨rcd,rfl,-⟩:=be Tryz.underlying3 h2;exact⟨⟨s,fst,lst,rcd⟩,rfl,hs⟩
theorem qkh(h:bd prog m 88 vs):∃f:Fil,vs=f.cs/\f.Fit:=by
 obtain⟨m',h⟩:=ep Tryz.underlying88 h;obtain⟨a0,b0,rfl,h0,a1,b1,rfl,h1,a2,b2,rfl,h2,a3,b3,rfl,h3,a4,b4,rfl,h4,a5,b5,rfl,h5,a6,b6,rfl,h6,a7,b7,rfl,h7,rfl⟩:=h;obtain⟨i0,rfl,-⟩:=be Tryz.underlying3 h0;obtain⟨i1,rfl,-⟩:=be Tryz.underlying3 h1;obtain⟨i2,rfl,-⟩:=be Tryz.underlying3 h2;obtain⟨i3,rfl,-⟩:=be Tryz.underlying3 h3;obtain⟨s4,rfl,hs4⟩:=jm Tryz.underlying9 h4;obtain⟨s5,rfl,hs5⟩:=jm Tryz.underlying9 h5;obtain⟨i6,rfl,-⟩:=be Tryz.underlying3 h6;obtain⟨es,m3,rfl,hel,he⟩:=gt Tryz.underlying86 h7;obtain⟨ns,rfl,hn⟩:=gi (fun x hx=>qhf hx) es he;refine⟨⟨i0,i1,i2,i3,s4,s5,i6,ns⟩,?_,hs4,hs5,by simpa using hel,hn⟩;rw[qjp];rfl
theorem qnp:prog.cellsOf 88=8:=krq
theorem qnm:prog.cellsOf 99=5:=krq
theorem jh3:prog.cellsOf 3=1:=krq
theorem jfx(h:bd prog m 3 vs):∃n:Int,vs=Cint n/\True:=by
 obtain⟨n,rfl,-⟩:=be Tryz.underlying3 h;exact⟨n,rfl,trivial⟩
theorem qke(h:bd prog m 99 vs):∃o:Ofc,vs=o.cs/\o.Fit:=by
 obtain⟨m',h⟩:=ep Tryz.underlying99 h;obtain⟨a0,b0,rfl,h0,a1,b1,rfl,h1,a2,b2,rfl,h2,a3,b3,rfl,h3,rfl⟩:=h;obtain⟨i0,rfl,-⟩:=be Tryz.underlying3 h0;obtain⟨s1,rfl,hs1⟩:=jm Tryz.underlying9 h1;obtain⟨m'',h2⟩:=ep Tryz.underlying54 h2;obtain⟨c0,d0,rfl,g0,c1,d1,rfl,g1,rfl⟩:=h2;obtain⟨frm,rfl,-⟩:=be Tryz.underlying3 g0;obtain⟨til,rfl,-⟩:=be Tryz.underlying3 g1;obtain⟨es,m3,rfl,hel,he⟩:=gt Tryz.underlying37 h3;obtain⟨ns,rfl,hn⟩:=gi (fun x hx=>jfx hx) es he;refine⟨⟨i0,s1,frm,til,ns⟩,?_,hs1,by simpa using hel⟩;rw[jh3];rfl
theorem qhe(h:bd prog m 22 vs):∃l:List Ofc,vs=[ofcs l]/\gq l:=by
 obtain⟨es,m3,rfl,hel,he⟩:=gt Tryz.underlying22 h;obtain⟨l,rfl,hl⟩:=gi (fun x hx=>qke hx) es he;refine⟨l,?_,by simpa using hel,hl⟩;rw[qnm]
theorem qhh(h:bd prog m 24 vs):∃l:List Fil,vs=[fils l]/\jb9 l:=by
 obtain⟨es,m3,rfl,hel,he⟩:=gt Tryz.underlying24 h;obtain⟨l,rfl,hl⟩:=gi (fun x hx=>qkh hx) es he;refine⟨l,?_,by simpa using hel,hl⟩;rw[qnp]
end Go.Arc
