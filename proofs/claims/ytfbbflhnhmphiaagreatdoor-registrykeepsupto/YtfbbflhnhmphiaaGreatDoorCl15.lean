/-
 What events read as.
-/
import Derived.Test.YtfbbflhnhmphiaaGreatDoorCl8
import Derived.Test.YtfbbflhnhmphiaaGreatDoorBaK
set_option maxRecDepth 100000
namespace Go.Arc
open Go.Ab Go.RowKit Go.Proofs Go.ChangeShapes Go.WideShapes Go.ChangeAt Tryz
open Go.Proofs.YtfbbflhnhmphiaaGreatDoor.Rows (uptoBulk uptoBulkAll)
variable {H : Type}{enc : TypeId × Value -> H}{W : World}
variable {vs:List V}{m:Nat}
theorem qwe{i:Int}(h:(Lit.int .i64 i).wf=true):i<=9223372036854775807:=by
 have h:(decide (IntKind.i64.min<=i) && decide (i<=IntKind.i64.max))=true:=h;exact Int.le_trans (xj (Bool.and_eq_true_iff.1 h).2) dcq
theorem qlh:prog.cellsOf 9=1:=krq
theorem qhb(h:fa prog m 9 vs):∃s:Str,vs=Cst s/\True:=by
 obtain⟨s,rfl,-⟩:=qm2 Tryz.underlying9 h;exact⟨s,rfl,trivial⟩
theorem qpr:prog.cellsOf 42=5:=krq
theorem qm3(h:fa prog m 42 vs):∃q:Evt,vs=q.cs/\q.day<=9223372036854775807:=by
 obtain⟨m',h⟩:=qg9 Tryz.underlying42 h;obtain⟨a0,b0,rfl,h0,a1,b1,rfl,h1,a2,b2,rfl,h2,a3,b3,rfl,h3,a4,b4,rfl,h4,rfl⟩:=h;obtain⟨i0,rfl,-⟩:=je2 Tryz.underlying3 h0;obtain⟨i1,rfl,hw⟩:=je2 Tryz.underlying3 h1;obtain⟨i2,rfl,-⟩:=je2 Tryz.underlying3 h2;obtain⟨es3,m33,rfl,hel3,he3⟩:=jju Tryz.underlying39 h3;obtain⟨ns3,rfl,hn3⟩:=jj2 (fun x hx=>qir hx) es3 he3;obtain⟨es4,m44,rfl,hel4,he4⟩:=jju Tryz.underlying40 h4;obtain⟨ss4,rfl,hs4⟩:=jj2 (fun x hx=>qhb hx) es4 he4;have hd:i1<=9223372036854775807:=qwe hw;refine⟨⟨i0,i1,i2,ns3,ss4⟩,?_,hd⟩;rw[qpq,qlh];rfl
theorem qis(h:fa prog m 22 vs):∃l:List Evt,vs=[evts l]/\(l.length<=1048576/\∀e∈l,e.day<=9223372036854775807):=by
 obtain⟨es,m3,rfl,hel,he⟩:=jju Tryz.underlying22 h;obtain⟨l,rfl,hl⟩:=jj2 (fun x hx=>qm3 hx) es he;refine⟨l,?_,by simpa using hel,hl⟩;rw[qpr]
theorem qri:okT prog 9 22=true:=krq
theorem jij{v:Value}{d:DataW H}{p:List MemPlace}{b:Nat}(hv:Value.okWide prog W .any b 22 v)(h:DataW.Trod enc prog W 0 (fun _=>true) true 22 v d p)(hb:uptoBulk d<=1048576):
  ∃l,Rep (fw W) (evts l) v/\(l.length<=1048576/\∀e∈l,e.day<=9223372036854775807):=by
 obtain⟨a,len,cap,rfl⟩:=okWide_slice Tryz.underlying22 hv;obtain⟨fuel,h⟩:=h;obtain⟨vs,h1,h2⟩:=jgo 9 fuel _ _ (d,p) h qri hb;obtain⟨l,rfl,hl⟩:=qis h1;exact⟨l,h2.rep 0 _ _ rfl rfl,hl⟩
theorem and_i{a b:Bool}(ha:a=true)(hb:b=true):(a && b)=true:=by rw[ha,hb];rfl
end Go.Arc
