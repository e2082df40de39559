/-
 What proposals,approvals and certificates read as.
-/
import Derived.Test.YtdljpbdmcgmalaaGreatDoorCl11
set_option maxRecDepth 100000
namespace Go.Arc
open Go.Ab Go.RowKit Go.Proofs Go.ChangeShapes Go.WideShapes Go.ChangeAt Tryz
open Go.Proofs.YtdljpbdmcgmalaaGreatDoor.Rows (uptoBulk uptoBulkAll)
variable {H : Type} {enc : TypeId × Value -> H} {W : World}
theorem okT_prp:okT prog 8 49=true:=kr
theorem op_prp {b:Nat} {v:Value} {d:DataW H} {p:List MemPlace} (hv:Value.okWide prog W .any b 49 v) (h:DataW.Trod enc prog W 0 (fun _=>true) true 49 v d p) (hb:uptoBulk d<=1048576):
  ∃q:Prp,Rep (fw W) (.agg q.cs) v/\q.fls.length<=1048576:=by
 obtain ⟨cs,rfl,-⟩:=okWide_struct Tryz.underlying49 hv;obtain ⟨fuel,h⟩:=h;obtain ⟨vs,h1,h2⟩:=jjc 8 fuel _ _ (d,p) h okT_prp hb;obtain ⟨q,rfl,hq⟩:=typed_prp h1;exact zb5
theorem okT_apv:okT prog 8 51=true:=kr
theorem op_apv {b:Nat} {v:Value} {d:DataW H} {p:List MemPlace} (hv:Value.okWide prog W .any b 51 v) (h:DataW.Trod enc prog W 0 (fun _=>true) true 51 v d p) (hb:uptoBulk d<=1048576):
  ∃q:Apv,Rep (fw W) (.agg q.cs) v:=by
 obtain ⟨cs,rfl,-⟩:=okWide_struct Tryz.underlying51 hv;obtain ⟨fuel,h⟩:=h;obtain ⟨vs,h1,h2⟩:=jjc 8 fuel _ _ (d,p) h okT_apv hb;obtain ⟨q,rfl,-⟩:=typed_apv h1;exact ⟨q,.agg h2.len.symm h2.one fun j c x e1 e2=>h2.rep j c x e1 (by show cs.toList[j]? = some x; simpa using e2)⟩
end Go.Arc
