/-
 What proposals,approvals and certificates read as.
-/
import Derived.Test.YtnmclbgpndpedaaGreatDoorCl11
set_option maxRecDepth 100000
namespace Go.Arc
open Go.Ab Go.RowKit Go.Proofs Go.ChangeShapes Go.WideShapes Go.ChangeAt Tryz
open Go.Proofs.YtnmclbgpndpedaaGreatDoor.Rows (uptoBulk uptoBulkAll)
variable {H : Type} {enc : TypeId × Value -> H} {W : World}
theorem okT_prp:okT prog 8 42=true:=by kernel_rfl
theorem op_prp {b:Nat} {v:Value} {d:DataW H} {p:List MemPlace} (hv:Value.okWide prog W .any b 42 v) (h:DataW.Trod enc prog W 0 (fun _=>true) true 42 v d p) (hb:uptoBulk d<=1048576):
  ∃q:Prp,Rep (fw W) (.agg q.cs) v/\q.fls.length<=1048576:=by
 obtain ⟨cs,rfl,-⟩:=okWide_struct underlying42 hv;obtain ⟨fuel,h⟩:=h;obtain ⟨vs,h1,h2⟩:=jkn 8 fuel _ _ (d,p) h okT_prp hb;obtain ⟨q,rfl,hq⟩:=typed_prp h1;exact ⟨q,.agg h2.len.symm h2.one fun j c x e1 e2=>h2.rep j c x e1 (by show cs.toList[j]? = some x; simpa using e2),hq⟩
theorem okT_apv:okT prog 8 51=true:=by kernel_rfl
theorem op_apv {b:Nat} {v:Value} {d:DataW H} {p:List MemPlace} (hv:Value.okWide prog W .any b 51 v) (h:DataW.Trod enc prog W 0 (fun _=>true) true 51 v d p) (hb:uptoBulk d<=1048576):
  ∃q:Apv,Rep (fw W) (.agg q.cs) v:=by
 obtain ⟨cs,rfl,-⟩:=okWide_struct underlying51 hv;obtain ⟨fuel,h⟩:=h;obtain ⟨vs,h1,h2⟩:=jkn 8 fuel _ _ (d,p) h okT_apv hb;obtain ⟨q,rfl,-⟩:=typed_apv h1;exact ⟨q,.agg h2.len.symm h2.one fun j c x e1 e2=>h2.rep j c x e1 (by show cs.toList[j]? = some x; simpa using e2)⟩
end Go.Arc
