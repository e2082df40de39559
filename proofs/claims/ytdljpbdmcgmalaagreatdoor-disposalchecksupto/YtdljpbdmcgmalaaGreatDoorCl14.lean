/-
 What proposals,approvals and certificates read as.
-/
import Derived.Test.YtdljpbdmcgmalaaGreatDoorCl11
set_option maxRecDepth 100000
namespace Go.Arc
open Go.Ab Go.RowKit Go.Proofs Go.ChangeShapes Go.WideShapes Go.ChangeAt Tryz
open Go.Proofs.YtdljpbdmcgmalaaGreatDoor.Rows (uptoBulk uptoBulkAll)
variable {H : Type} {enc : TypeId × Value -> H} {W : World}
theorem okT_crt:okT prog 8 37=true:=kr
theorem op_crt {b:Nat} {v:Value} {d:DataW H} {p:List MemPlace} (hv:Value.okWide prog W .any b 37 v) (h:DataW.Trod enc prog W 0 (fun _=>true) true 37 v d p) (hb:uptoBulk d<=1048576):
  ∃q:Crt,Rep (fw W) (.agg q.cs) v/\(q.fls.length<=1048576/\q.bef.length<=1048576/\q.dig.length<=1048576):=by
 obtain ⟨cs,rfl,-⟩:=okWide_struct Tryz.underlying37 hv;obtain ⟨fuel,h⟩:=h;obtain ⟨vs,h1,h2⟩:=jjs 8 fuel _ _ (d,p) h okT_crt hb;obtain ⟨q,rfl,hq⟩:=typed_crt h1;exact zbu
theorem okT_crts:okT prog 9 31=true:=kr
theorem op_crts {v:Value} {d:DataW H} {p:List MemPlace} {b:Nat} (hv:Value.okWide prog W .any b 31 v) (h:DataW.Trod enc prog W 0 (fun _=>true) true 31 v d p) (hb:uptoBulk d<=1048576):
  ∃l,Rep (fw W) (crts l) v/\(l.length<=1048576/\∀c∈l,c.fls.length<=1048576/\c.bef.length<=1048576/\c.dig.length<=1048576):=by
 obtain ⟨a,len,cap,rfl⟩:=okWide_slice Tryz.underlying31 hv;obtain ⟨fuel,h⟩:=h;obtain ⟨vs,h1,h2⟩:=jjs 9 fuel _ _ (d,p) h okT_crts hb;obtain ⟨l,rfl,hl⟩:=typed_crts h1;exact ⟨l,h2.rep 0 _ _ rfl rfl,hl⟩
end Go.Arc
