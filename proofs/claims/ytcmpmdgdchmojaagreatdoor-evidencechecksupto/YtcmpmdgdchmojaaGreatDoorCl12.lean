/-
 What steps of explanations read as.
-/
import Derived.Test.YtcmpmdgdchmojaaGreatDoorCl11
set_option maxRecDepth 100000
namespace Go.Arc
open Go.Ab Go.RowKit Go.Proofs Go.ChangeShapes Go.WideShapes Go.ChangeAt
open Go.Proofs.YtcmpmdgdchmojaaGreatDoor.Rows (uptoBulk uptoBulkAll)
variable {H : Type} {enc : TypeId × Value -> H} {W : World}
theorem cells_stp:Tryz.prog.cellsOf 54=5:=by kernel_rfl
theorem typed_stp {m:Nat} {vs:List V} (h:typed Tryz.prog m 54 vs):∃q:Stp,vs=q.cs/\q.txt.length<=1048576:=by
 obtain ⟨m',h⟩:=typed_struct Tryz.underlying54 h;obtain ⟨a0,b0,rfl,h0,a1,b1,rfl,h1,a2,b2,rfl,h2,a3,b3,rfl,h3,a4,b4,rfl,h4,rfl⟩:=h;obtain ⟨i0,rfl,-⟩:=typed_int Tryz.underlying3 h0;obtain ⟨i1,rfl,-⟩:=typed_int Tryz.underlying3 h1;obtain ⟨i2,rfl,-⟩:=typed_int Tryz.underlying3 h2;obtain ⟨i3,rfl,-⟩:=typed_int Tryz.underlying3 h3;obtain ⟨s4,rfl,hs4⟩:=typed_str Tryz.underlying9 h4;exact ⟨⟨i0,i1,i2,i3,s4⟩,rfl,hs4⟩
theorem typed_stps {m:Nat} {vs:List V} (h:typed Tryz.prog m 37 vs):∃l:List Stp,vs=[stps l]/\FitsS l:=by
 obtain ⟨es,m3,rfl,hel,he⟩:=typed_slice Tryz.underlying37 h;obtain ⟨l,rfl,hl⟩:=map_of (fun x hx=>typed_stp hx) es he;refine ⟨l,?_,by simpa using hel,hl⟩;rw[cells_stp]
theorem okT_stps:okT Tryz.prog 8 37=true:=by kernel_rfl
theorem op_stps {v:Value} {d:DataW H} {p:List MemPlace} {b:Nat} (hv:Value.okWide Tryz.prog W .any b 37 v) (h:DataW.Trod enc Tryz.prog W 0 (fun _=>true) true 37 v d p) (hb:uptoBulk d<=1048576):
  ∃l,Rep (fw W) (stps l) v/\FitsS l:=by
 obtain ⟨a,len,cap,rfl⟩:=okWide_slice Tryz.underlying37 hv;obtain ⟨fuel,h⟩:=h;obtain ⟨vs,h1,h2⟩:=trod_typed 8 fuel _ _ (d,p) h okT_stps hb;obtain ⟨l,rfl,hl⟩:=typed_stps h1;exact ⟨l,h2.rep 0 _ _ rfl rfl,hl⟩
end Go.Arc
