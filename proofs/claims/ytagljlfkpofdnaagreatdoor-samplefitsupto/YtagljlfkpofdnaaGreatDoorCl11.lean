/-
 What registries read as.
-/
import Derived.Test.YtagljlfkpofdnaaGreatDoorCl10
set_option maxRecDepth 100000
namespace Go.Arc
open Go.Ab Go.RowKit Go.Proofs Go.ChangeShapes Go.WideShapes Go.ChangeAt
open Go.Proofs.YtagljlfkpofdnaaGreatDoor.Rows (uptoBulk uptoBulkAll)
variable {H : Type} {enc : TypeId × Value -> H} {W : World}
theorem and_i {a b:Bool} (ha:a=true) (hb:b=true):(a && b)=true:=by rw[ha,hb]; rfl
theorem typed_bool {P:Program} {m:Nat} {t:TypeId} {vs:List V} (ht:P.underlying t=some .bool) (h:typed P m t vs):∃b,vs=[.val (.bool b)]:=by
 cases m with
 | zero=>exact h.elim
 | succ m=>simpa only[typed,ht] using h
theorem cells_rul:Tryz.prog.cellsOf 130=8:=by kernel_rfl
theorem typed_rul {m:Nat} {vs:List V} (h:typed Tryz.prog m 130 vs):∃q:Rul,vs=q.cs/\q.Fit:=by
 obtain ⟨m',h⟩:=typed_struct Tryz.underlying130 h;obtain ⟨a0,b0,rfl,h0,a1,b1,rfl,h1,a2,b2,rfl,h2,a3,b3,rfl,h3,a4,b4,rfl,h4,a5,b5,rfl,h5,a6,b6,rfl,h6,rfl⟩:=h;obtain ⟨i0,rfl,-⟩:=typed_int Tryz.underlying3 h0;obtain ⟨s1,rfl,hs1⟩:=typed_str Tryz.underlying9 h1;obtain ⟨s2,rfl,hs2⟩:=typed_str Tryz.underlying9 h2;obtain ⟨i3,rfl,-⟩:=typed_int Tryz.underlying3 h3;obtain ⟨t4,rfl⟩:=typed_bool Tryz.underlying4 h4;obtain ⟨i5,rfl,-⟩:=typed_int Tryz.underlying3 h5;obtain ⟨m''6,h6⟩:=typed_struct Tryz.underlying106 h6;obtain ⟨c0,d0,rfl,g0,c1,d1,rfl,g1,rfl⟩:=h6;obtain ⟨frm,rfl,-⟩:=typed_int Tryz.underlying3 g0;obtain ⟨til,rfl,-⟩:=typed_int Tryz.underlying3 g1;exact ⟨⟨i0,s1,s2,i3,t4,i5,frm,til⟩,rfl,hs1,hs2⟩
theorem typed_ruls {m:Nat} {vs:List V} (h:typed Tryz.prog m 25 vs):∃l:List Rul,vs=[ruls l]/\FitsR l:=by
 obtain ⟨es,m3,rfl,hel,he⟩:=typed_slice Tryz.underlying25 h;obtain ⟨l,rfl,hl⟩:=map_of (fun x hx=>typed_rul hx) es he;refine ⟨l,?_,by simpa using hel,hl⟩;rw[cells_rul]
theorem cells_clk:Tryz.prog.cellsOf 369=5:=by kernel_rfl
theorem typed_clk {m:Nat} {vs:List V} (h:typed Tryz.prog m 369 vs):∃q:Clk,vs=q.cs/\q.name.length<=1048576:=by
 obtain ⟨m',h⟩:=typed_struct Tryz.underlying369 h;obtain ⟨a0,b0,rfl,h0,a1,b1,rfl,h1,a2,b2,rfl,h2,a3,b3,rfl,h3,rfl⟩:=h;obtain ⟨i0,rfl,-⟩:=typed_int Tryz.underlying3 h0;obtain ⟨i1,rfl,-⟩:=typed_int Tryz.underlying3 h1;obtain ⟨s2,rfl,hs2⟩:=typed_str Tryz.underlying9 h2;obtain ⟨m''3,h3⟩:=typed_struct Tryz.underlying106 h3;obtain ⟨c0,d0,rfl,g0,c1,d1,rfl,g1,rfl⟩:=h3;obtain ⟨frm,rfl,-⟩:=typed_int Tryz.underlying3 g0;obtain ⟨til,rfl,-⟩:=typed_int Tryz.underlying3 g1;exact ⟨⟨i0,i1,s2,frm,til⟩,rfl,hs2⟩
theorem typed_clks {m:Nat} {vs:List V} (h:typed Tryz.prog m 27 vs):∃l:List Clk,vs=[clks l]/\(l.length<=1048576/\∀c∈l,c.name.length<=1048576):=by
 obtain ⟨es,m3,rfl,hel,he⟩:=typed_slice Tryz.underlying27 h;obtain ⟨l,rfl,hl⟩:=map_of (fun x hx=>typed_clk hx) es he;refine ⟨l,?_,by simpa using hel,hl⟩;rw[cells_clk]
theorem cells_sel:Tryz.prog.cellsOf 75=3:=by kernel_rfl
theorem typed_sel {m:Nat} {vs:List V} (h:typed Tryz.prog m 75 vs):∃q:Sel,vs=q.cs/\q.fls.length<=1048576:=by
 obtain ⟨m',h⟩:=typed_struct Tryz.underlying75 h;obtain ⟨a0,b0,rfl,h0,a1,b1,rfl,h1,a2,b2,rfl,h2,rfl⟩:=h;obtain ⟨i0,rfl,-⟩:=typed_int Tryz.underlying3 h0;obtain ⟨i1,rfl,-⟩:=typed_int Tryz.underlying3 h1;obtain ⟨es2,m32,rfl,hel2,he2⟩:=typed_slice Tryz.underlying39 h2;obtain ⟨ns2,rfl,hn2⟩:=map_of (fun x hx=>typed_int1 hx) es2 he2;refine ⟨⟨i0,i1,ns2⟩,?_,by simpa using hel2⟩;rw[cells_int]; rfl
theorem typed_sels {m:Nat} {vs:List V} (h:typed Tryz.prog m 28 vs):∃l:List Sel,vs=[sels l]/\(l.length<=1048576/\∀c∈l,c.fls.length<=1048576):=by
 obtain ⟨es,m3,rfl,hel,he⟩:=typed_slice Tryz.underlying28 h;obtain ⟨l,rfl,hl⟩:=map_of (fun x hx=>typed_sel hx) es he;refine ⟨l,?_,by simpa using hel,hl⟩;rw[cells_sel]
theorem cells_prp:Tryz.prog.cellsOf 371=5:=by kernel_rfl
theorem typed_prp {m:Nat} {vs:List V} (h:typed Tryz.prog m 371 vs):∃q:Prp,vs=q.cs/\q.fls.length<=1048576:=by
 obtain ⟨m',h⟩:=typed_struct Tryz.underlying371 h;obtain ⟨a0,b0,rfl,h0,a1,b1,rfl,h1,a2,b2,rfl,h2,a3,b3,rfl,h3,a4,b4,rfl,h4,rfl⟩:=h;obtain ⟨i0,rfl,-⟩:=typed_int Tryz.underlying3 h0;obtain ⟨i1,rfl,-⟩:=typed_int Tryz.underlying3 h1;obtain ⟨i2,rfl,-⟩:=typed_int Tryz.underlying3 h2;obtain ⟨es3,m33,rfl,hel3,he3⟩:=typed_slice Tryz.underlying39 h3;obtain ⟨ns3,rfl,hn3⟩:=map_of (fun x hx=>typed_int1 hx) es3 he3;obtain ⟨i4,rfl,-⟩:=typed_int Tryz.underlying3 h4;refine ⟨⟨i0,i1,i2,ns3,i4⟩,?_,by simpa using hel3⟩;rw[cells_int]; rfl
theorem typed_prps {m:Nat} {vs:List V} (h:typed Tryz.prog m 29 vs):∃l:List Prp,vs=[prps l]/\(l.length<=1048576/\∀c∈l,c.fls.length<=1048576):=by
 obtain ⟨es,m3,rfl,hel,he⟩:=typed_slice Tryz.underlying29 h;obtain ⟨l,rfl,hl⟩:=map_of (fun x hx=>typed_prp hx) es he;refine ⟨l,?_,by simpa using hel,hl⟩;rw[cells_prp]
theorem cells_apv:Tryz.prog.cellsOf 373=3:=by kernel_rfl
theorem typed_apv {m:Nat} {vs:List V} (h:typed Tryz.prog m 373 vs):∃q:Apv,vs=q.cs/\True:=by
 obtain ⟨m',h⟩:=typed_struct Tryz.underlying373 h;obtain ⟨a0,b0,rfl,h0,a1,b1,rfl,h1,a2,b2,rfl,h2,rfl⟩:=h;obtain ⟨i0,rfl,-⟩:=typed_int Tryz.underlying3 h0;obtain ⟨i1,rfl,-⟩:=typed_int Tryz.underlying3 h1;obtain ⟨i2,rfl,-⟩:=typed_int Tryz.underlying3 h2;exact ⟨⟨i0,i1,i2⟩,rfl,trivial⟩
theorem typed_apvs {m:Nat} {vs:List V} (h:typed Tryz.prog m 30 vs):∃l:List Apv,vs=[apvs l]/\l.length<=1048576:=by
 obtain ⟨es,m3,rfl,hel,he⟩:=typed_slice Tryz.underlying30 h;obtain ⟨l,rfl,hl⟩:=map_of (fun x hx=>typed_apv hx) es he;refine ⟨l,?_,by simpa using hel⟩;rw[cells_apv]
theorem cells_crt:Tryz.prog.cellsOf 77=6:=by kernel_rfl
theorem typed_crt {m:Nat} {vs:List V} (h:typed Tryz.prog m 77 vs):∃q:Crt,vs=q.cs/\(q.fls.length<=1048576/\q.bef.length<=1048576/\q.dig.length<=1048576):=by
 obtain ⟨m',h⟩:=typed_struct Tryz.underlying77 h;obtain ⟨a0,b0,rfl,h0,a1,b1,rfl,h1,a2,b2,rfl,h2,a3,b3,rfl,h3,a4,b4,rfl,h4,a5,b5,rfl,h5,rfl⟩:=h;obtain ⟨i0,rfl,-⟩:=typed_int Tryz.underlying3 h0;obtain ⟨i1,rfl,-⟩:=typed_int Tryz.underlying3 h1;obtain ⟨i2,rfl,-⟩:=typed_int Tryz.underlying3 h2;obtain ⟨es3,m33,rfl,hel3,he3⟩:=typed_slice Tryz.underlying39 h3;obtain ⟨ns3,rfl,hn3⟩:=map_of (fun x hx=>typed_int1 hx) es3 he3;obtain ⟨s4,rfl,hs4⟩:=typed_str Tryz.underlying9 h4;obtain ⟨s5,rfl,hs5⟩:=typed_str Tryz.underlying9 h5;refine ⟨⟨i0,i1,i2,ns3,s4,s5⟩,?_,by simpa using hel3,hs4,hs5⟩;rw[cells_int]; rfl
theorem typed_crts {m:Nat} {vs:List V} (h:typed Tryz.prog m 31 vs):∃l:List Crt,vs=[crts l]/\(l.length<=1048576/\∀c∈l,c.fls.length<=1048576/\c.bef.length<=1048576/\c.dig.length<=1048576):=by
 obtain ⟨es,m3,rfl,hel,he⟩:=typed_slice Tryz.underlying31 h;obtain ⟨l,rfl,hl⟩:=map_of (fun x hx=>typed_crt hx) es he;refine ⟨l,?_,by simpa using hel,hl⟩;rw[cells_crt]
theorem cells_dep:Tryz.prog.cellsOf 169=2:=by kernel_rfl
theorem typed_dep {m:Nat} {vs:List V} (h:typed Tryz.prog m 169 vs):∃q:Dep,vs=q.cs/\True:=by
 obtain ⟨m',h⟩:=typed_struct Tryz.underlying169 h;obtain ⟨a0,b0,rfl,h0,a1,b1,rfl,h1,rfl⟩:=h;obtain ⟨i0,rfl,-⟩:=typed_int Tryz.underlying3 h0;obtain ⟨i1,rfl,-⟩:=typed_int Tryz.underlying3 h1;exact ⟨⟨i0,i1⟩,rfl,trivial⟩
theorem typed_deps {m:Nat} {vs:List V} (h:typed Tryz.prog m 32 vs):∃l:List Dep,vs=[deps l]/\l.length<=1048576:=by
 obtain ⟨es,m3,rfl,hel,he⟩:=typed_slice Tryz.underlying32 h;obtain ⟨l,rfl,hl⟩:=map_of (fun x hx=>typed_dep hx) es he;refine ⟨l,?_,by simpa using hel⟩;rw[cells_dep]
theorem typed_rgs {m:Nat} {vs:List V} (h:typed Tryz.prog m 34 vs):∃q:Rgs,vs=q.cs/\q.Fit:=by
 obtain ⟨m',h⟩:=typed_struct Tryz.underlying34 h;obtain ⟨a0,b0,rfl,h0,a1,b1,rfl,h1,a2,b2,rfl,h2,a3,b3,rfl,h3,a4,b4,rfl,h4,a5,b5,rfl,h5,a6,b6,rfl,h6,a7,b7,rfl,h7,a8,b8,rfl,h8,a9,b9,rfl,h9,a10,b10,rfl,h10,a11,b11,rfl,h11,rfl⟩:=h;obtain ⟨l0,rfl,f0⟩:=typed_ofcs h0;obtain ⟨l1,rfl,f1⟩:=typed_plans h1;obtain ⟨l2,rfl,f2⟩:=typed_fils h2;obtain ⟨l3,rfl,f3⟩:=typed_ruls h3;obtain ⟨l4,rfl,f4⟩:=typed_hlds h4;obtain ⟨l5,rfl,f5⟩:=typed_clks h5;obtain ⟨l6,rfl,f6⟩:=typed_sels h6;obtain ⟨l7,rfl,f7⟩:=typed_prps h7;obtain ⟨l8,rfl,f8⟩:=typed_apvs h8;obtain ⟨l9,rfl,f9⟩:=typed_crts h9;obtain ⟨l10,rfl,f10⟩:=typed_deps h10;obtain ⟨n11,rfl,-⟩:=typed_int Tryz.underlying3 h11;exact ⟨⟨l0,l1,l2,l3,l4,l5,l6,l7,l8,l9,l10,n11⟩,rfl,⟨f0,f1,f2,f3,f4,f5,f6,f7,f8,f9,f10⟩⟩
theorem okT_rgs:okT Tryz.prog 12 34=true:=by kernel_rfl
theorem op_rgs {b:Nat} {v:Value} {d:DataW H} {p:List MemPlace} (hv:Value.okWide Tryz.prog W .any b 34 v) (h:DataW.Trod enc Tryz.prog W 0 (fun _=>true) true 34 v d p) (hb:uptoBulk d<=1048576):
  ∃q:Rgs,Rep (fw W) (.agg q.cs) v/\q.Fit:=by
 obtain ⟨cs,rfl,-⟩:=okWide_struct Tryz.underlying34 hv;obtain ⟨fuel,h⟩:=h;obtain ⟨vs,h1,h2⟩:=trod_typed 12 fuel _ _ (d,p) h okT_rgs hb;obtain ⟨q,rfl,hq⟩:=typed_rgs h1;exact ⟨q,.agg h2.len.symm h2.one fun j c x e1 e2=>h2.rep j c x e1 (by show cs.toList[j]? = some x; simpa using e2),hq⟩
end Go.Arc
