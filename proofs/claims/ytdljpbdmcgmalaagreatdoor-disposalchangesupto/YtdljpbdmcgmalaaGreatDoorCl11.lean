/-
 What registries read as.
-/
import Derived.Test.YtdljpbdmcgmalaaGreatDoorCl10
set_option maxRecDepth 100000
namespace Go.Arc
open Go.Ab Go.RowKit Go.Proofs Go.ChangeShapes Go.WideShapes Go.ChangeAt Tryz
open Go.Proofs.YtdljpbdmcgmalaaGreatDoor.Rows (uptoBulk uptoBulkAll)
variable {H : Type} {enc : TypeId × Value -> H} {W : World}
theorem and_i {a b:Bool} (ha:a=true) (hb:b=true):(a && b)=true:=by rw[ha,hb]; rfl
theorem typed_bool {P:Program} {m:Nat} {t:TypeId} {vs:List V} (ht:P.underlying t=some .bool) (h:jam P m t vs):∃b,vs=[.val (.bool b)]:=by
 cases m with
 | zero=>exact h.elim
 | succ m=>simpa only[jam,ht] using h
theorem cells_rul:prog.cellsOf 111=8:=kr
theorem typed_rul {m:Nat} {vs:List V} (h:jam prog m 111 vs):∃q:Rul,vs=q.cs/\q.Fit:=by
 obtain ⟨m',h⟩:=jcd Tryz.underlying111 h;obtain ⟨a0,b0,rfl,h0,a1,b1,rfl,h1,a2,b2,rfl,h2,a3,b3,rfl,h3,a4,b4,rfl,h4,a5,b5,rfl,h5,a6,b6,rfl,h6,rfl⟩:=h;obtain ⟨i0,rfl,-⟩:=jan Tryz.underlying3 h0;obtain ⟨s1,rfl,hs1⟩:=jdx Tryz.underlying9 h1;obtain ⟨s2,rfl,hs2⟩:=jdx Tryz.underlying9 h2;obtain ⟨i3,rfl,-⟩:=jan Tryz.underlying3 h3;obtain ⟨t4,rfl⟩:=typed_bool Tryz.underlying4 h4;obtain ⟨i5,rfl,-⟩:=jan Tryz.underlying3 h5;obtain ⟨m''6,h6⟩:=jcd Tryz.underlying65 h6;obtain ⟨c0,d0,rfl,g0,c1,d1,rfl,g1,rfl⟩:=h6;obtain ⟨frm,rfl,-⟩:=jan Tryz.underlying3 g0;obtain ⟨til,rfl,-⟩:=jan Tryz.underlying3 g1;exact ⟨⟨i0,s1,s2,i3,t4,i5,frm,til⟩,rfl,hs1,hs2⟩
theorem typed_ruls {m:Nat} {vs:List V} (h:jam prog m 25 vs):∃l:List Rul,vs=[ruls l]/\FitsR l:=by
 obtain ⟨es,m3,rfl,hel,he⟩:=jd9 Tryz.underlying25 h;obtain ⟨l,rfl,hl⟩:=jd3 (fun x hx=>typed_rul hx) es he;refine ⟨l,?_,by simpa using hel,hl⟩;rw[cells_rul]
theorem cells_clk:prog.cellsOf 67=5:=kr
theorem typed_clk {m:Nat} {vs:List V} (h:jam prog m 67 vs):∃q:Clk,vs=q.cs/\q.name.length<=1048576:=by
 obtain ⟨m',h⟩:=jcd Tryz.underlying67 h;obtain ⟨a0,b0,rfl,h0,a1,b1,rfl,h1,a2,b2,rfl,h2,a3,b3,rfl,h3,rfl⟩:=h;obtain ⟨i0,rfl,-⟩:=jan Tryz.underlying3 h0;obtain ⟨i1,rfl,-⟩:=jan Tryz.underlying3 h1;obtain ⟨s2,rfl,hs2⟩:=jdx Tryz.underlying9 h2;obtain ⟨m''3,h3⟩:=jcd Tryz.underlying65 h3;obtain ⟨c0,d0,rfl,g0,c1,d1,rfl,g1,rfl⟩:=h3;obtain ⟨frm,rfl,-⟩:=jan Tryz.underlying3 g0;obtain ⟨til,rfl,-⟩:=jan Tryz.underlying3 g1;exact ⟨⟨i0,i1,s2,frm,til⟩,rfl,hs2⟩
theorem typed_clks {m:Nat} {vs:List V} (h:jam prog m 27 vs):∃l:List Clk,vs=[clks l]/\(l.length<=1048576/\∀c∈l,c.name.length<=1048576):=by
 obtain ⟨es,m3,rfl,hel,he⟩:=jd9 Tryz.underlying27 h;obtain ⟨l,rfl,hl⟩:=jd3 (fun x hx=>typed_clk hx) es he;refine ⟨l,?_,by simpa using hel,hl⟩;rw[cells_clk]
theorem cells_sel:prog.cellsOf 130=3:=kr
theorem typed_sel {m:Nat} {vs:List V} (h:jam prog m 130 vs):∃q:Sel,vs=q.cs/\q.fls.length<=1048576:=by
 obtain ⟨m',h⟩:=jcd Tryz.underlying130 h;obtain ⟨a0,b0,rfl,h0,a1,b1,rfl,h1,a2,b2,rfl,h2,rfl⟩:=h;obtain ⟨i0,rfl,-⟩:=jan Tryz.underlying3 h0;obtain ⟨i1,rfl,-⟩:=jan Tryz.underlying3 h1;obtain ⟨es2,m32,rfl,hel2,he2⟩:=jd9 Tryz.underlying35 h2;obtain ⟨ns2,rfl,hn2⟩:=jd3 (fun x hx=>jm3 hx) es2 he2;refine ⟨⟨i0,i1,ns2⟩,?_,by simpa using hel2⟩;rw[jmy]; rfl
theorem typed_sels {m:Nat} {vs:List V} (h:jam prog m 28 vs):∃l:List Sel,vs=[sels l]/\(l.length<=1048576/\∀c∈l,c.fls.length<=1048576):=by
 obtain ⟨es,m3,rfl,hel,he⟩:=jd9 Tryz.underlying28 h;obtain ⟨l,rfl,hl⟩:=jd3 (fun x hx=>typed_sel hx) es he;refine ⟨l,?_,by simpa using hel,hl⟩;rw[cells_sel]
theorem cells_prp:prog.cellsOf 49=5:=kr
theorem typed_prp {m:Nat} {vs:List V} (h:jam prog m 49 vs):∃q:Prp,vs=q.cs/\q.fls.length<=1048576:=by
 obtain ⟨m',h⟩:=jcd Tryz.underlying49 h;obtain ⟨a0,b0,rfl,h0,a1,b1,rfl,h1,a2,b2,rfl,h2,a3,b3,rfl,h3,a4,b4,rfl,h4,rfl⟩:=h;obtain ⟨i0,rfl,-⟩:=jan Tryz.underlying3 h0;obtain ⟨i1,rfl,-⟩:=jan Tryz.underlying3 h1;obtain ⟨i2,rfl,-⟩:=jan Tryz.underlying3 h2;obtain ⟨es3,m33,rfl,hel3,he3⟩:=jd9 Tryz.underlying35 h3;obtain ⟨ns3,rfl,hn3⟩:=jd3 (fun x hx=>jm3 hx) es3 he3;obtain ⟨i4,rfl,-⟩:=jan Tryz.underlying3 h4;refine ⟨⟨i0,i1,i2,ns3,i4⟩,?_,by simpa using hel3⟩;rw[jmy]; rfl
theorem typed_prps {m:Nat} {vs:List V} (h:jam prog m 29 vs):∃l:List Prp,vs=[prps l]/\(l.length<=1048576/\∀c∈l,c.fls.length<=1048576):=by
 obtain ⟨es,m3,rfl,hel,he⟩:=jd9 Tryz.underlying29 h;obtain ⟨l,rfl,hl⟩:=jd3 (fun x hx=>typed_prp hx) es he;refine ⟨l,?_,by simpa using hel,hl⟩;rw[cells_prp]
theorem cells_apv:prog.cellsOf 51=3:=kr
theorem typed_apv {m:Nat} {vs:List V} (h:jam prog m 51 vs):∃q:Apv,vs=q.cs/\True:=by
 obtain ⟨m',h⟩:=jcd Tryz.underlying51 h;obtain ⟨a0,b0,rfl,h0,a1,b1,rfl,h1,a2,b2,rfl,h2,rfl⟩:=h;obtain ⟨i0,rfl,-⟩:=jan Tryz.underlying3 h0;obtain ⟨i1,rfl,-⟩:=jan Tryz.underlying3 h1;obtain ⟨i2,rfl,-⟩:=jan Tryz.underlying3 h2;exact ⟨⟨i0,i1,i2⟩,rfl,trivial⟩
theorem typed_apvs {m:Nat} {vs:List V} (h:jam prog m 30 vs):∃l:List Apv,vs=[apvs l]/\l.length<=1048576:=by
 obtain ⟨es,m3,rfl,hel,he⟩:=jd9 Tryz.underlying30 h;obtain ⟨l,rfl,hl⟩:=jd3 (fun x hx=>typed_apv hx) es he;refine ⟨l,?_,by simpa using hel⟩;rw[cells_apv]
theorem cells_crt:prog.cellsOf 37=6:=kr
theorem typed_crt {m:Nat} {vs:List V} (h:jam prog m 37 vs):∃q:Crt,vs=q.cs/\(q.fls.length<=1048576/\q.bef.length<=1048576/\q.dig.length<=1048576):=by
 obtain ⟨m',h⟩:=jcd Tryz.underlying37 h;obtain ⟨a0,b0,rfl,h0,a1,b1,rfl,h1,a2,b2,rfl,h2,a3,b3,rfl,h3,a4,b4,rfl,h4,a5,b5,rfl,h5,rfl⟩:=h;obtain ⟨i0,rfl,-⟩:=jan Tryz.underlying3 h0;obtain ⟨i1,rfl,-⟩:=jan Tryz.underlying3 h1;obtain ⟨i2,rfl,-⟩:=jan Tryz.underlying3 h2;obtain ⟨es3,m33,rfl,hel3,he3⟩:=jd9 Tryz.underlying35 h3;obtain ⟨ns3,rfl,hn3⟩:=jd3 (fun x hx=>jm3 hx) es3 he3;obtain ⟨s4,rfl,hs4⟩:=jdx Tryz.underlying9 h4;obtain ⟨s5,rfl,hs5⟩:=jdx Tryz.underlying9 h5;refine ⟨⟨i0,i1,i2,ns3,s4,s5⟩,?_,by simpa using hel3,hs4,hs5⟩;rw[jmy]; rfl
theorem typed_crts {m:Nat} {vs:List V} (h:jam prog m 31 vs):∃l:List Crt,vs=[crts l]/\(l.length<=1048576/\∀c∈l,c.fls.length<=1048576/\c.bef.length<=1048576/\c.dig.length<=1048576):=by
 obtain ⟨es,m3,rfl,hel,he⟩:=jd9 Tryz.underlying31 h;obtain ⟨l,rfl,hl⟩:=jd3 (fun x hx=>typed_crt hx) es he;refine ⟨l,?_,by simpa using hel,hl⟩;rw[cells_crt]
theorem cells_dep:prog.cellsOf 98=2:=kr
theorem typed_dep {m:Nat} {vs:List V} (h:jam prog m 98 vs):∃q:Dep,vs=q.cs/\True:=by
 obtain ⟨m',h⟩:=jcd Tryz.underlying98 h;obtain ⟨a0,b0,rfl,h0,a1,b1,rfl,h1,rfl⟩:=h;obtain ⟨i0,rfl,-⟩:=jan Tryz.underlying3 h0;obtain ⟨i1,rfl,-⟩:=jan Tryz.underlying3 h1;exact ⟨⟨i0,i1⟩,rfl,trivial⟩
theorem typed_deps {m:Nat} {vs:List V} (h:jam prog m 32 vs):∃l:List Dep,vs=[deps l]/\l.length<=1048576:=by
 obtain ⟨es,m3,rfl,hel,he⟩:=jd9 Tryz.underlying32 h;obtain ⟨l,rfl,hl⟩:=jd3 (fun x hx=>typed_dep hx) es he;refine ⟨l,?_,by simpa using hel⟩;rw[cells_dep]
theorem typed_rgs {m:Nat} {vs:List V} (h:jam prog m 34 vs):∃q:Rgs,vs=q.cs/\q.Fit:=by
 obtain ⟨m',h⟩:=jcd Tryz.underlying34 h;obtain ⟨a0,b0,rfl,h0,a1,b1,rfl,h1,a2,b2,rfl,h2,a3,b3,rfl,h3,a4,b4,rfl,h4,a5,b5,rfl,h5,a6,b6,rfl,h6,a7,b7,rfl,h7,a8,b8,rfl,h8,a9,b9,rfl,h9,a10,b10,rfl,h10,a11,b11,rfl,h11,rfl⟩:=h;obtain ⟨l0,rfl,f0⟩:=typed_ofcs h0;obtain ⟨l1,rfl,f1⟩:=typed_plans h1;obtain ⟨l2,rfl,f2⟩:=typed_fils h2;obtain ⟨l3,rfl,f3⟩:=typed_ruls h3;obtain ⟨l4,rfl,f4⟩:=typed_hlds h4;obtain ⟨l5,rfl,f5⟩:=typed_clks h5;obtain ⟨l6,rfl,f6⟩:=typed_sels h6;obtain ⟨l7,rfl,f7⟩:=typed_prps h7;obtain ⟨l8,rfl,f8⟩:=typed_apvs h8;obtain ⟨l9,rfl,f9⟩:=typed_crts h9;obtain ⟨l10,rfl,f10⟩:=typed_deps h10;obtain ⟨n11,rfl,-⟩:=jan Tryz.underlying3 h11;exact ⟨⟨l0,l1,l2,l3,l4,l5,l6,l7,l8,l9,l10,n11⟩,rfl,⟨f0,f1,f2,f3,f4,f5,f6,f7,f8,f9,f10⟩⟩
theorem okT_rgs:okT prog 12 34=true:=kr
theorem op_rgs {b:Nat} {v:Value} {d:DataW H} {p:List MemPlace} (hv:Value.okWide prog W .any b 34 v) (h:DataW.Trod enc prog W 0 (fun _=>true) true 34 v d p) (hb:uptoBulk d<=1048576):
  ∃q:Rgs,Rep (fw W) (.agg q.cs) v/\q.Fit:=by
 obtain ⟨cs,rfl,-⟩:=okWide_struct Tryz.underlying34 hv;obtain ⟨fuel,h⟩:=h;obtain ⟨vs,h1,h2⟩:=jjc 12 fuel _ _ (d,p) h okT_rgs hb;obtain ⟨q,rfl,hq⟩:=typed_rgs h1;exact zb5
end Go.Arc
