/-
 What registries read as.
-/
import Derived.Test.YtpaallejmocmaaaGreatDoorCl10
set_option maxRecDepth 100000
namespace Go.Arc
open Go.Ab Go.RowKit Go.Proofs Go.ChangeShapes Go.WideShapes Go.ChangeAt Tryz
open Go.Proofs.YtpaallejmocmaaaGreatDoor.Rows (uptoBulk uptoBulkAll)
variable {H : Type}{enc : TypeId × Value -> H}{W : World}
variable {vs:List V}{m:Nat}
theorem and_i{a b:Bool}(ha:a=true)(hb:b=true):(a && b)=true:=by rw[ha,hb];rfl
theorem qhl{P:Program}{t:TypeId}(ht:P.underlying t=some .bool)(h:bd P m t vs):∃b,vs=[.val (.bool b)]:=by
 cases m with
 |zero=>exact h.elim
 |succ m=>simpa only[bd,ht] using h
theorem qnk:prog.cellsOf 107=8:=krq
theorem qkb(h:bd prog m 107 vs):∃q:Rul,vs=q.cs/\q.Fit:=by
 obtain⟨m',h⟩:=ep Tryz.underlying107 h;obtain⟨a0,b0,rfl,h0,a1,b1,rfl,h1,a2,b2,rfl,h2,a3,b3,rfl,h3,a4,b4,rfl,h4,a5,b5,rfl,h5,a6,b6,rfl,h6,rfl⟩:=h;obtain⟨i0,rfl,-⟩:=be Tryz.underlying3 h0;obtain⟨s1,rfl,hs1⟩:=jm Tryz.underlying9 h1;obtain⟨s2,rfl,hs2⟩:=jm Tryz.underlying9 h2;obtain⟨i3,rfl,-⟩:=be Tryz.underlying3 h3;obtain⟨t4,rfl⟩:=qhl Tryz.underlying4 h4;obtain⟨i5,rfl,-⟩:=be Tryz.underlying3 h5;obtain⟨m''6,h6⟩:=ep Tryz.underlying54 h6;obtain⟨c0,d0,rfl,g0,c1,d1,rfl,g1,rfl⟩:=h6;obtain⟨frm,rfl,-⟩:=be Tryz.underlying3 g0;obtain⟨til,rfl,-⟩:=be Tryz.underlying3 g1;exact⟨⟨i0,s1,s2,i3,t4,i5,frm,til⟩,rfl,hs1,hs2⟩
theorem qhb(h:bd prog m 25 vs):∃l:List Rul,vs=[ruls l]/\rn l:=by
 obtain⟨es,m3,rfl,hel,he⟩:=gt Tryz.underlying25 h;obtain⟨l,rfl,hl⟩:=gi (fun x hx=>qkb hx) es he;refine⟨l,?_,by simpa using hel,hl⟩;rw[qnk]
theorem qnt:prog.cellsOf 56=5:=krq
theorem qkl(h:bd prog m 56 vs):∃q:Clk,vs=q.cs/\q.name.length<=1048576:=by
 obtain⟨m',h⟩:=ep Tryz.underlying56 h;obtain⟨a0,b0,rfl,h0,a1,b1,rfl,h1,a2,b2,rfl,h2,a3,b3,rfl,h3,rfl⟩:=h;obtain⟨i0,rfl,-⟩:=be Tryz.underlying3 h0;obtain⟨i1,rfl,-⟩:=be Tryz.underlying3 h1;obtain⟨s2,rfl,hs2⟩:=jm Tryz.underlying9 h2;obtain⟨m''3,h3⟩:=ep Tryz.underlying54 h3;obtain⟨c0,d0,rfl,g0,c1,d1,rfl,g1,rfl⟩:=h3;obtain⟨frm,rfl,-⟩:=be Tryz.underlying3 g0;obtain⟨til,rfl,-⟩:=be Tryz.underlying3 g1;exact⟨⟨i0,i1,s2,frm,til⟩,rfl,hs2⟩
theorem qhk(h:bd prog m 27 vs):∃l:List Clk,vs=[clks l]/\(l.length<=1048576/\∀c∈l,c.name.length<=1048576):=by
 obtain⟨es,m3,rfl,hel,he⟩:=gt Tryz.underlying27 h;obtain⟨l,rfl,hl⟩:=gi (fun x hx=>qkl hx) es he;refine⟨l,?_,by simpa using hel,hl⟩;rw[qnt]
theorem qnj:prog.cellsOf 125=3:=krq
theorem qka(h:bd prog m 125 vs):∃q:Sel,vs=q.cs/\q.fls.length<=1048576:=by
 obtain⟨m',h⟩:=ep Tryz.underlying125 h;obtain⟨a0,b0,rfl,h0,a1,b1,rfl,h1,a2,b2,rfl,h2,rfl⟩:=h;obtain⟨i0,rfl,-⟩:=be Tryz.underlying3 h0;obtain⟨i1,rfl,-⟩:=be Tryz.underlying3 h1;obtain⟨es2,m32,rfl,hel2,he2⟩:=gt Tryz.underlying37 h2;obtain⟨ns2,rfl,hn2⟩:=gi (fun x hx=>jfx hx) es2 he2;refine⟨⟨i0,i1,ns2⟩,?_,by simpa using hel2⟩;rw[jh3];rfl
theorem qha(h:bd prog m 28 vs):∃l:List Sel,vs=[sels l]/\(l.length<=1048576/\∀c∈l,c.fls.length<=1048576):=by
 obtain⟨es,m3,rfl,hel,he⟩:=gt Tryz.underlying28 h;obtain⟨l,rfl,hl⟩:=gi (fun x hx=>qka hx) es he;refine⟨l,?_,by simpa using hel,hl⟩;rw[qnj]
theorem qnl:prog.cellsOf 58=5:=krq
theorem qkd(h:bd prog m 58 vs):∃q:Prp,vs=q.cs/\q.fls.length<=1048576:=by
 obtain⟨m',h⟩:=ep Tryz.underlying58 h;obtain⟨a0,b0,rfl,h0,a1,b1,rfl,h1,a2,b2,rfl,h2,a3,b3,rfl,h3,a4,b4,rfl,h4,rfl⟩:=h;obtain⟨i0,rfl,-⟩:=be Tryz.underlying3 h0;obtain⟨i1,rfl,-⟩:=be Tryz.underlying3 h1;obtain⟨i2,rfl,-⟩:=be Tryz.underlying3 h2;obtain⟨es3,m33,rfl,hel3,he3⟩:=gt Tryz.underlying37 h3;obtain⟨ns3,rfl,hn3⟩:=gi (fun x hx=>jfx hx) es3 he3;obtain⟨i4,rfl,-⟩:=be Tryz.underlying3 h4;refine⟨⟨i0,i1,i2,ns3,i4⟩,?_,by simpa using hel3⟩;rw[jh3];rfl
theorem qhc(h:bd prog m 29 vs):∃l:List Prp,vs=[prps l]/\(l.length<=1048576/\∀c∈l,c.fls.length<=1048576):=by
 obtain⟨es,m3,rfl,hel,he⟩:=gt Tryz.underlying29 h;obtain⟨l,rfl,hl⟩:=gi (fun x hx=>qkd hx) es he;refine⟨l,?_,by simpa using hel,hl⟩;rw[qnl]
theorem qnu:prog.cellsOf 96=3:=krq
theorem qkm(h:bd prog m 96 vs):∃q:Apv,vs=q.cs/\True:=by
 obtain⟨m',h⟩:=ep Tryz.underlying96 h;obtain⟨a0,b0,rfl,h0,a1,b1,rfl,h1,a2,b2,rfl,h2,rfl⟩:=h;obtain⟨i0,rfl,-⟩:=be Tryz.underlying3 h0;obtain⟨i1,rfl,-⟩:=be Tryz.underlying3 h1;obtain⟨i2,rfl,-⟩:=be Tryz.underlying3 h2;exact⟨⟨i0,i1,i2⟩,rfl,trivial⟩
theorem qhm(h:bd prog m 30 vs):∃l:List Apv,vs=[apvs l]/\l.length<=1048576:=by
 obtain⟨es,m3,rfl,hel,he⟩:=gt Tryz.underlying30 h;obtain⟨l,rfl,hl⟩:=gi (fun x hx=>qkm hx) es he;refine⟨l,?_,by simpa using hel⟩;rw[qnu]
theorem qnr:prog.cellsOf 39=6:=krq
theorem qkj(h:bd prog m 39 vs):∃q:Crt,vs=q.cs/\(q.fls.length<=1048576/\q.bef.length<=1048576/\q.dig.length<=1048576):=by
 obtain⟨m',h⟩:=ep Tryz.underlying39 h;obtain⟨a0,b0,rfl,h0,a1,b1,rfl,h1,a2,b2,rfl,h2,a3,b3,rfl,h3,a4,b4,rfl,h4,a5,b5,rfl,h5,rfl⟩:=h;obtain⟨i0,rfl,-⟩:=be Tryz.underlying3 h0;obtain⟨i1,rfl,-⟩:=be Tryz.underlying3 h1;obtain⟨i2,rfl,-⟩:=be Tryz.underlying3 h2;obtain⟨es3,m33,rfl,hel3,he3⟩:=gt Tryz.underlying37 h3;obtain⟨ns3,rfl,hn3⟩:=gi (fun x hx=>jfx hx) es3 he3;obtain⟨s4,rfl,hs4⟩:=jm Tryz.underlying9 h4;obtain⟨s5,rfl,hs5⟩:=jm Tryz.underlying9 h5;refine⟨⟨i0,i1,i2,ns3,s4,s5⟩,?_,by simpa using hel3,hs4,hs5⟩;rw[jh3];rfl
theorem qhj(h:bd prog m 31 vs):∃l:List Crt,vs=[crts l]/\(l.length<=1048576/\∀c∈l,c.fls.length<=1048576/\c.bef.length<=1048576/\c.dig.length<=1048576):=by
 obtain⟨es,m3,rfl,hel,he⟩:=gt Tryz.underlying31 h;obtain⟨l,rfl,hl⟩:=gi (fun x hx=>qkj hx) es he;refine⟨l,?_,by simpa using hel,hl⟩;rw[qnr]
theorem qnq:prog.cellsOf 64=2:=krq
theorem qki(h:bd prog m 64 vs):∃q:Dep,vs=q.cs/\True:=by
 obtain⟨m',h⟩:=ep Tryz.underlying64 h;obtain⟨a0,b0,rfl,h0,a1,b1,rfl,h1,rfl⟩:=h;obtain⟨i0,rfl,-⟩:=be Tryz.underlying3 h0;obtain⟨i1,rfl,-⟩:=be Tryz.underlying3 h1;exact⟨⟨i0,i1⟩,rfl,trivial⟩
theorem qhi(h:bd prog m 32 vs):∃l:List Dep,vs=[deps l]/\l.length<=1048576:=by
 obtain⟨es,m3,rfl,hel,he⟩:=gt Tryz.underlying32 h;obtain⟨l,rfl,hl⟩:=gi (fun x hx=>qki hx) es he;refine⟨l,?_,by simpa using hel⟩;rw[qnq]
theorem qkc(h:bd prog m 34 vs):∃q:Rgs,vs=q.cs/\q.Fit:=by
 obtain⟨m',h⟩:=ep Tryz.underlying34 h;obtain⟨a0,b0,rfl,h0,a1,b1,rfl,h1,a2,b2,rfl,h2,a3,b3,rfl,h3,a4,b4,rfl,h4,a5,b5,rfl,h5,a6,b6,rfl,h6,a7,b7,rfl,h7,a8,b8,rfl,h8,a9,b9,rfl,h9,a10,b10,rfl,h10,a11,b11,rfl,h11,rfl⟩:=h;obtain⟨l0,rfl,f0⟩:=qhe h0;obtain⟨l1,rfl,f1⟩:=qg7 h1;obtain⟨l2,rfl,f2⟩:=qhh h2;obtain⟨l3,rfl,f3⟩:=qhb h3;obtain⟨l4,rfl,f4⟩:=qhg h4;obtain⟨l5,rfl,f5⟩:=qhk h5;obtain⟨l6,rfl,f6⟩:=qha h6;obtain⟨l7,rfl,f7⟩:=qhc h7;obtain⟨l8,rfl,f8⟩:=qhm h8;obtain⟨l9,rfl,f9⟩:=qhj h9;obtain⟨l10,rfl,f10⟩:=qhi h10;obtain⟨n11,rfl,-⟩:=be Tryz.underlying3 h11;exact⟨⟨l0,l1,l2,l3,l4,l5,l6,l7,l8,l9,l10,n11⟩,rfl,⟨f0,f1,f2,f3,f4,f5,f6,f7,f8,f9,f10⟩⟩
theorem qrw:okT prog 12 34=true:=krq
theorem qtr{b:Nat}{v:Value}{d:DataW H}{p:List MemPlace}(hv:Value.okWide prog W .any b 34 v)(h:DataW.Trod enc prog W 0 (fun _=>true) true 34 v d p)(hb:uptoBulk d<=1048576):
  ∃q:Rgs,Rep (fw W) (.agg q.cs) v/\q.Fit:=by
 obtain⟨cs,rfl,-⟩:=okWide_struct Tryz.underlying34 hv;obtain⟨fuel,h⟩:=h;obtain⟨vs,h1,h2⟩:=jfy 12 fuel _ _ (d,p) h qrw hb;obtain⟨q,rfl,hq⟩:=qkc h1;exact⟨q,.agg h2.len.symm h2.one fun j c x e1 e2=>h2.rep j c x e1 (by show cs.toList[j]?=some x;simpa using e2),hq⟩
end Go.Arc
