/- A part of this claim. -/
import Derived.Test.YtkmmdckcdgopgaaGreatDoorW36
set_option maxRecDepth 100000
namespace Go.Arc
open Go.Ab Go.RowKit Go.Proofs
variable {T : Lay}
abbrev addFV (l:List Fil) (i:Nat) (f:Fil) (n:Note):V:=if addE f n=0 then .tup [fils (l.set i (moreN f n)),vi 0] else .tup [fils [],vi (addE f n)]
theorem addFV_e {l:List Fil} {i:Nat} {f:Fil} {n:Note} {e:Int} (h:addE f n=e) (he:e≠0):addFV l i f n= .tup [fils [],vi e]:=by
 unfold addFV; rw[if_neg (by rw[h]; exact he),h]
theorem addFV_0 {l:List Fil} {i:Nat} {f:Fil} {n:Note} (h:addE f n=0):addFV l i f n= .tup [fils (l.set i (moreN f n)),vi 0]:=if_pos h
theorem wk_two8 {a b c:V} (h:Wk a b):Wk (.tup [a,c]) (.tup [b,c]):= .t2 h (.refl _)
set_option maxHeartbeats 1000000 in
theorem den_Add (L:LibC T) (l:List Fil) (id:Int) (n:Note) (hl:FitsF l) (hn:n.Fit) {i:Nat} {f:Fil} (hi:findF l id=i) (hf:l[i]? = some f):Den Tryz.prog T 36 [fils l,vi id,.agg n.cs] (addFV l i f n):=by
 have hil:=(List.getElem?_eq_some_iff.1 hf).1
 have hl0:=hl.1
 have hfit:=hl.2 f (List.mem_of_getElem? hf)
 refine den_of_body follows (fun args w=>Tryz.call36 args w) Tryz.func36 rfl 67 rfl ?_
 refine run ?_
 refine call (den_FindF l id hl.1) ?_
 rw[hi]
 by_cases h1:16≤f.nts.length
 ·rw[addFV_e (e:=12) (by unfold addE; rw[if_pos h1]) (by decide)]
  refine runW hf ?_
  exact finW (wk_two8 (.nil 8))
 refine runW hf ?_
 refine call (den_free L n.name hn) ?_
 cases h2:freeN n.name
 ·rw[addFV_e (e:=4) (by unfold addE; rw[if_neg h1,if_pos h2]) (by decide)]
  refine run ?_
  exact finW (wk_two8 (.nil 8))
 refine run ?_
 refine call (den_right f n) ?_
 cases h3:rightN f n
 ·rw[addFV_e (e:=2) (by unfold addE; rw[if_neg h1,if_neg (by simp[h2]),if_pos h3]) (by decide)]
  refine run ?_
  exact finW (wk_two8 (.nil 8))
 have tail:lateN f n=false→addE f n=0:=fun h4=>by unfold addE; rw[if_neg h1,if_neg (by simp[h2]),if_neg (by simp[h3]),if_neg (by simp[h4])]
 by_cases h0:f.nts.length=0
 ·have hla:lateN f n=false:=by unfold lateN; rw[if_pos h0]
  rw[addFV_0 (tail hla)]
  refine runW (eq_false (show ¬(0:Int)<(f.nts.length:Int) by omega)) ?_
  refine callX (callNO 53 8 (den_copied l hl i hil) (by omega) ?_)
  have hcl:=cellsF_len l
  have hat:=cellsF_at l i 7 f hf (by decide)
  have hput:=cellsF_put l i 7 f (moreN f n) (ntss (f.nts++[n])) hf (by decide) rfl
  have hcc:=cellsF_chunk (l.set i (moreN f n))
  rw[List.length_set] at hcc
  rw[show (l.map Fil.cs).flatten=cellsF l from rfl]
  generalize cellsF l=C at hcl hat hput
  have hd':C.drop (i*8+7)=ntss f.nts::cellsF (l.drop (i+1)):=hat
  obtain ⟨p,hp⟩:∃p,54000000000+(i*8+7)=p:=⟨_,rfl⟩
  have hge:1000000000≤p:=by omega
  have hof:i*8+7<1000000000:=by omega
  have hpn:∀d,d<1000000000→(p=d)=False:=fun d hd=>eq_false (by omega)
  have hpb:∀d,d<1000000000→(d == p)=false:=fun d hd=>by simp; omega
  have hap:f.nts.map Note.cs++[[.str n.name,vi n.fst,vi n.lst,vi n.rcd]]=(f.nts++[n]).map Note.cs:=by simp
  refine runD hp ?_
  refine aw_tree (.one 0 (.one 1 (.one 2 (.one 3 (.alt 4 (.one 5 (.alt 6 (.alt 7 (.alt 8 (.sort (.alt 9 (.alt 10 (.one 11 (.alt 12 .done .nil)) .nil) .nil)) .nil) .nil) (.alt 7 (.alt 6 (.alt 8 (.sort (.alt 9 (.alt 10 (.one 11 (.alt 12 .done .nil)) .nil) .nil)) .nil) (.alt 8 (.alt 6 (.sort (.alt 9 (.alt 10 (.one 11 (.alt 12 .done .nil)) .nil) .nil)) .nil) .nil)) .nil))) (.alt 7 (.alt 4 (.one 5 (.alt 6 (.alt 8 (.sort (.alt 9 (.alt 10 (.one 11 (.alt 12 .done .nil)) .nil) .nil)) .nil) (.alt 8 (.alt 6 (.sort (.alt 9 (.alt 10 (.one 11 (.alt 12 .done .nil)) .nil) .nil)) .nil) .nil))) (.alt 8 (.alt 4 (.one 5 (.alt 6 (.sort (.alt 9 (.alt 10 (.one 11 (.alt 12 .done .nil)) .nil) .nil)) .nil)) .nil) .nil)) .nil)))))) ?_
  refine runTree (And.intro hp (And.intro hge (And.intro hof (And.intro hd' (And.intro hap (And.intro hput (And.intro (fun d hd=>hpn d hd) (fun d hd=>hpb d hd)))))))) ?_
  refine finF2 (Wk.of ?_) ?_
  ·rw[show fils (l.set i (moreN f n))= .slice 8 ((l.set i (moreN f n)).map Fil.cs) from rfl,← hcc]
  ·rw[cellsF_len,List.length_set]; omega
 obtain ⟨x,hx,-,-⟩:=drop_at (l:=f.nts) (k:=f.nts.length-1) (by omega)
 have hlx:lateN f n=decide (n.rcd<x.rcd):=by unfold lateN; rw[if_neg h0,hx]
 by_cases hr:n.rcd<x.rcd
 ·rw[addFV_e (e:=5) (by unfold addE; rw[if_neg h1,if_neg (by simp[h2]),if_neg (by simp[h3]),if_pos (by rw[hlx]; simp[hr])]) (by decide)]
  refine runW (And.intro hx (eq_true (show (0:Int)<(f.nts.length:Int) by omega))) ?_
  exact finW (wk_two8 (.nil 8))
 ·have hla:lateN f n=false:=by rw[hlx]; simp[hr]
  rw[addFV_0 (tail hla)]
  refine runW (And.intro hx (eq_true (show (0:Int)<(f.nts.length:Int) by omega))) ?_
  refine callX (callNO 53 8 (den_copied l hl i hil) (by omega) ?_)
  have hcl:=cellsF_len l
  have hat:=cellsF_at l i 7 f hf (by decide)
  have hput:=cellsF_put l i 7 f (moreN f n) (ntss (f.nts++[n])) hf (by decide) rfl
  have hcc:=cellsF_chunk (l.set i (moreN f n))
  rw[List.length_set] at hcc
  rw[show (l.map Fil.cs).flatten=cellsF l from rfl]
  generalize cellsF l=C at hcl hat hput
  have hd':C.drop (i*8+7)=ntss f.nts::cellsF (l.drop (i+1)):=hat
  obtain ⟨p,hp⟩:∃p,54000000000+(i*8+7)=p:=⟨_,rfl⟩
  have hge:1000000000≤p:=by omega
  have hof:i*8+7<1000000000:=by omega
  have hpn:∀d,d<1000000000→(p=d)=False:=fun d hd=>eq_false (by omega)
  have hpb:∀d,d<1000000000→(d == p)=false:=fun d hd=>by simp; omega
  have hap:f.nts.map Note.cs++[[.str n.name,vi n.fst,vi n.lst,vi n.rcd]]=(f.nts++[n]).map Note.cs:=by simp
  refine runD hp ?_
  refine aw_tree (.one 0 (.one 1 (.one 2 (.one 3 (.alt 4 (.one 5 (.alt 6 (.alt 7 (.alt 8 (.sort (.alt 9 (.alt 10 (.one 11 (.alt 12 .done .nil)) .nil) .nil)) .nil) .nil) (.alt 7 (.alt 6 (.alt 8 (.sort (.alt 9 (.alt 10 (.one 11 (.alt 12 .done .nil)) .nil) .nil)) .nil) (.alt 8 (.alt 6 (.sort (.alt 9 (.alt 10 (.one 11 (.alt 12 .done .nil)) .nil) .nil)) .nil) .nil)) .nil))) (.alt 7 (.alt 4 (.one 5 (.alt 6 (.alt 8 (.sort (.alt 9 (.alt 10 (.one 11 (.alt 12 .done .nil)) .nil) .nil)) .nil) (.alt 8 (.alt 6 (.sort (.alt 9 (.alt 10 (.one 11 (.alt 12 .done .nil)) .nil) .nil)) .nil) .nil))) (.alt 8 (.alt 4 (.one 5 (.alt 6 (.sort (.alt 9 (.alt 10 (.one 11 (.alt 12 .done .nil)) .nil) .nil)) .nil)) .nil) .nil)) .nil)))))) ?_
  refine runTree (And.intro hp (And.intro hge (And.intro hof (And.intro hd' (And.intro hap (And.intro hput (And.intro (fun d hd=>hpn d hd) (fun d hd=>hpb d hd)))))))) ?_
  refine finF2 (Wk.of ?_) ?_
  ·rw[show fils (l.set i (moreN f n))= .slice 8 ((l.set i (moreN f n)).map Fil.cs) from rfl,← hcc]
  ·rw[cellsF_len,List.length_set]; omega
end Go.Arc
