/- A part of this claim. -/
import Derived.Test.YtcmpmdgdchmojaaGreatDoorBaD
namespace Go.Ab
open Go.RowKit
variable {P : Program} {T : Lay}
abbrev tfSt (st:St) (i k n size:Nat) (ds:List V):St:=⟨st.n,(i,.v (.slice size (chunk 0 n size ds)))::st.t,frz1 k st.h,remo i st.o⟩
theorem tmp_frz {M:Nat→Prop} {F0 F:Frz} {w0 w:World} {ρ:Nat→Nat} {st:St} {a:Act} (S:SimS P T M F0 w0 F ρ st a w) {i k n size:Nat} {ds:List V}
  (h1:look i st.t=some (.s k 0 n size)) (h2:look k st.h=some (.var ds)) (h3:n*size≤ds.length):
  ∃F',SimS P T M F0 w0 F' ρ (tfSt st i k n size ds) a w:=by
 obtain ⟨F',S1⟩:=frz1_sound S k
 have hcon:look k (frz1 k st.h)=some (.con ds):=by rw[frz1_look,if_pos rfl,h2]; rfl
 refine ⟨F',?_⟩
 obtain ⟨⟨g,q1,q2,q3⟩,_⟩:=S1.hp k _ hcon
 obtain ⟨x,g1,cap,g2,g3,g4,rfl⟩:=S.tm i _ h1
 have hrep:=chunk_rep (b:=ρ k) (off:=0) (n:=n) (size:=size) (cap:=cap) q1 q2 q3 (by omega) g2 g3
 have:=Sim.putr (d:=i) S1 (tv:= .v (.slice size (chunk 0 n size ds))) hrep trivial (by have:=(Array.getElem?_eq_some_iff.1 g1).1; rw[← S.n]; exact this)
 rw[put_same g1] at this
 unfold SimS
 rw[σ_cons]
 exact this
theorem aw_tfrz {c:Code} {st:St} {Q:AX→St→Prop} (i k n size:Nat) (ds:List V) (h1:look i st.t=some (.s k 0 n size)) (h2:look k st.h=some (.var ds)) (h3:n*size≤ds.length)
  (h:aw P T c (tfSt st i k n size ds) Q):aw P T c st Q:=by
 unfold aw at h ⊢
 intro rd M F0 w0 F ρ a w hR S
 obtain ⟨F',S'⟩:=tmp_frz S h1 h2 h3
 exact h rd M F0 w0 F' ρ a w hR S'
theorem aw_meets {P:Program} {α:Type} {G:Prop} {c:Code} {Q:AX→St→Prop} (k:Kp) (φ:α→Prop) (S:α→St) (h:(∀st x,φ x→keepS k st=some (S x)→aw P T c st Q)→G) (h2:∀x,φ x→aw P T c (S x) Q):G:=h fun _ x hx hk=>aw_keep k hk (h2 x hx)
section rows
variable {α : Type} {cs : α → List V} {z : Nat}
theorem row_len (hz:∀x,(cs x).length=z):∀l:List α,((l.map cs).flatten).length=l.length*z
 | []=>by simp
 | x::l=>by
  have:=row_len hz l
  rw[List.map_cons,List.flatten_cons,List.length_append,this,hz,List.length_cons,Nat.succ_mul,Nat.add_comm]
theorem row_split {l:List α} {k:Nat} {x:α} (h:l[k]? = some x) (y:α):l=l.take k++x::l.drop (k+1)∧l.set k y=l.take k++y::l.drop (k+1):=by
 obtain ⟨hlt,rfl⟩:=List.getElem?_eq_some_iff.1 h
 exact ⟨by rw[List.getElem_cons_drop,List.take_append_drop],List.set_eq_take_append_cons_drop.trans (if_pos hlt)⟩
theorem row_at (hz:∀x,(cs x).length=z) {l:List α} {k:Nat} {x:α} (h:l[k]? = some x):∃A B,(l.map cs).flatten=A++(cs x++B)∧A.length=k*z∧∀y:α,((l.set k y).map cs).flatten=A++(cs y++B):=by
 obtain ⟨hlt,-⟩:=List.getElem?_eq_some_iff.1 h
 refine ⟨((l.take k).map cs).flatten,((l.drop (k+1)).map cs).flatten,?_,?_,fun y=> ?_⟩
 ·have h1:=(row_split h x).1
  conv=>lhs; rw[h1]
  rw[List.map_append,List.flatten_append,List.map_cons,List.flatten_cons]
 ·rw[row_len hz,List.length_take,Nat.min_eq_left (by omega)]
 ·rw[(row_split h y).2,List.map_append,List.flatten_append,List.map_cons,List.flatten_cons]
theorem row_drop (hz:∀x,(cs x).length=z):∀(l:List α) (i:Nat),((l.map cs).flatten).drop (i*z)=((l.drop i).map cs).flatten
 | l,0=>by rw[Nat.zero_mul]; rfl
 | [],i+1=>by simp
 | p::l,i+1=>by
  have ih:=row_drop hz l i
  rw[List.map_cons,List.flatten_cons,List.drop_succ_cons,← ih,show (i+1)*z=(cs p).length+i*z by rw[hz,Nat.succ_mul,Nat.add_comm],List.drop_length_add_append]
theorem row_chunk (hz:∀x,(cs x).length=z) (l:List α):chunk 0 l.length z ((l.map cs).flatten)=l.map cs:=by
 apply List.ext_getElem?
 intro i
 simp only[chunk,List.getElem?_map,Nat.zero_add]
 by_cases h:i<l.length
 ·rw[List.getElem?_range h,List.getElem?_eq_getElem h]
  simp only[Option.map_some]
  rw[row_drop hz,List.drop_eq_getElem_cons h,List.map_cons,List.flatten_cons,List.take_left' (hz _)]
 ·rw[List.getElem?_eq_none (by simpa using h),List.getElem?_eq_none (by omega)]; rfl
end rows
end Go.Ab
