/- A part of this claim. -/
import Derived.Test.YtagljlfkpofdnaaGreatDoorBaT
import Derived.Test.YtagljlfkpofdnaaGreatDoorBaS
set_option maxRecDepth 100000
namespace Go.Arc
open Go.Ab Go.RowKit Go.Proofs
variable {T : Lay}
def cellsF (l:List Fil):List V:=(l.map Fil.cs).flatten
theorem cellsF_cons (x:Fil) (l:List Fil):cellsF (x::l)=x.cs++cellsF l:=rfl
theorem cellsF_len:∀(l:List Fil),(cellsF l).length=l.length*8
 | []=>rfl
 | x::l=>by rw[cellsF_cons,List.length_append,cellsF_len l,List.length_cons]; simp only[List.length_cons,List.length_nil]; omega
theorem cellsF_at:∀(l:List Fil) (i j:Nat) (x:Fil),l[i]? = some x->j<=8->(cellsF l).drop (i*8+j)=x.cs.drop j++cellsF (l.drop (i+1))
 | [],i,j,x,h,_=>by simp at h
 | y::r,0,j,x,h,hj=>by
  simp only[List.getElem?_cons_zero,Option.some.injEq] at h;subst h;rw[cellsF_cons,Nat.zero_mul,Nat.zero_add,List.drop_append_of_le_length (by simp; omega)];rfl
 | y::r,i+1,j,x,h,hj=>by
  simp only[List.getElem?_cons_succ] at h;have e:(i+1)*8+j=y.cs.length+(i*8+j):=by simp only[List.length_cons,List.length_nil]; omega
  rw[cellsF_cons,e,List.drop_length_add_append,cellsF_at r i j x h hj];rfl
theorem cellsF_chunk (l:List Fil):chunk 0 l.length 8 (cellsF l)=l.map Fil.cs:=by
 refine List.ext_getElem? fun i=> ?_;simp only[chunk,List.getElem?_map];by_cases h:i<l.length
 ·rw[List.getElem?_range h,List.getElem?_eq_getElem h];simp only[Option.map_some,Nat.zero_add,Option.some.injEq];have:=cellsF_at l i 0 _ (List.getElem?_eq_getElem h) (by omega);rw[Nat.add_zero,List.drop_zero] at this;rw[this];simp
 ·rw[List.getElem?_eq_none (l:=List.range l.length) (by simp; omega),List.getElem?_eq_none (l:=l) (by omega)];rfl
theorem denN_cloneFil (l:List Fil) (hl:l.length<=1048576):DenN Tryz.prog T 63 [fils l] 8 (l.map Fil.cs):=by
 refine denN_of_body follows (fun args w=>Tryz.call63 args w) Tryz.func63 rfl 8 rfl ?_;cases l with
 | nil=>
  refine run ?_;intro b;cases b
  ·refine run ?_;exact finN0 rfl (.refl _)
  ·refine run ?_;exact finN0 rfl (.nil 8)
 | cons x r=>
  have h:r.length+1<=1048576:=hl;have e:fils (x::r)= .slice 8 (x.cs::r.map Fil.cs):=rfl;rw[e];refine runB trivial ?_;refine appO_l ?_;refine run ?_;refine finN (id:=7) [] ?_ ?_
  ·simp only[σ_mk,look_cons',↓reduceIte,List.length_map,List.length_cons,List.map_cons]
  ·rw[List.append_nil]; rfl
end Go.Arc
