/- A part of this claim. -/
import Derived.Test.YtkmmdckcdgopgaaGreatDoorBaT
import Derived.Test.YtkmmdckcdgopgaaGreatDoorBaS
set_option maxRecDepth 100000
namespace Go.Arc
open Go.Ab Go.RowKit Go.Proofs
variable {T : Lay}
def cellsF (l:List Fil):List V:=(l.map Fil.cs).flatten
theorem cellsF_cons (x:Fil) (l:List Fil):cellsF (x::l)=x.cs++cellsF l:=rfl
theorem cellsF_len:∀(l:List Fil),(cellsF l).length=l.length*8
 | []=>rfl
 | x::l=>by rw[cellsF_cons,List.length_append,cellsF_len l,List.length_cons]; simp only[List.length_cons,List.length_nil]; omega
theorem cellsF_at:∀(l:List Fil) (i j:Nat) (x:Fil),l[i]? = some x→j≤8→(cellsF l).drop (i*8+j)=x.cs.drop j++cellsF (l.drop (i+1))
 | [],i,j,x,h,_=>by simp at h
 | y::r,0,j,x,h,hj=>by
  simp only[List.getElem?_cons_zero,Option.some.injEq] at h
  subst h
  rw[cellsF_cons,Nat.zero_mul,Nat.zero_add,List.drop_append_of_le_length (by simp; omega)]
  rfl
 | y::r,i+1,j,x,h,hj=>by
  simp only[List.getElem?_cons_succ] at h
  have e:(i+1)*8+j=y.cs.length+(i*8+j):=by simp only[List.length_cons,List.length_nil]; omega
  rw[cellsF_cons,e,List.drop_length_add_append,cellsF_at r i j x h hj]
  rfl
theorem cellsF_put:∀(l:List Fil) (i j:Nat) (x y:Fil) (v:V),l[i]? = some x→j<8→x.cs.take j++[v]++x.cs.drop (j+1)=y.cs→(cellsF l).take (i*8+j)++[v]++(cellsF l).drop (i*8+j+1)=cellsF (l.set i y)
 | [],i,j,x,y,v,h,_,_=>by simp at h
 | z::r,0,j,x,y,v,h,hj,he=>by
  simp only[List.getElem?_cons_zero,Option.some.injEq] at h
  subst h
  rw[List.set_cons_zero,cellsF_cons,cellsF_cons,Nat.zero_mul,Nat.zero_add,← he]
  rw[List.take_append_of_le_length (by simp; omega),List.drop_append_of_le_length (by simp; omega)]
  simp only[List.append_assoc]
 | z::r,i+1,j,x,y,v,h,hj,he=>by
  simp only[List.getElem?_cons_succ] at h
  have ih:=cellsF_put r i j x y v h hj he
  have e1:(i+1)*8+j=z.cs.length+(i*8+j):=by simp only[List.length_cons,List.length_nil]; omega
  have e2:(i+1)*8+j+1=z.cs.length+(i*8+j+1):=by simp only[List.length_cons,List.length_nil]; omega
  rw[List.set_cons_succ,cellsF_cons,cellsF_cons,← ih,e2,e1,List.take_length_add_append,List.drop_length_add_append]
  simp only[List.append_assoc]
theorem set_same {α:Type} {l:List α} {i:Nat} {x:α} (h:l[i]? = some x):l.set i x=l:=by
 obtain ⟨hlt,rfl⟩:=List.getElem?_eq_some_iff.1 h
 exact List.set_getElem_self hlt
theorem cellsF_chunk (l:List Fil):chunk 0 l.length 8 (cellsF l)=l.map Fil.cs:=by
 refine List.ext_getElem? fun i=> ?_
 simp only[chunk,List.getElem?_map]
 by_cases h:i<l.length
 ·rw[List.getElem?_range h,List.getElem?_eq_getElem h]
  simp only[Option.map_some,Nat.zero_add,Option.some.injEq]
  have:=cellsF_at l i 0 _ (List.getElem?_eq_getElem h) (by omega)
  rw[Nat.add_zero,List.drop_zero] at this
  rw[this]
  simp
 ·rw[List.getElem?_eq_none (l:=List.range l.length) (by simp; omega),List.getElem?_eq_none (l:=l) (by omega)]
  rfl
theorem denN_cloneFil (l:List Fil) (hl:l.length≤1048576):DenN Tryz.prog T 175 [fils l] 8 (l.map Fil.cs):=by
 refine denN_of_body follows (fun args w=>Tryz.call175 args w) Tryz.func175 rfl 8 rfl ?_
 cases l with
 | nil=>
  refine run ?_
  intro b
  cases b
  ·refine run ?_
   exact finN0 rfl (.refl _)
  ·refine run ?_
   exact finN0 rfl (.nil 8)
 | cons x r=>
  have h:r.length+1≤1048576:=hl
  have e:fils (x::r)= .slice 8 (x.cs::r.map Fil.cs):=rfl
  rw[e]
  refine runB trivial ?_
  refine appO_l ?_
  refine run ?_
  refine finN (id:=7) [] ?_ ?_
  ·simp only[σ_mk,look_cons',↓reduceIte,List.length_map,List.length_cons,List.map_cons]
  ·rw[List.append_nil]; rfl
theorem den_copied (l:List Fil) (hl:FitsF l) (i:Nat) (hi:i<l.length):DenNO Tryz.prog T 95 [fils l] (l.map Fil.cs) 91 (i*8+7):=by
 have hl0:=hl.1
 refine denNO_of_body follows (fun args w=>Tryz.call95 args w) Tryz.func95 rfl 24 rfl ?_
 refine run ?_
 refine callN (denN_cloneFil l hl0) ?_ ?_
 ·intro h
  have:l=[]:=by simpa using h
  subst this
  exact absurd hi (Nat.not_lt_zero _)
 intro _
 have hcl:=cellsF_len l
 have hat:=cellsF_at l
 have hput:=cellsF_put l
 rw[show (l.map Fil.cs).flatten=cellsF l from rfl]
 obtain ⟨C,hC⟩:∃C,cellsF l=C:=⟨_,rfl⟩
 rw[hC] at hcl
 simp only[hC] at hat hput
 rw[hC]
 obtain ⟨p,hp⟩:∃p,7000000000+(i*8+7)=p:=⟨_,rfl⟩
 have hplc:plc 6 (i*8+7)=p:=by rw[← hp]; rfl
 have hpid:pid p=6:=by rw[← hplc]; exact pid_plc (by omega)
 have hge:1000000000≤p:=by omega
 have hpn:∀d,d<1000000000→(p=d)=False:=fun d hd=>eq_false (by omega)
 have hpb:∀d,d<1000000000→(d == p)=false:=fun d hd=>by simp; omega
 have hpe:∀d,d<1000000000→(d=p)=False:=fun d hd=>eq_false (by omega)
 refine run ?_
 refine loopV (fun y:Nat×Bool=>⟨[3,8,9],[6],if y.2=true then [p] else [],[]⟩) (fun y=>y.1≤l.length∧(y.2=true↔i<y.1)) (fun y=>l.length-y.1)
  (fun y=>⟨24,[(3,.s 6 0 l.length 8),(8,.v (vi l.length)),(9,.v (vi y.1))],[(6,.var C)],if y.2=true then [(91,[p])] else []⟩) (0,false) ⟨by simp,by simp⟩ ?_ ?_
 ·simp only; rfl
 rintro ⟨k,b⟩ ⟨hk,hb⟩
 simp only at hk hb
 by_cases hlt:k<l.length
 ·obtain ⟨f,hf,-,hm⟩:=drop_at hlt
  have hfit:=hl.2 f hm
  have hof:k*8+7<1000000000:=by omega
  have hd:=hat k 7 f hf (by omega)
  have hs:=hput k 7 f f (ntss f.nts) hf (by omega) rfl
  rw[set_same hf,hC] at hs
  have hd':C.drop (k*8+7)=ntss f.nts::cellsF (l.drop (k+1)):=hd
  cases b with
  | false=>
   have hki:¬i<k:=fun h=>by have:=hb.2 h; cases this
   simp only[Bool.false_eq_true,if_false]
   by_cases hik:k=i
   ·subst hik
    refine runW hd' ?_
    refine callO (den_cloneNote f.nts hfit.2.2.1) ?_
    refine runW (And.intro hp (And.intro hof (And.intro hs (And.intro (fun d hd=>hpb d hd) (And.intro (fun d hd=>hpe d hd) (fun d hd=>hpn d hd)))))) ?_
    refine roundV (k+1,true) ⟨by simp only; omega,by simp⟩ (by simp only; omega) ?_
    simp only[if_true]
    refine keep_own ?_ ?_ (ht:= ?_) (hh:= ?_)
    ·simp
    ·simp[hpid]
    ·rfl
    ·rfl
   ·refine runW hd' ?_
    refine call (den_cloneNote f.nts hfit.2.2.1).den ?_
    refine runW (And.intro hof hs) ?_
    refine roundV (k+1,false) ⟨by simp only; omega,by simp only; constructor; (intro h; cases h); (intro h; omega)⟩ (by simp only; omega) ?_
    rfl
  | true=>
   have hki:i<k:=hb.1 rfl
   simp only[if_true]
   have hq:(7000000000+(k*8+7) == p)=false:=by simp; omega
   have hr:remC 6 (k*8+7) 1 [(91,[p])]=[(91,[p])]:=by
    unfold remC
    simp only[List.map_cons,List.map_nil,List.cons.injEq,Prod.mk.injEq,true_and,and_true]
    rw[List.filter_eq_self]
    intro a ha
    simp only[List.mem_singleton] at ha
    subst ha
    have:Nat.blt a (plc 6 (k*8+7)+1)=false∨Nat.ble (plc 6 (k*8+7)) a=false:=by
     right
     cases hbb:Nat.ble (plc 6 (k*8+7)) a
     ·rfl
     ·have:=Nat.le_of_ble_eq_true hbb
      unfold plc at this
      omega
    rcases this with h | h <;> simp[h]
   have hq':(7000000000+(k*8+7)=p)=False:=eq_false (by omega)
   refine runW (And.intro hd' (And.intro hge (And.intro hof (And.intro hq (And.intro hq' (fun d hd=>hpn d hd)))))) ?_
   refine call (den_cloneNote f.nts hfit.2.2.1).den ?_
   refine runW (And.intro hge (And.intro hof (And.intro hq (And.intro hq' (And.intro hr (And.intro hs (And.intro (fun d hd=>hpb d hd) (And.intro (fun d hd=>hpe d hd) (fun d hd=>hpn d hd))))))))) ?_
   refine roundV (k+1,true) ⟨by simp only; omega,by simp; omega⟩ (by simp only; omega) ?_
   simp only[if_true]
   refine keep_own ?_ ?_ (ht:= ?_) (hh:= ?_)
   ·simp
   ·simp[hpid]
   ·rfl
   ·rfl
 ·have hb':b=true:=hb.2 (by omega)
  subst hb'
  simp only[if_true]
  refine runW (And.intro (fun d hd=>hpb d hd) (And.intro (fun d hd=>hpe d hd) (fun d hd=>hpn d hd))) ?_
  refine finNO (id:=6) (size:=8) [] ?_ ?_ ?_ (by omega)
  ·simp only[σ_mk,look_cons',↓reduceIte,List.length_map]
  ·rw[List.append_nil]
   show _=some (Blk.var (cellsF l))
   rw[hC]; rfl
  ·rw[hplc]
   simp[ownOf]
end Go.Arc
