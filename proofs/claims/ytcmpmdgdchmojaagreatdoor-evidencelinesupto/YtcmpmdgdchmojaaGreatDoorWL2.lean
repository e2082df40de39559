/- A part of this claim. -/
import Derived.Test.YtcmpmdgdchmojaaGreatDoorWL
import Derived.Test.YtcmpmdgdchmojaaGreatDoorBaS
set_option maxRecDepth 100000
namespace Go.Arc
open Go.Ab Go.RowKit Go.Proofs
variable {T : Lay}
theorem splitC_cnt (c0:UInt8):∀(s cur:Str),(splitC c0 cur s).length≤s.length+1
 | [],_=>Nat.le_refl _
 | x::r,cur=>by
  rw[splitC]
  split
  ·have:=splitC_cnt c0 r []
   simp only[List.length_cons]; omega
  ·have:=splitC_cnt c0 r (cur++[x])
   simp only[List.length_cons]; omega
theorem splitKC_eq (c0:UInt8):∀(n:Nat) (s:Str),s.length≤n→Lib.splitK [c0] 0 (Lib.count s [c0]) s=splitC c0 [] s:=by
 intro n
 induction n with
 | zero=>
  intro s h
  have:s=[]:=List.eq_nil_of_length_eq_zero (by omega)
  subst this
  rfl
 | succ n ih=>
  intro s h
  rcases Lib.index_spec s [c0] with ⟨h1,h2⟩ | ⟨i,h1,h2,h3,h4⟩
  ·rw[Lib.count_miss h1]
   simp only[Lib.splitK]
   rw[splitC_none (fun hc=> ?_)]
   ·simp
   ·obtain ⟨j,hj,he⟩:=List.mem_iff_getElem.1 hc
    have:=h2 j (by omega)
    rw[(occ_one s c0 j).2 (by rw[← he]; exact List.getElem?_eq_getElem hj)] at this
    cases this
  ·rw[Lib.count_hit (by simp) h1,Nat.add_comm]
   have hi:=(occ_one s c0 i).1 h3
   obtain ⟨hlt,hi'⟩:=List.getElem?_eq_some_iff.1 hi
   have hne:¬(Lib.index s [c0] == -1)=true:=by rw[h1]; simp
   have ht:(Lib.index s [c0]).toNat=i:=by rw[h1]; simp
   simp only[Lib.splitK]
   rw[if_neg hne,ht]
   simp only[List.length_cons,List.length_nil,Nat.zero_add,Nat.add_zero]
   rw[ih (s.drop (i+1)) (by simp; omega)]
   have hs:s=s.take i++c0::s.drop (i+1):=by
    conv=>lhs; rw[← List.take_append_drop i s]
    rw[List.drop_eq_getElem_cons hlt,hi']
   conv=>rhs; rw[hs]
   rw[splitC_app (fun hc=> ?_)]
   ·simp
   ·obtain ⟨j,hj,he⟩:=List.mem_iff_getElem.1 hc
    have hji:j<i:=by simp at hj; omega
    have:=h4 j hji
    rw[(occ_one s c0 j).2 (by rw[← he,List.getElem_take,List.getElem?_eq_getElem])] at this
    cases this
theorem splitBC_eq (c0:UInt8) (s:Str):(Lib.splitB ⟨#[c0]⟩ 0 (Lib.countB ⟨s.toArray⟩ ⟨#[c0]⟩) ⟨s.toArray⟩).map (·.data.toList)=splitC c0 [] s:=by
 rw[Lib.splitB_data]
 exact splitKC_eq c0 s.length s (Nat.le_refl _)
theorem lib_splitC (L:LibT T) (c0:UInt8) (s:Str) (hs:s.length≤1048576):Den Tryz.prog T 33 [.str s,.str [c0]] (strs (splitC c0 [] s)):=by
 refine ⟨fun args w=>Tryz.call33 args w,fun w F xs hF hl hx=> ?_⟩
 obtain ⟨x,y,rfl,h1,h2⟩:=reps2 hx
 obtain rfl:=rep_str_inv h1
 obtain rfl:=rep_str_inv h2
 obtain ⟨m,hm⟩:=L.max
 refine (Any.strings_Split Tryz.lays146 (by kernel_rfl) ⟨s.toArray⟩ ⟨#[c0]⟩ m w (show s.toArray.size<_ by simp; omega) (laid_sees hF hl _ _ hm) (Nat.le_refl 1)).mono ?_
 rintro e w' ⟨rfl,rfl⟩
 have hpl:=Lib.splitB_all ⟨#[c0]⟩ (show 0<1 by decide) 0 _ ⟨s.toArray⟩ rfl
 have hpe:=splitBC_eq c0 s
 have hcnt:=splitC_cnt c0 s []
 generalize Lib.splitB ⟨#[c0]⟩ 0 (Lib.countB ⟨s.toArray⟩ ⟨#[c0]⟩) ⟨s.toArray⟩=ps at hpl hpe
 rw[← hpl]
 have hlen:ps.length=(splitC c0 [] s).length:=by rw[← hpe,List.length_map]
 refine ⟨_,addBlk F w.heap.size ps.length (ps.map Value.string).toArray,rfl,ext_alloc hF _ _ _,?_⟩
 have hel:ps.length=((splitC c0 [] s).map Cst).length:=by rw[hlen,List.length_map]
 have key:∀(i:Nat) (e:List V),((splitC c0 [] s).map Cst)[i]? = some e→∃p:ByteArray,ps[i]? = some p∧e=Cst p.data.toList:=by
  intro i e he
  rw[← hpe] at he
  simp only[List.map_map,List.getElem?_map,Option.map_eq_some_iff] at he
  obtain ⟨p,hp,rfl⟩:=he
  exact ⟨p,hp,rfl⟩
 have hlt:∀(i:Nat) (p:ByteArray),ps[i]? = some p→i<ps.length:=fun i p h=>(List.getElem?_eq_some_iff.1 h).1
 have:=Rep.slice (F:=addBlk F w.heap.size ps.length (ps.map Value.string).toArray) (size:=1) (es:=(splitC c0 [] s).map Cst) (a:=⟨w.heap.size,0,none⟩) (cap:=ps.length)
  (fun i _=> .string (ps.getD i ByteArray.empty)) (by omega) (by unfold maxLen; omega) (by intro e he; obtain ⟨t,-,rfl⟩:=List.mem_map.1 he; rfl)
  (by intro e he c hc; obtain ⟨t,-,rfl⟩:=List.mem_map.1 he; simp at hc; subst hc; rfl)
  (by
   intro i j e c h1 h2
   obtain ⟨p,hp,rfl⟩:=key i e h1
   have hj:j=0:=by
    rcases j with _ | j
    ·rfl
    ·simp at h2
   subst hj
   have:=hlt i p hp
   rw[add_plain]
   unfold addBlk
   dsimp only
   rw[if_pos (by simp; omega)]
   simp[hp])
  (by
   intro i j e c h1 h2
   obtain ⟨p,hp,rfl⟩:=key i e h1
   have hj:j=0:=by
    rcases j with _ | j
    ·rfl
    ·simp at h2
   subst hj
   simp at h2
   subst h2
   have:ps.getD i ByteArray.empty=p:=by simp[hp]
   rw[this]
   exact .str p.data.toList)
 rwa [← hel] at this
end Go.Arc
