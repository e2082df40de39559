/- A part of this claim. -/
import Derived.Test.YtcmpmdgdchmojaaGreatDoorW3
set_option maxRecDepth 100000
namespace Go.Arc
open Go.Ab Go.RowKit Go.Proofs
variable {T : Lay}
abbrev partV (s:Str):V:=match part s with
 | some n=> .tup [vi n,vb true]
 | none=> .tup [vi 0,vb false]
theorem partV_some {s:Str} {n:Nat} (h:part s=some n):partV s= .tup [vi n,vb true]:=by simp[partV,h]
theorem partV_none {s:Str} (h:part s=none):partV s= .tup [vi 0,vb false]:=by simp[partV,h]
theorem den_partRef (s:Str) (hl:s.length<=1048576):Den Tryz.prog T 241 [.str s] (partV s):=by
 refine den_of_body follows (fun args w=>Tryz.call241 args w) Tryz.func241 rfl 44 rfl ?_;have hn:∀ {x},part s=none->x=V.tup [vi 0,vb false]->x=partV s:=fun h e=>e.trans (partV_none h).symm;by_cases h1:s.length<1
 ·refine run ?_;exact fin (hn (by unfold part; rw[if_pos (.inl h1)]) rfl)
 by_cases h2:3<s.length
 ·refine run ?_;exact fin (hn (by unfold part; rw[if_pos (.inr (.inl h2))]) rfl)
 obtain ⟨c0,hc0,-,-⟩:=drop_at (l:=s) (k:=0) (by omega);have hh:s.head? = some c0:=by rw[List.head?_eq_getElem?]; exact hc0
 by_cases h3:c0.toNat=48
 ·refine runW hc0 ?_;refine fin (hn (by unfold part; rw[if_pos (.inr (.inr (by rw[hh,show c0=48 from UInt8.toNat_inj.1 h3])))]) rfl)
 ·refine runW hc0 ?_
  have hp:part s=vnum 0 s:=by
   unfold part;rw[if_neg];rintro (h | h | h)
   ·exact h1 h
   ·exact h2 h
   ·rw[hh] at h; cases h; exact h3 rfl
  refine loop ⟨[0,4,5],[],[],[]⟩ (fun y:Nat×Nat=>y.1<=s.length/\y.2<10 ^ y.1/\vnum 0 s=vnum y.2 (s.drop y.1)) (fun y=>s.length-y.1)
   (fun y=>⟨44,[(0,.v (.str s)),(4,.v (vi y.2)),(5,.v (vi y.1))],[],[]⟩) (0,0) ⟨by simp,by simp,by simp⟩ ?_
  rintro ⟨k,n⟩ ⟨hk,hn',hall⟩;simp only at hk hn' hall;have h3':10 ^ k<=10 ^ 3:=Nat.pow_le_pow_right (by decide) (by omega);by_cases hlt:k<s.length
  ·obtain ⟨x,hx,hd,hm⟩:=drop_at hlt;by_cases g1:x.toNat<48
   ·refine runW hx ?_;exact fin (hn (by rw[hp,hall,hd]; simp only[vnum]; rw[if_neg (by omega)]) rfl)
   ·by_cases g2:57<x.toNat
    ·refine runW hx ?_;exact fin (hn (by rw[hp,hall,hd]; simp only[vnum]; rw[if_neg (by omega)]) rfl)
    ·refine runW hx ?_;refine round (k+1,10*n+(x.toNat-48)) ⟨by simp only; omega,?_,?_⟩ (by simp only; omega) ?_
     ·simp only[Nat.pow_succ]; omega
     ·simp only; rw[hall,hd]; simp only[vnum]; rw[if_pos (by omega)]
     ·have e:(10*(n:Int)+((x.toNat:Int)-48))=((10*n+(x.toNat-48):Nat):Int):=by omega
      simp only[e]; rfl
  ·refine run ?_;exact fin (partV_some (n:=n) (by rw[hp,hall,drop_end hlt]; rfl)).symm
def numsK (out:List Nat) (cur s:Str):Option (List Nat):=(numsOf (split cur s)).map (out ++ ·)
theorem parseV_none {s:Str} (h:numsOf (split [] s)=none):parseV s= .tup [.val (.slice none 0 0),vi 3]:=by simp[parseV,parse,h]
theorem parseV_long {s:Str} {l:List Nat} (h:numsOf (split [] s)=some l) (hl:6<l.length):parseV s= .tup [.val (.slice none 0 0),vi 3]:=by
 have:¬l.length<=6:=by omega
 simp[parseV,parse,h,this]
theorem parseV_ok {s:Str} {l:List Nat} (h:numsOf (split [] s)=some l) (hl:l.length<=6):parseV s= .tup [nats l,vi 0]:=by simp[parseV,parse,h,hl]
theorem den_ParseRef (s:Str) (hl:s.length<=1048576):Den Tryz.prog T 190 [.str s] (parseV s):=by
 refine den_of_body follows (fun args w=>Tryz.call190 args w) Tryz.func190 rfl 46 rfl ?_;refine run ?_
 refine loop ⟨[0,4,5,6],[],[4],[]⟩ (fun y:Nat×Nat×List Nat=>y.1<=s.length+1/\y.2.1<=y.1/\y.2.2.length<=y.1/\
   ((y.2.1<=s.length/\numsOf (split [] s)=numsK y.2.2 ((s.take y.1).drop y.2.1) (s.drop y.1)/\y.1<=s.length)\/(y.1=s.length+1/\numsOf (split [] s)=some y.2.2))) (fun y=>s.length+1-y.1)
  (fun y=>⟨46,[(0,.v (.str s)),(4,.v (nats y.2.2)),(5,.v (vi y.2.1)),(6,.v (vi y.1))],[],[(3,[4])]⟩) (0,0,[]) ?_ ?_
 ·refine ⟨by simp,by simp,by simp,.inl ⟨by simp,?_,by simp⟩⟩;simp[numsK]
 ·rintro ⟨k,f,out⟩ ⟨h1,h2,h3,h4⟩;simp only at h1 h2 h3 h4;rcases h4 with ⟨g1,g2,g3⟩ | ⟨g1,g2⟩
  ·by_cases hlt:k<s.length
   ·obtain ⟨x,hx,hd,-⟩:=drop_at hlt;by_cases hdot:x.toNat=46
    ·have hx46:x=46:=UInt8.toNat_inj.1 hdot;have hcl:((s.take k).drop f).length<=1048576:=by simp; omega
     refine runW hx ?_;refine call (den_partRef ((s.take k).drop f) hcl) ?_
     have hsp:split ((s.take k).drop f) (s.drop k)=((s.take k).drop f)::split [] (s.drop (k+1)):=by
      rw[hd]; simp only[split]; rw[if_pos hx46]
     cases hp:part ((s.take k).drop f) with
     | none=>
      rw[partV_none hp];refine run ?_;exact fin (parseV_none (by rw[g2,numsK,hsp]; simp[numsOf,hp])).symm
     | some n=>
      rw[partV_some hp];have hap:out.map Cnat++[[V.val (.int .i64 n)]]=(out++[n]).map Cnat:=by simp
      refine runW hap ?_;refine round (k+1,k+1,out++[n]) ⟨by simp only; omega,by simp only; omega,by simp; omega,.inl ⟨by simp only; omega,?_,by simp only; omega⟩⟩ (by simp only; omega);simp only;have e0:(s.take (k+1)).drop (k+1)=[]:=List.drop_eq_nil_of_le (by simp; omega);rw[g2,numsK,numsK,hsp,e0];simp only[numsOf,hp];cases numsOf (split [] (s.drop (k+1))) <;> simp
    ·have hne:x≠46:=fun e=>hdot (by rw[e]; rfl);refine runW hx ?_;refine round (k+1,f,out) ⟨by simp only; omega,by simp only; omega,by simp only; omega,.inl ⟨g1,?_,by simp only; omega⟩⟩ (by simp only; omega);simp only
     have ht:(s.take (k+1)).drop f=(s.take k).drop f++[x]:=by
      obtain ⟨hlt,rfl⟩:=List.getElem?_eq_some_iff.1 hx;rw[List.take_succ_eq_append_getElem hlt,List.drop_append_of_le_length (by simp; omega)]
     rw[g2,numsK,numsK,hd,ht];simp only[split];rw[if_neg hne]
   ·have hk:k=s.length:=by omega
    subst hk;have hcl:((s.take s.length).drop f).length<=1048576:=by simp; omega
    refine run ?_;refine call (den_partRef ((s.take s.length).drop f) hcl) ?_;rw[drop_end hlt] at g2;cases hp:part ((s.take s.length).drop f) with
    | none=>
     rw[partV_none hp];refine run ?_;exact fin (parseV_none (by rw[List.take_length] at g2 hp; rw[g2]; simp[numsK,split,numsOf,hp])).symm
    | some n=>
     rw[partV_some hp];have hap:out.map Cnat++[[V.val (.int .i64 n)]]=(out++[n]).map Cnat:=by simp
     refine runW hap ?_;refine round (s.length+1,s.length+1,out++[n]) ⟨by simp only; omega,by simp only; omega,by simp; omega,.inr ⟨rfl,?_⟩⟩ (by simp only; omega);simp only;rw[List.take_length] at g2 hp; rw[g2]; simp[numsK,split,numsOf,hp]
  ·by_cases h6:6<out.length
   ·refine run ?_;exact fin (parseV_long g2 h6).symm
   ·refine run ?_;exact fin (parseV_ok g2 (by omega)).symm
end Go.Arc
