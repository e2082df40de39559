/- A part of this claim. -/
import Derived.Test.YtagljlfkpofdnaaGreatDoorTy
import Derived.Test.YtagljlfkpofdnaaGreatDoorSp
set_option maxRecDepth 100000
namespace Go.Arc
open Go.Ab Go.RowKit Go.Proofs
theorem follows:Tryz.prog.follows .mixedOrders=true:=by kernel_rfl
variable {T : Lay}
theorem den_ixCls (l:List Cls) (f:FuncId) (cap:List V) (p:Cls->Bool) (hl:l.length<=1048576) (hp:∀e∈l,Den Tryz.prog T f (.agg e.cs::cap) (vb (p e))):
   Den Tryz.prog T 237 [clss l,.func f cap] (vi (ix p l)):=by
  refine den_of_body follows (fun args w=>Tryz.call237 args w) Tryz.func237 rfl 19 rfl ?_;refine run ?_
  refine loop ⟨[0,1,7,8],[],[],[]⟩ (fun k:Nat=>k<=l.length/\∀e∈l.take k,p e=false) (fun k=>l.length-k)
    (fun k=>⟨19,[(0,.v (clss l)),(1,.v (.func f cap)),(7,.v (vi l.length)),(8,.v (vi k))],[],[]⟩) 0 ⟨by omega,by simp⟩ ?_
  rintro k ⟨hk,hall⟩;by_cases hlt:k<l.length
  · obtain ⟨x,hx,-,hm⟩:=drop_at hlt;refine runW hx ?_;refine call (hp x hm) ?_;cases hpc:p x
    · refine run ?_;exact round (k+1) ⟨by omega,take_snoc hall hx hpc⟩ (by omega)
    · refine run ?_;exact fin (vi_eq (ix_at hall hx hpc))
  · refine run ?_;exact fin (vi_eq (ix_none hall hlt))
theorem den_anyCls (l:List Cls) (f:FuncId) (cap:List V) (p:Cls->Bool) (hl:l.length<=1048576) (hp:∀e∈l,Den Tryz.prog T f (.agg e.cs::cap) (vb (p e))):
   Den Tryz.prog T 156 [clss l,.func f cap] (vb (l.any p)):=by
  refine den_of_body follows (fun args w=>Tryz.call156 args w) Tryz.func156 rfl 9 rfl ?_;refine run ?_;refine call (den_ixCls l f cap p hl hp) ?_;refine run ?_;exact fin (vb_eq (ix_ge p l))
theorem den_Has1 (c:Cls) (s:Str):Den Tryz.prog T 157 [.agg c.cs,.row [.str s]] (vb (c.code == s)):=by
 refine den_of_body follows (fun args w=>Tryz.call157 args w) Tryz.func157 rfl 8 rfl ?_;refine run ?_;exact fin rfl
theorem den_Has (p:Plan) (s:Str) (hl:p.cls.length<=1048576):Den Tryz.prog T 109 [.agg p.cs,.str s] (vb (has p s)):=by
 refine den_of_body follows (fun args w=>Tryz.call109 args w) Tryz.func109 rfl 9 rfl ?_;refine run ?_;refine call (den_anyCls p.cls _ _ (fun c=>c.code == s) hl fun e _=>den_Has1 e s) ?_;refine run ?_;exact fin rfl
end Go.Arc
set_option maxRecDepth 100000
namespace Go.Arc
open Go.Ab Go.RowKit Go.Proofs
variable {T : Lay}
theorem filter_take {α:Type} {l:List α} {q:α->Bool} {j:Nat} {x:α} (hx:l[j]? = some x):(l.take (j+1)).filter q=if q x=true then (l.take j).filter q++[x] else (l.take j).filter q:=by
 obtain ⟨hlt,rfl⟩:=List.getElem?_eq_some_iff.1 hx;rw[List.take_succ_eq_append_getElem hlt,List.filter_append];cases h:q l[j] <;> simp[h]
end Go.Arc
set_option maxRecDepth 100000
namespace Go.Arc
open Go.Ab Go.RowKit Go.Proofs
variable {T : Lay}
theorem den_valid (f u:Int):Den Tryz.prog T 153 [span f u] (vb (goodS f u)):=by
 refine den_of_body follows (fun args w=>Tryz.call153 args w) Tryz.func153 rfl 18 rfl ?_;unfold goodS;by_cases h1:0<=f <;> by_cases h2:f<u <;> by_cases h3:u<=1048576 <;> (refine run ?_; refine fin (vb_eq ?_); simp; try omega)
theorem den_eqInt (a b:List Nat) (ha:a.length<=1048576) (_hb:b.length<=1048576):Den Tryz.prog T 28 [nats a,nats b] (vb (decide (a=b))):=by
 refine den_of_body follows (fun args w=>Tryz.call28 args w) Tryz.func28 rfl 26 rfl ?_;by_cases hl:a.length=b.length
 ·refine run ?_
  refine loop ⟨[0,1,12,13],[],[],[]⟩ (fun k:Nat=>k<=a.length/\(a=b↔a.drop k=b.drop k)) (fun k=>a.length-k)
   (fun k=>⟨26,[(0,.v (nats a)),(1,.v (nats b)),(12,.v (vi a.length)),(13,.v (vi k))],[],[]⟩) 0 ⟨by omega,by simp⟩ ?_
  rintro k ⟨hk,hall⟩;by_cases hlt:k<a.length
  ·obtain ⟨x,hx,hd,-⟩:=drop_at hlt;obtain ⟨y,hy,he,-⟩:=drop_at (l:=b) (k:=k) (by omega);by_cases hxy:x=y
   ·subst hxy;refine runW (And.intro hx hy) ?_;exact round (k+1) ⟨by omega,by rw[hall,eq_drop hd he]; simp⟩ (by omega)
   ·refine runW (And.intro hx hy) ?_;refine fin (vb_eq ?_)
    symm
    rw[decide_eq_false_iff_not,hall,eq_drop hd he];simp[hxy]
  ·refine run ?_;refine fin (vb_eq ?_)
   symm; rw[decide_eq_true_iff,hall,drop_end hlt,drop_end (l:=b) (by omega)]
 ·refine run ?_;refine fin (vb_eq ?_)
  symm; rw[decide_eq_false_iff_not]; intro h; exact hl (by rw[h])
theorem den_less (a b:List Nat) (ha:a.length<=1048576) (hb:b.length<=1048576):Den Tryz.prog T 58 [nats a,nats b] (vi (cmpL a b)):=by
 refine den_of_body follows (fun args w=>Tryz.call58 args w) Tryz.func58 rfl 46 rfl ?_;refine run ?_
 refine loop ⟨[0,1,5],[],[],[]⟩ (fun k:Nat=>k<=a.length/\k<=b.length/\cmpL a b=cmpL (a.drop k) (b.drop k)) (fun k=>a.length-k)
   (fun k=>⟨46,[(0,.v (nats a)),(1,.v (nats b)),(5,.v (vi k))],[],[]⟩) 0 ⟨by omega,by omega,by simp⟩ ?_
 rintro k ⟨hk,hk',hall⟩;by_cases hlt:k<a.length
 ·by_cases hlt':k<b.length
  ·obtain ⟨x,hx,hd,-⟩:=drop_at hlt;obtain ⟨y,hy,he,-⟩:=drop_at hlt';by_cases h1:x<y
   ·refine runW (And.intro hx hy) ?_;refine fin (vi_eq ?_);rw[hall,hd,he]; simp[cmpL,h1]
   ·by_cases h2:y<x
    ·refine runW (And.intro hx hy) ?_;refine fin (vi_eq ?_);rw[hall,hd,he]; simp[cmpL,h1,h2]
    ·refine runW (And.intro hx hy) ?_;exact round (k+1) ⟨by omega,by omega,by rw[hall,hd,he]; simp[cmpL,h1,h2]⟩ (by omega)
  ·obtain ⟨x,hx,hd,-⟩:=drop_at hlt;refine run ?_;refine fin (vi_eq ?_);rw[hall,hd,drop_end hlt']; rfl
 ·by_cases hlt':k<b.length
  ·obtain ⟨y,hy,he,-⟩:=drop_at hlt';refine run ?_;refine fin (vi_eq ?_);rw[hall,he,drop_end hlt]; rfl
  ·refine run ?_;refine fin (vi_eq ?_);rw[hall,drop_end hlt,drop_end hlt']; rfl
end Go.Arc
set_option maxRecDepth 100000
namespace Go.Arc
open Go.Ab Go.RowKit Go.Proofs
variable {T : Lay}
abbrev partV (s:Str):V:=match part s with
 | some n=> .tup [vi n,vb true]
 | none=> .tup [vi 0,vb false]
theorem partV_some {s:Str} {n:Nat} (h:part s=some n):partV s= .tup [vi n,vb true]:=by simp[partV,h]
theorem partV_none {s:Str} (h:part s=none):partV s= .tup [vi 0,vb false]:=by simp[partV,h]
theorem den_partRef (s:Str) (hl:s.length<=1048576):Den Tryz.prog T 111 [.str s] (partV s):=by
 refine den_of_body follows (fun args w=>Tryz.call111 args w) Tryz.func111 rfl 44 rfl ?_;have hn:∀ {x},part s=none->x=V.tup [vi 0,vb false]->x=partV s:=fun h e=>e.trans (partV_none h).symm;by_cases h1:s.length<1
 ·refine run ?_;exact fin (hn (by unfold part; rw[if_pos (.inl h1)]) rfl)
 by_cases h2:3<s.length
 ·refine run ?_;exact fin (hn (by unfold part; rw[if_pos (.inr (.inl h2))]) rfl)
 obtain ⟨c0,hc0,-,-⟩:=drop_at (l:=s) (k:=0) (by omega);have hh:s.head? = some c0:=by rw[List.head?_eq_getElem?]; exact hc0
 by_cases h3:c0.toNat=48
 ·refine runW hc0 ?_;refine fin (hn (by unfold part; rw[if_pos (.inr (.inr (by rw[hh,show c0=48 from UInt8.toNat_inj.1 h3])))]) rfl)
 ·refine runW hc0 ?_
  have hp:part s=vnum 0 s:=by
   unfold part;rw[if_neg];rintro (h | h | h)
   ·exact h1 h
   ·exact h2 h
   ·rw[hh] at h; cases h; exact h3 rfl
  refine loop ⟨[0,4,5],[],[],[]⟩ (fun y:Nat×Nat=>y.1<=s.length/\y.2<10 ^ y.1/\vnum 0 s=vnum y.2 (s.drop y.1)) (fun y=>s.length-y.1)
   (fun y=>⟨44,[(0,.v (.str s)),(4,.v (vi y.2)),(5,.v (vi y.1))],[],[]⟩) (0,0) ⟨by simp,by simp,by simp⟩ ?_
  rintro ⟨k,n⟩ ⟨hk,hn',hall⟩;simp only at hk hn' hall;have h3':10 ^ k<=10 ^ 3:=Nat.pow_le_pow_right (by decide) (by omega);by_cases hlt:k<s.length
  ·obtain ⟨x,hx,hd,hm⟩:=drop_at hlt;by_cases g1:x.toNat<48
   ·refine runW hx ?_;exact fin (hn (by rw[hp,hall,hd]; simp only[vnum]; rw[if_neg (by omega)]) rfl)
   ·by_cases g2:57<x.toNat
    ·refine runW hx ?_;exact fin (hn (by rw[hp,hall,hd]; simp only[vnum]; rw[if_neg (by omega)]) rfl)
    ·refine runW hx ?_;refine round (k+1,10*n+(x.toNat-48)) ⟨by simp only; omega,?_,?_⟩ (by simp only; omega) ?_
     ·simp only[Nat.pow_succ]; omega
     ·simp only; rw[hall,hd]; simp only[vnum]; rw[if_pos (by omega)]
     ·have e:(10*(n:Int)+((x.toNat:Int)-48))=((10*n+(x.toNat-48):Nat):Int):=by omega
      simp only[e]; rfl
  ·refine run ?_;exact fin (partV_some (n:=n) (by rw[hp,hall,drop_end hlt]; rfl)).symm
def numsK (out:List Nat) (cur s:Str):Option (List Nat):=(numsOf (split cur s)).map (out ++ ·)
theorem parseV_none {s:Str} (h:numsOf (split [] s)=none):parseV s= .tup [.val (.slice none 0 0),vi 3]:=by simp[parseV,parse,h]
theorem parseV_long {s:Str} {l:List Nat} (h:numsOf (split [] s)=some l) (hl:6<l.length):parseV s= .tup [.val (.slice none 0 0),vi 3]:=by
 have:¬l.length<=6:=by omega
 simp[parseV,parse,h,this]
theorem parseV_ok {s:Str} {l:List Nat} (h:numsOf (split [] s)=some l) (hl:l.length<=6):parseV s= .tup [nats l,vi 0]:=by simp[parseV,parse,h,hl]
theorem den_ParseRef (s:Str) (hl:s.length<=1048576):Den Tryz.prog T 57 [.str s] (parseV s):=by
 refine den_of_body follows (fun args w=>Tryz.call57 args w) Tryz.func57 rfl 46 rfl ?_;refine run ?_
 refine loop ⟨[0,4,5,6],[],[4],[]⟩ (fun y:Nat×Nat×List Nat=>y.1<=s.length+1/\y.2.1<=y.1/\y.2.2.length<=y.1/\
   ((y.2.1<=s.length/\numsOf (split [] s)=numsK y.2.2 ((s.take y.1).drop y.2.1) (s.drop y.1)/\y.1<=s.length)\/(y.1=s.length+1/\numsOf (split [] s)=some y.2.2))) (fun y=>s.length+1-y.1)
  (fun y=>⟨46,[(0,.v (.str s)),(4,.v (nats y.2.2)),(5,.v (vi y.2.1)),(6,.v (vi y.1))],[],[(3,[4])]⟩) (0,0,[]) ?_ ?_
 ·refine ⟨by simp,by simp,by simp,.inl ⟨by simp,?_,by simp⟩⟩;simp[numsK]
 ·rintro ⟨k,f,out⟩ ⟨h1,h2,h3,h4⟩;simp only at h1 h2 h3 h4;rcases h4 with ⟨g1,g2,g3⟩ | ⟨g1,g2⟩
  ·by_cases hlt:k<s.length
   ·obtain ⟨x,hx,hd,-⟩:=drop_at hlt;by_cases hdot:x.toNat=46
    ·have hx46:x=46:=UInt8.toNat_inj.1 hdot;have hcl:((s.take k).drop f).length<=1048576:=by simp; omega
     refine runW hx ?_;refine call (den_partRef ((s.take k).drop f) hcl) ?_
     have hsp:split ((s.take k).drop f) (s.drop k)=((s.take k).drop f)::split [] (s.drop (k+1)):=by
      rw[hd]; simp only[split]; rw[if_pos hx46]
     cases hp:part ((s.take k).drop f) with
     | none=>
      rw[partV_none hp];refine run ?_;exact fin (parseV_none (by rw[g2,numsK,hsp]; simp[numsOf,hp])).symm
     | some n=>
      rw[partV_some hp];have hap:out.map Cnat++[[V.val (.int .i64 n)]]=(out++[n]).map Cnat:=by simp
      refine runW hap ?_;refine round (k+1,k+1,out++[n]) ⟨by simp only; omega,by simp only; omega,by simp; omega,.inl ⟨by simp only; omega,?_,by simp only; omega⟩⟩ (by simp only; omega);simp only;have e0:(s.take (k+1)).drop (k+1)=[]:=List.drop_eq_nil_of_le (by simp; omega);rw[g2,numsK,numsK,hsp,e0];simp only[numsOf,hp];cases numsOf (split [] (s.drop (k+1))) <;> simp
    ·have hne:x≠46:=fun e=>hdot (by rw[e]; rfl);refine runW hx ?_;refine round (k+1,f,out) ⟨by simp only; omega,by simp only; omega,by simp only; omega,.inl ⟨g1,?_,by simp only; omega⟩⟩ (by simp only; omega);simp only
     have ht:(s.take (k+1)).drop f=(s.take k).drop f++[x]:=by
      obtain ⟨hlt,rfl⟩:=List.getElem?_eq_some_iff.1 hx;rw[List.take_succ_eq_append_getElem hlt,List.drop_append_of_le_length (by simp; omega)]
     rw[g2,numsK,numsK,hd,ht];simp only[split];rw[if_neg hne]
   ·have hk:k=s.length:=by omega
    subst hk;have hcl:((s.take s.length).drop f).length<=1048576:=by simp; omega
    refine run ?_;refine call (den_partRef ((s.take s.length).drop f) hcl) ?_;rw[drop_end hlt] at g2;cases hp:part ((s.take s.length).drop f) with
    | none=>
     rw[partV_none hp];refine run ?_;exact fin (parseV_none (by rw[List.take_length] at g2 hp; rw[g2]; simp[numsK,split,numsOf,hp])).symm
    | some n=>
     rw[partV_some hp];have hap:out.map Cnat++[[V.val (.int .i64 n)]]=(out++[n]).map Cnat:=by simp
     refine runW hap ?_;refine round (s.length+1,s.length+1,out++[n]) ⟨by simp only; omega,by simp only; omega,by simp; omega,.inr ⟨rfl,?_⟩⟩ (by simp only; omega);simp only;rw[List.take_length] at g2 hp; rw[g2]; simp[numsK,split,numsOf,hp]
  ·by_cases h6:6<out.length
   ·refine run ?_;exact fin (parseV_long g2 h6).symm
   ·refine run ?_;exact fin (parseV_ok g2 (by omega)).symm
end Go.Arc
set_option maxRecDepth 100000
namespace Go.Arc
open Go.Ab Go.RowKit Go.Proofs
variable {T : Lay}
theorem parseV_n {s:Str} (h:parse s=none):parseV s= .tup [.val (.slice none 0 0),vi 3]:=by simp[parseV,h]
theorem parseV_s {s:Str} {l:List Nat} (h:parse s=some l):parseV s= .tup [nats l,vi 0]:=by simp[parseV,h]
def dots:List Nat->Str
 | []=>[]
 | n::r=>46::dec n++dots r
theorem fmt_dots:∀(l:List Nat) (n:Nat),fmt (n::l)=dec n++dots l
 | [],n=>by simp[fmt,dots]
 | m::r,n=>by
  simp only[fmt,dots];rw[fmt_dots r m];simp
theorem dec_len (n:Nat):(dec n).length<=3:=by unfold dec; split <;> (try split) <;> simp
end Go.Arc
set_option maxRecDepth 100000
namespace Go.Arc
open Go.Ab Go.RowKit Go.Proofs
variable {T : Lay}
abbrev parentV (s:Str):V:=match parent s with
 | some p=> .tup [.str p,vb true]
 | none=> .tup [.str [],vb false]
theorem parentV_s {s p:Str} (h:parent s=some p):parentV s= .tup [.str p,vb true]:=by simp[parentV,h]
theorem parentV_n {s:Str} (h:parent s=none):parentV s= .tup [.str [],vb false]:=by simp[parentV,h]
abbrev cmpV (a b:Str):V:=match cmp a b with
 | some n=> .tup [vi n,vi 0]
 | none=> .tup [vi 0,vi 3]
theorem cmpV_s {a b:Str} {n:Int} (h:cmp a b=some n):cmpV a b= .tup [vi n,vi 0]:=by simp[cmpV,h]
theorem cmpV_n {a b:Str} (h:cmp a b=none):cmpV a b= .tup [vi 0,vi 3]:=by simp[cmpV,h]
theorem take_map_nat (l:List Nat) (k:Nat):(l.map Cnat).take k=(l.take k).map Cnat:=List.map_take.symm
theorem cmpL_zero:∀(a b:List Nat),cmpL a b=0↔a=b
 | [],[]=>by simp[cmpL]
 | [],_::_=>by simp[cmpL]
 | _::_,[]=>by simp[cmpL]
 | a::r,b::q=>by
  simp only[cmpL];split
  ·simp; omega
  ·split
   ·simp; omega
   ·rw[cmpL_zero r q]; simp; omega
theorem den_WithinRef (a b:Str) (ha:a.length<=1048576) (hb:b.length<=1048576):Den Tryz.prog T 20 [.str a,.str b] (vb (within a b)):=by
 refine den_of_body follows (fun args w=>Tryz.call20 args w) Tryz.func20 rfl 41 rfl ?_;refine run ?_;refine call (den_ParseRef a ha) ?_;cases hp:parse a with
 | none=>
  rw[parseV_n hp];refine run ?_;refine call (den_ParseRef b hb) ?_;cases hq:parse b with
  | none=>rw[parseV_n hq]; refine run ?_; (refine fin (vb_eq ?_); simp[within,hp])
  | some m=>rw[parseV_s hq]; refine run ?_; (refine fin (vb_eq ?_); simp[within,hp])
 | some l=>
  obtain ⟨-,h6,-⟩:=parse_some hp;rw[parseV_s hp];refine run ?_;refine call (den_ParseRef b hb) ?_;cases hq:parse b with
  | none=>rw[parseV_n hq]; refine run ?_; (refine fin (vb_eq ?_); simp[within,hp,hq])
  | some m=>
   obtain ⟨-,h6',-⟩:=parse_some hq;rw[parseV_s hq];by_cases hlt:m.length<=l.length
   ·refine runW (take_map_nat l m.length) ?_;refine call (den_less (l.take m.length) m (by simp; omega) (by omega)) ?_;by_cases hz:l.take m.length=m
    ·have hz':=(cmpL_zero _ _).2 hz;refine runW hz' ?_
     (refine fin (vb_eq ?_); simp[within,hp,hq,hlt,hz])
    ·have hz':cmpL (l.take m.length) m≠0:=fun e=>hz ((cmpL_zero _ _).1 e);refine run ?_
     (refine fin (vb_eq ?_); simp[within,hp,hq,hlt,hz])
   ·refine run ?_
    (refine fin (vb_eq ?_); simp[within,hp,hq,hlt])
end Go.Arc
set_option maxRecDepth 100000
namespace Go.Arc
open Go.Ab Go.RowKit Go.Proofs
variable {T : Lay}
theorem printable_cons (c:UInt8) (r:Str):printable (c::r)=(decide (32<=c.toNat) && decide (c.toNat<=126) && printable r):=rfl
end Go.Arc
