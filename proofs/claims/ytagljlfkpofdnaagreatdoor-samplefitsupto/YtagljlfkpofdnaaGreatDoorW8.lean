/- A part of this claim. -/
import Derived.Test.YtagljlfkpofdnaaGreatDoorBaE
set_option maxRecDepth 100000
namespace Go.Arc
open Go.Ab Go.RowKit Go.Proofs
variable {T : Lay}
structure LibC (T:Lay):Prop where
 split:∀s:Str,s.length<=1048576->Den Tryz.prog T 101 [.str s,.str [46]] (strs (split [] s))
 atoi:∀s:Str,s.length<=1048576->(∃n:Int,Den Tryz.prog T 102 [.str s] (.tup [vi n,.val .nilIface])/\∀m:Nat,part s=some m->n=m)\/
  (part s=none/\∃n:Int,Den Tryz.prog T 102 [.str s] (.tup [vi n,.ifc]))
 itoa:∀n:Nat,n<1000->Den Tryz.prog T 84 [vi n] (.str (dec n))
 join:∀l:List Nat,l.length<=6->(∀n∈l,n<1000)->Den Tryz.prog T 323 [strs (l.map dec),.str [46]] (.str (fmt l))
 trim:∀s:Str,s.length<=1048576->∃t,Den Tryz.prog T 82 [.str s] (.str t)/\(printable s=true->(t=s↔s.head? ≠ some 32/\s.getLast? ≠ some 32))
 contains:∀s:Str,s.length<=1048576->Den Tryz.prog T 83 [.str s,.str [32,32]] (vb (dbl s))
theorem part_dec {n:Nat} (h1:1<=n) (h:n<1000):part (dec n)=some n:=by
 have:∀n:Fin 1000,1<=n.1->part (dec n.1)=some n.1:=by decide +kernel
 exact this ⟨n,h⟩ h1
theorem u8_of {c:UInt8} {n:Nat} (h:c.toNat=n):UInt8.ofNat n=c:=by
 rw[<- h]; exact UInt8.ofNat_toNat
theorem dec_part {s:Str} {n:Nat} (h:part s=some n):dec n=s:=by
 unfold part at h;split at h
 ·cases h
 ·rename_i hc
  match s,hc,h with
  | [],hc,_=>simp at hc
  | [a],hc,h=>
   simp only[vnum] at h;split at h
   ·simp only[Option.some.injEq] at h;unfold dec;rw[if_pos (by omega),u8_of (c:=a) (by omega)]
   ·cases h
  | [a,b],hc,h=>
   have ha:a.toNat≠48:=fun e=>hc (.inr (.inr (by simp[show a=48 from UInt8.toNat_inj.1 e])));simp only[vnum] at h;split at h
   ·split at h
    ·simp only[Option.some.injEq] at h;unfold dec;rw[if_neg (by omega),if_pos (by omega),u8_of (c:=a) (by omega),u8_of (c:=b) (by omega)]
    ·cases h
   ·cases h
  | [a,b,c],hc,h=>
   have ha:a.toNat≠48:=fun e=>hc (.inr (.inr (by simp[show a=48 from UInt8.toNat_inj.1 e])));simp only[vnum] at h;split at h
   ·split at h
    ·split at h
     ·simp only[Option.some.injEq] at h;unfold dec;rw[if_neg (by omega),if_neg (by omega),u8_of (c:=a) (by omega),u8_of (c:=b) (by omega),u8_of (c:=c) (by omega)]
     ·cases h
    ·cases h
   ·cases h
  | _::_::_::_::_,hc,_=>exact absurd (by simp) hc
theorem split_len:∀(s cur:Str),∀p∈split cur s,p.length<=cur.length+s.length
 | [],cur,p,h=>by simp[split] at h; subst h; simp
 | c::r,cur,p,h=>by
  simp only[split] at h;split at h
  ·rcases List.mem_cons.1 h with rfl | h
   ·simp
   ·have:=split_len r [] p h; simp at this ⊢; omega
  ·have:=split_len r _ p h; simp at this ⊢; omega
theorem split_cnt:∀(s cur:Str),(split cur s).length<=s.length+1
 | [],cur=>by simp[split]
 | c::r,cur=>by
  simp only[split];split
  ·have:=split_cnt r []; simp; omega
  ·have:=split_cnt r (cur++[c]); simp; omega
theorem parseV_many {s:Str} (h:6<(split [] s).length):parseV s= .tup [.val (.slice none 0 0),vi 3]:=by
 cases hn:numsOf (split [] s) with
 | none=>exact parseV_none hn
 | some l=>exact parseV_long hn (by rw[(numsOf_lt hn).1]; exact h)
theorem den_Parse (L:LibC T) (s:Str) (hl:s.length<=1048576):Den Tryz.prog T 47 [.str s] (parseV s):=by
 refine den_of_body follows (fun args w=>Tryz.call47 args w) Tryz.func47 rfl 48 rfl ?_;refine run ?_;refine call (L.split s hl) ?_;have hcnt:=split_cnt s [];by_cases h6:6<(split [] s).length
 ·refine run ?_;exact fin (parseV_many h6).symm
 have hp:=split_len s [];generalize hS:split [] s=l at *;refine run ?_
 refine loop ⟨[5,15,16,17],[],[5],[(5,3,1)]⟩ (fun y:Nat×List Nat=>y.1<=l.length/\y.2.length=y.1/\numsOf l=(numsOf (l.drop y.1)).map (y.2 ++ ·)) (fun y=>l.length-y.1)
  (fun y=>⟨48,[(5,.v (nats y.2)),(15,.v (strs l)),(16,.v (vi l.length)),(17,.v (vi y.1))],[],[(3,[5])]⟩) (0,[]) ⟨by simp,by simp,by simp⟩ ?_
 rintro ⟨k,out⟩ ⟨hk,hlen,hall⟩;simp only at hk hlen hall;by_cases hlt:k<l.length
 ·obtain ⟨x,hx,hd,hm⟩:=drop_at hlt;have hxl:x.length<=1048576:=by have:=hp x hm; simp at this; omega
  have hno:part x=none->V.tup [.val (.slice none 0 0),vi 3]=parseV s:=fun h=>(parseV_none (by rw[hS,hall,hd]; simp[numsOf,h])).symm;refine runW hx ?_;rcases L.atoi x hxl with ⟨n,hden,hpn⟩ | ⟨hpn,n,hden⟩
  ·refine call hden ?_;by_cases h1:n<1
   ·refine run ?_;refine fin (hno ?_);cases hq:part x with
    | none=>rfl
    | some m=>have:=hpn m hq; have:=part_ge hq; omega
   by_cases h2:999<n
   ·refine run ?_;refine fin (hno ?_);cases hq:part x with
    | none=>rfl
    | some m=>have:=hpn m hq; have:=part_lt hq; omega
   obtain ⟨m,rfl⟩:=Int.eq_ofNat_of_zero_le (show 0<=n by omega);refine run ?_;refine call (L.itoa m (by omega)) ?_;by_cases he:dec m=x
   ·have hpx:part x=some m:=by rw[<- he]; exact part_dec (by omega) (by omega)
    have he':(dec m == x)=true:=by simp[he]
    have hap:out.map Cnat++[[V.val (.int .i64 m)]]=(out++[m]).map Cnat:=by simp
    refine runW (And.intro he' hap) ?_;refine round (k+1,out++[m]) ⟨by simp only; omega,by simp[hlen],?_⟩ (by simp only; omega);simp only;rw[hall,hd];simp only[numsOf,hpx];cases numsOf (l.drop (k+1)) <;> simp
   ·have he':(dec m == x)=false:=beq_f he;refine runW he' ?_;refine fin (hno ?_);cases hq:part x with
    | none=>rfl
    | some m'=>exact absurd (by have:=hpn m' hq; have:=dec_part hq; rwa [show m'=m by omega] at this) he
  ·refine call hden ?_;refine run ?_;exact fin (hno hpn)
 ·refine run ?_;rw[drop_end hlt] at hall;have hs:numsOf (split [] s)=some out:=by rw[hS,hall]; simp[numsOf]
  exact fin (parseV_ok hs (by omega)).symm
abbrev numsV (s:Str):V:=match parse s with
 | some l=>nats l
 | none=> .val (.slice none 0 0)
theorem numsV_s {s:Str} {l:List Nat} (h:parse s=some l):numsV s=nats l:=by simp[numsV,h]
theorem numsV_n {s:Str} (h:parse s=none):numsV s= .val (.slice none 0 0):=by simp[numsV,h]
theorem den_numbers (L:LibC T) (s:Str) (hl:s.length<=1048576):Den Tryz.prog T 230 [.str s] (numsV s):=by
 refine den_of_body follows (fun args w=>Tryz.call230 args w) Tryz.func230 rfl 11 rfl ?_;refine run ?_;refine call (den_Parse L s hl) ?_;cases hp:parse s with
 | none=>rw[parseV_n hp]; refine run ?_; exact fin (numsV_n hp).symm
 | some l=>rw[parseV_s hp]; refine run ?_; exact fin (numsV_s hp).symm
theorem den_both (L:LibC T) (a b:Str) (ha:a.length<=1048576) (hb:b.length<=1048576):Den Tryz.prog T 124 [.str a,.str b] (.tup [numsV a,numsV b,vb ((parse a).isSome && (parse b).isSome)]):=by
 refine den_of_body follows (fun args w=>Tryz.call124 args w) Tryz.func124 rfl 29 rfl ?_;refine run ?_;refine call (den_Parse L a ha) ?_;cases hp:parse a with
 | none=>
  rw[parseV_n hp,numsV_n hp];refine run ?_;refine call (den_Parse L b hb) ?_;cases hq:parse b with
  | none=>rw[parseV_n hq,numsV_n hq]; refine run ?_; exact fin rfl
  | some m=>rw[parseV_s hq,numsV_s hq]; refine run ?_; exact fin rfl
 | some l=>
  rw[parseV_s hp,numsV_s hp];refine run ?_;refine call (den_Parse L b hb) ?_;cases hq:parse b with
  | none=>rw[parseV_n hq,numsV_n hq]; refine run ?_; exact fin rfl
  | some m=>rw[parseV_s hq,numsV_s hq]; refine run ?_; exact fin rfl
theorem den_isNaN (n:Int):Den Tryz.prog T 104 [vi n] (vb false):=by
 refine den_of_body follows (fun args w=>Tryz.call104 args w) Tryz.func104 rfl 6 rfl ?_;refine run ?_;exact fin rfl
def cmpI (a b:Int):Int:=if a<b then -1 else if b<a then 1 else 0
theorem den_cmpInt (a b:Int):Den Tryz.prog T 68 [vi a,vi b] (vi (cmpI a b)):=by
 refine den_of_body follows (fun args w=>Tryz.call68 args w) Tryz.func68 rfl 20 rfl ?_;refine run ?_;refine call (den_isNaN a) ?_;refine run ?_;refine call (den_isNaN b) ?_;unfold cmpI;by_cases h1:a<b
 ·rw[if_pos h1];refine run ?_;exact fin rfl
 ·rw[if_neg h1];by_cases h2:b<a
  ·rw[if_pos h2];refine run ?_;exact fin rfl
  ·rw[if_neg h2];refine run ?_;exact fin rfl
theorem den_compareInt (a b:List Nat) (ha:a.length<=1048576) (hb:b.length<=1048576):Den Tryz.prog T 322 [nats a,nats b] (vi (cmpL a b)):=by
 refine den_of_body follows (fun args w=>Tryz.call322 args w) Tryz.func322 rfl 36 rfl ?_;refine run ?_
 refine loop ⟨[0,1,9,10,11],[],[],[]⟩ (fun k:Nat=>k<=a.length/\k<=b.length/\cmpL a b=cmpL (a.drop k) (b.drop k)) (fun k=>a.length-k)
   (fun k=>⟨36,[(0,.v (nats a)),(1,.v (nats b)),(9,.v (nats a)),(10,.v (vi a.length)),(11,.v (vi k))],[],[]⟩) 0 ⟨by omega,by omega,by simp⟩ ?_
 rintro k ⟨hk,hk',hall⟩;by_cases hlt:k<a.length
 ·obtain ⟨x,hx,hd,-⟩:=drop_at hlt;by_cases hlt':k<b.length
  ·obtain ⟨y,hy,he,-⟩:=drop_at hlt';refine runW (And.intro hx hy) ?_;refine call (den_cmpInt x y) ?_;by_cases h1:x<y
   ·have hc:cmpI x y= -1:=by unfold cmpI; rw[if_pos (by omega)]
    refine runW hc ?_;refine fin (vi_eq ?_);rw[hall,hd,he]; simp[cmpL,h1]
   ·by_cases h2:y<x
    ·have hc:cmpI x y=1:=by unfold cmpI; rw[if_neg (by omega),if_pos (by omega)]
     refine runW hc ?_;refine fin (vi_eq ?_);rw[hall,hd,he]; simp[cmpL,h1,h2]
    ·have hc:cmpI x y=0:=by unfold cmpI; rw[if_neg (by omega),if_neg (by omega)]
     refine runW hc ?_;exact round (k+1) ⟨by omega,by omega,by rw[hall,hd,he]; simp[cmpL,h1,h2]⟩ (by omega)
  ·refine runW hx ?_;refine fin (vi_eq ?_);rw[hall,hd,drop_end hlt']; rfl
 ·by_cases hlt':k<b.length
  ·obtain ⟨y,hy,he,-⟩:=drop_at hlt';refine run ?_;refine fin (vi_eq ?_);rw[hall,he,drop_end hlt]; rfl
  ·refine run ?_;refine fin (vi_eq ?_);rw[hall,drop_end hlt,drop_end hlt']; rfl
theorem den_Compare (L:LibC T) (a b:Str) (ha:a.length<=1048576) (hb:b.length<=1048576):Den Tryz.prog T 292 [.str a,.str b] (cmpV a b):=by
 refine den_of_body follows (fun args w=>Tryz.call292 args w) Tryz.func292 rfl 21 rfl ?_;refine run ?_;refine call (den_both L a b ha hb) ?_;cases hp:parse a with
 | none=>
  rw[numsV_n hp];refine run ?_
  (refine fin (Eq.symm (cmpV_n ?_)); simp[cmp,hp])
 | some l=>
  obtain ⟨-,h6,-⟩:=parse_some hp;rw[numsV_s hp];cases hq:parse b with
  | none=>
   rw[numsV_n hq];refine run ?_
   (refine fin (Eq.symm (cmpV_n ?_)); simp[cmp,hp,hq])
  | some m=>
   obtain ⟨-,h6',-⟩:=parse_some hq;rw[numsV_s hq];refine run ?_;refine call (den_compareInt l m (by omega) (by omega)) ?_;refine run ?_
   (refine fin (Eq.symm (cmpV_s ?_)); simp[cmp,hp,hq])
theorem den_Within (L:LibC T) (a b:Str) (ha:a.length<=1048576) (hb:b.length<=1048576):Den Tryz.prog T 76 [.str a,.str b] (vb (within a b)):=by
 refine den_of_body follows (fun args w=>Tryz.call76 args w) Tryz.func76 rfl 31 rfl ?_;refine run ?_;refine call (den_both L a b ha hb) ?_;cases hp:parse a with
 | none=>
  rw[numsV_n hp];refine run ?_
  (refine fin (vb_eq ?_); simp[within,hp])
 | some l=>
  obtain ⟨-,h6,-⟩:=parse_some hp;rw[numsV_s hp];cases hq:parse b with
  | none=>
   rw[numsV_n hq];refine run ?_
   (refine fin (vb_eq ?_); simp[within,hp,hq])
  | some m=>
   obtain ⟨-,h6',-⟩:=parse_some hq;rw[numsV_s hq];by_cases hlt:m.length<=l.length
   ·refine runW (take_map_nat l m.length) ?_;refine call (den_eqInt (l.take m.length) m (by simp; omega) (by omega)) ?_;refine run ?_
    (refine fin (vb_eq ?_); simp[within,hp,hq,hlt])
   ·refine run ?_
    (refine fin (vb_eq ?_); simp[within,hp,hq,hlt])
theorem den_format (L:LibC T) (l:List Nat) (h6:l.length<=6) (hn:∀n∈l,1<=n/\n<1000):Den Tryz.prog T 293 [nats l] (.str (fmt l)):=by
 refine den_of_body follows (fun args w=>Tryz.call293 args w) Tryz.func293 rfl 20 rfl ?_;refine run ?_
 refine loop ⟨[3,6,7,8],[],[3],[(3,9,1)]⟩ (fun y:Nat×List Str=>y.1<=l.length/\y.2=(l.take y.1).map dec) (fun y=>l.length-y.1)
  (fun y=>⟨20,[(3,.v (strs y.2)),(6,.v (nats l)),(7,.v (vi l.length)),(8,.v (vi y.1))],[],[(9,[3])]⟩) (0,[]) ⟨by simp,by simp⟩ ?_
 rintro ⟨k,out⟩ ⟨hk,hall⟩;simp only at hk hall;have hol:out.length=k:=by rw[hall]; simp; omega
 by_cases hlt:k<l.length
 ·obtain ⟨x,hx,hd,hm⟩:=drop_at hlt;refine runW hx ?_;refine call (L.itoa x (hn x hm).2) ?_;have hap:out.map Cst++[[V.str (dec x)]]=(out++[dec x]).map Cst:=by simp
  refine runW hap ?_;refine round (k+1,out++[dec x]) ⟨by simp only; omega,?_⟩ (by simp only; omega);simp only;obtain ⟨hlt',rfl⟩:=List.getElem?_eq_some_iff.1 hx;rw[List.take_succ_eq_append_getElem hlt',hall,List.map_append]; rfl
 ·have ho:out=l.map dec:=by rw[hall,List.take_of_length_le (by omega)]
  subst ho;refine run ?_;refine call (L.join l h6 fun n h=>(hn n h).2) ?_;refine run ?_;exact fin rfl
theorem den_Parent (L:LibC T) (s:Str) (hl:s.length<=1048576):Den Tryz.prog T 235 [.str s] (parentV s):=by
 refine den_of_body follows (fun args w=>Tryz.call235 args w) Tryz.func235 rfl 24 rfl ?_;refine run ?_;refine call (den_Parse L s hl) ?_;cases hp:parse s with
 | none=>
  rw[parseV_n hp];refine run ?_
  (refine fin (Eq.symm (parentV_n ?_)); simp[parent,hp])
 | some l=>
  obtain ⟨h0,h6,hn⟩:=parse_some hp;have hpos:1<=l.length:=List.length_pos_iff.2 h0;rw[parseV_s hp];by_cases h2:l.length<2
  ·have h1:l.length=1:=by omega
   refine run ?_
   (refine fin (Eq.symm (parentV_n ?_)); simp[parent,hp,h2])
  ·refine runW (take_map_nat l (l.length-1)) ?_;refine call (den_format L (l.take (l.length-1)) (by simp; omega) (fun n h=>hn n (List.mem_of_mem_take h))) ?_;refine run ?_
   (refine fin (Eq.symm (parentV_s ?_)); simp[parent,hp,h2])
theorem name_print {s:Str} (h:printable s=false):name s=false:=by simp[name,h]
theorem den_Name (L:LibC T) (s:Str) (hl:s.length<=1048576):Den Tryz.prog T 40 [.str s] (vb (name s)):=by
 refine den_of_body follows (fun args w=>Tryz.call40 args w) Tryz.func40 rfl 38 rfl ?_;by_cases h1:s.length<1
 ·refine run ?_;refine fin (vb_eq ?_);have:¬ 1<=s.length:=by omega
  simp[name,this]
 by_cases h2:64<s.length
 ·refine run ?_;refine fin (vb_eq ?_);have:¬s.length<=64:=by omega
  simp[name,this]
 have g1:1<=s.length:=by omega
 have g2:s.length<=64:=by omega
 obtain ⟨t,hden,ht⟩:=L.trim s hl;refine run ?_;refine call hden ?_;by_cases hts:t=s
 ·have hts':(t == s)=true:=by simp[hts]
  refine runW hts' ?_;refine call (L.contains s hl) ?_;cases hdb:dbl s
  ·refine run ?_
   have hname:name s=printable s:=by
    cases hpr:printable s
    ·exact name_print hpr
    ·obtain ⟨e1,e2⟩:=(ht hpr).1 hts;simp[name,g1,g2,hpr,hdb,e1,e2]
   refine loop ⟨[0,23,24],[],[],[]⟩ (fun k:Nat=>k<=s.length/\name s=printable (s.drop k)) (fun k=>s.length-k)
    (fun k=>⟨38,[(0,.v (.str s)),(23,.v (vi s.length)),(24,.v (vi k))],[],[]⟩) 0 ⟨by omega,by simpa using hname⟩ ?_
   rintro k ⟨hk,hall⟩;by_cases hlt:k<s.length
   ·obtain ⟨x,hx,hd,hm⟩:=drop_at hlt;rw[hd,printable_cons] at hall;by_cases g1:x.toNat<32
    ·refine runW hx ?_;refine fin (vb_eq ?_);have:¬ 32<=x.toNat:=by omega
     rw[hall]; simp[this]
    by_cases g2:126<x.toNat
    ·refine runW hx ?_;refine fin (vb_eq ?_);have:¬x.toNat<=126:=by omega
     rw[hall]; simp[this]
    refine runW hx ?_;refine round (k+1) ⟨by omega,?_⟩ (by omega);rw[hall];have e1:32<=x.toNat:=by omega
    have e2:x.toNat<=126:=by omega
    simp[e1,e2]
   ·refine run ?_;refine fin (vb_eq ?_);rw[hall,drop_end hlt]; rfl
  ·refine run ?_;refine fin (vb_eq ?_);simp[name,hdb]
 ·have hts':(t == s)=false:=beq_f hts;refine runW hts' ?_;refine fin (vb_eq ?_)
  symm
  cases hpr:printable s
  ·exact name_print hpr
  ·have hne:¬(s.head? ≠ some 32/\s.getLast? ≠ some 32):=fun e=>hts ((ht hpr).2 e);by_cases hh:s.head? = some 32
   ·simp[name,hh]
   ·have hl:s.getLast? = some 32:=by
     by_cases hl:s.getLast? = some 32
     ·exact hl
     ·exact absurd ⟨hh,hl⟩ hne
    simp[name,hl]
end Go.Arc
