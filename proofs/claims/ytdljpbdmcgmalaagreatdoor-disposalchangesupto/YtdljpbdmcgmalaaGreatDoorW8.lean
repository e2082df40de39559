/- A part of this claim. -/
import Derived.Test.YtdljpbdmcgmalaaGreatDoorBaE
set_option maxRecDepth 100000
namespace Go.Arc
open Go.Ab Go.RowKit Go.Proofs Tryz
variable {T : Lay}
structure LibC (T:Lay):Prop where
 split:∀s:Str,s.length<=1048576->Den prog T 338 [.str s,.str [46]] (strs (split [] s))
 atoi:∀s:Str,s.length<=1048576->(∃n:Int,Den prog T 339 [.str s] (.tup [vi n,.val .nilIface])/\∀m:Nat,part s=some m->n=m)\/
  (part s=none/\∃n:Int,Den prog T 339 [.str s] (.tup [vi n,.ifc]))
 itoa:∀n:Nat,n<1000->Den prog T 30 [vi n] (.str (dec n))
 join:∀l:List Nat,l.length<=6->(∀n∈l,n<1000)->Den prog T 31 [strs (l.map dec),.str [46]] (.str (fmt l))
 trim:∀s:Str,s.length<=1048576->∃t,Den prog T 158 [.str s] (.str t)/\(je9 s=true->(t=s↔s.head? ≠ some 32/\s.getLast? ≠ some 32))
 contains:∀s:Str,s.length<=1048576->Den prog T 159 [.str s,.str [32,32]] (vb (dbl s))
theorem part_dec {n:Nat} (h1:1<=n) (h:n<1000):part (dec n)=some n:=by
 have:∀n:Fin 1000,1<=n.1->part (dec n.1)=some n.1:=by decide +kernel
 exact this ⟨n,h⟩ h1
theorem u8_of {c:UInt8} {n:Nat} (h:c.toNat=n):UInt8.ofNat n=c:=by
 rw[<- h]; exact UInt8.ofNat_toNat
theorem dec_part {s:Str} {n:Nat} (h:part s=some n):dec n=s:=by
 unfold part at h;split at h
 ·cases h
 ·rename_i hc
  match s,hc,h with
  | [],hc,_=>simp at hc
  | [a],hc,h=>
   simp only[vnum] at h;split at h
   ·simp only[Option.some.injEq] at h;unfold dec;rw[if_pos om,u8_of (c:=a) om]
   ·cases h
  | [a,b],hc,h=>
   have ha:a.toNat≠48:=fun e=>hc (.inr (.inr (by simp[show a=48 from UInt8.toNat_inj.1 e])));simp only[vnum] at h;split at h
   ·split at h
    ·simp only[Option.some.injEq] at h;unfold dec;rw[if_neg om,if_pos om,u8_of (c:=a) om,u8_of (c:=b) om]
    ·cases h
   ·cases h
  | [a,b,c],hc,h=>
   have ha:a.toNat≠48:=fun e=>hc (.inr (.inr (by simp[show a=48 from UInt8.toNat_inj.1 e])));simp only[vnum] at h;split at h
   ·split at h
    ·split at h
     ·simp only[Option.some.injEq] at h;unfold dec;rw[if_neg om,if_neg om,u8_of (c:=a) om,u8_of (c:=b) om,u8_of (c:=c) om]
     ·cases h
    ·cases h
   ·cases h
  | _::_::_::_::_,hc,_=>exact absurd sm hc
theorem jpb:∀(s cur:Str),∀p∈split cur s,p.length<=cur.length+s.length
 | [],cur,p,h=>by simp[split] at h; subst h; simp
 | c::r,cur,p,h=>by
  simp only[split] at h;split at h
  ·rcases List.mem_cons.1 h with rfl | h
   ·simp
   ·have:=jpb r [] p h; simp at this ⊢; omega
  ·have:=jpb r _ p h; simp at this ⊢; omega
theorem jmo:∀(s cur:Str),(split cur s).length<=s.length+1
 | [],cur=>by simp[split]
 | c::r,cur=>by
  simp only[split];split
  ·have:=jmo r []; simp; omega
  ·have:=jmo r (cur++[c]); simp; omega
theorem parseV_many {s:Str} (h:6<(split [] s).length):jed s= .tup [.val (.slice none 0 0),vi 3]:=by
 cases hn:jb5 (split [] s) with
 | none=>exact jly hn
 | some l=>exact jr9 hn (by rw[(jpg hn).1]; exact h)
theorem jhr (L:LibC T) (s:Str) (hl:s.length<=1048576):Den prog T 276 [.str s] (jed s):=by
 refine ja0 call276 func276 48 ?_;refine rc (L.split s hl) ?_;have hcnt:=jmo s [];by_cases h6:6<(split [] s).length
 ·refine run ?_;exact fin (parseV_many h6).symm
 have hp:=jpb s [];generalize hS:split [] s=l at *;refine run ?_
 refine loop ⟨[5,15,16,17],[],[5],[(5,3,1)]⟩ (fun y:Nat×List Nat=>y.1<=l.length/\y.2.length=y.1/\jb5 l=(jb5 (l.drop y.1)).map (y.2 ++ ·)) (fun y=>l.length-y.1)
  (fun y=>⟨48,[(5,.v (nats y.2)),(15,.v (strs l)),(16,.v (vi l.length)),(17,.v (vi y.1))],[],[(3,[5])]⟩) (0,[]) ⟨sm,sm,sm⟩ ?_
 rintro ⟨k,out⟩ ⟨hk,hlen,hall⟩;simp only at hk hlen hall;by_cases hlt:k<l.length
 ·obtain ⟨x,hx,hd,hm⟩:=ja1 hlt;have hxl:x.length<=1048576:=by have:=hp x hm; simp at this; omega
  have hno:part x=none->V.tup [.val (.slice none 0 0),vi 3]=jed s:=fun h=>(jly (by rw[hS,hall,hd]; simp[jb5,h])).symm;refine runW hx ?_;rcases L.atoi x hxl with ⟨n,hden,hpn⟩ | ⟨hpn,n,hden⟩
  ·refine call hden ?_;by_cases h1:n<1
   ·refine run ?_;refine fin (hno ?_);cases hq:part x with
    | none=>rfl
    | some m=>have:=hpn m hq; have:=part_ge hq; omega
   by_cases h2:999<n
   ·refine run ?_;refine fin (hno ?_);cases hq:part x with
    | none=>rfl
    | some m=>have:=hpn m hq; have:=part_lt hq; omega
   obtain ⟨m,rfl⟩:=Int.eq_ofNat_of_zero_le (show 0<=n by omega);refine rc (L.itoa m om) ?_;by_cases he:dec m=x
   ·have hpx:part x=some m:=by rw[<- he]; exact part_dec om om
    have he':(dec m == x)=true:=by simp[he]
    have hap:out.map Cnat++[[V.val (.int .i64 m)]]=(out++[m]).map Cnat:=by simp
    refine runW (ai he' hap) ?_;refine round (k+1,out++[m]) ⟨by simp only; omega,by simp[hlen],?_⟩ zeh;simp only;rw[hall,hd];simp only[jb5,hpx];cases jb5 (l.drop (k+1)) <;> simp
   ·have he':(dec m == x)=false:=beq_f he;refine runW he' ?_;refine fin (hno ?_);cases hq:part x with
    | none=>rfl
    | some m'=>exact absurd (by have:=hpn m' hq; have:=dec_part hq; rwa [show m'=m by omega] at this) he
  ·refine call hden ?_;refine run ?_;exact fin (hno hpn)
 ·refine run ?_;rw[jc2 hlt] at hall;have hs:jb5 (split [] s)=some out:=by rw[hS,hall]; simp[jb5]
  exact fin (parseV_ok hs om).symm
abbrev numsV (s:Str):V:=match ja6 s with
 | some l=>nats l
 | none=> .val (.slice none 0 0)
theorem jg3 {s:Str} {l:List Nat} (h:ja6 s=some l):numsV s=nats l:=by simp[numsV,h]
theorem jgs {s:Str} (h:ja6 s=none):numsV s= .val (.slice none 0 0):=by simp[numsV,h]
theorem jo2 (L:LibC T) (s:Str) (hl:s.length<=1048576):Den prog T 319 [.str s] (numsV s):=by
 refine ja0 call319 func319 11 ?_;refine rc (jhr L s hl) ?_;cases hp:ja6 s with
 | none=>rw[jeu hp]; refine run ?_; exact fin (jgs hp).symm
 | some l=>rw[jet hp]; refine run ?_; exact fin (jg3 hp).symm
theorem den_both (L:LibC T) (a b:Str) (ha:a.length<=1048576) (hb:b.length<=1048576):Den prog T 354 [.str a,.str b] (.tup [numsV a,numsV b,vb ((ja6 a).isSome && (ja6 b).isSome)]):=by
 refine ja0 call354 func354 29 ?_;refine rc (jhr L a ha) ?_;cases hp:ja6 a with
 | none=>
  rw[jeu hp,jgs hp];refine rc (jhr L b hb) ?_;cases hq:ja6 b with
  | none=>rw[jeu hq,jgs hq]; refine run ?_; exact fin rfl
  | some m=>rw[jet hq,jg3 hq]; refine run ?_; exact fin rfl
 | some l=>
  rw[jet hp,jg3 hp];refine rc (jhr L b hb) ?_;cases hq:ja6 b with
  | none=>rw[jeu hq,jgs hq]; refine run ?_; exact fin rfl
  | some m=>rw[jet hq,jg3 hq]; refine run ?_; exact fin rfl
theorem jpy (n:Int):Den prog T 281 [vi n] (vb false):=by
 refine ja0 call281 func281 6 ?_;exact za
def cmpI (a b:Int):Int:=if a<b then -1 else if b<a then 1 else 0
theorem jmh (a b:Int):Den prog T 305 [vi a,vi b] (vi (cmpI a b)):=by
 refine ja0 call305 func305 20 ?_;refine rc (jpy a) ?_;refine rc (jpy b) ?_;unfold cmpI;by_cases h1:a<b
 ·rw[if_pos h1];exact za
 ·rw[if_neg h1];by_cases h2:b<a
  ·rw[if_pos h2];exact za
  ·rw[if_neg h2];exact za
theorem den_compareInt (a b:List Nat) (ha:a.length<=1048576) (hb:b.length<=1048576):Den prog T 384 [nats a,nats b] (vi (cmpL a b)):=by
 refine ja0 call384 func384 36 ?_;refine run ?_;refine ja7 ⟨[11,0,1,9,10],[],[],[]⟩ a.length (fun k=>k<=b.length/\cmpL a b=cmpL (a.drop k) (b.drop k)) ⟨om,sm⟩ ?_;rintro k ⟨hk,hk',hall⟩;by_cases hlt:k<a.length
 ·obtain ⟨x,hx,hd,-⟩:=ja1 hlt;by_cases hlt':k<b.length
  ·obtain ⟨y,hy,he,-⟩:=ja1 hlt';refine rcW (ai hx hy) (jmh x y) ?_;by_cases h1:x<y
   ·have hc:cmpI x y= -1:=by unfold cmpI; rw[if_pos om]
    refine runW hc ?_;refine fin (ja5 ?_);rw[hall,hd,he]; simp[cmpL,h1]
   ·by_cases h2:y<x
    ·have hc:cmpI x y=1:=by unfold cmpI; rw[if_neg om,if_pos om]
     refine runW hc ?_;refine fin (ja5 ?_);rw[hall,hd,he]; simp[cmpL,h1,h2]
    ·have hc:cmpI x y=0:=by unfold cmpI; rw[if_neg om,if_neg om]
     refine runW hc ?_;exact round (k+1) ⟨om,om,by rw[hall,hd,he]; simp[cmpL,h1,h2]⟩ om
  ·refine runW hx ?_;refine fin (ja5 ?_);rw[hall,hd,jc2 hlt']; rfl
 ·by_cases hlt':k<b.length
  ·exact zc9
  ·refine run ?_;refine fin (ja5 ?_);rw[hall,jc2 hlt,jc2 hlt']; rfl
theorem den_Compare (L:LibC T) (a b:Str) (ha:a.length<=1048576) (hb:b.length<=1048576):Den prog T 367 [.str a,.str b] (cmpV a b):=by
 refine ja0 call367 func367 21 ?_;refine rc (den_both L a b ha hb) ?_;cases hp:ja6 a with
 | none=>
  rw[jgs hp];refine run ?_
  (refine fin (Eq.symm (ji1 ?_)); simp[cmp,hp])
 | some l=>
  obtain ⟨-,h6,-⟩:=jde hp;rw[jg3 hp];cases hq:ja6 b with
  | none=>
   rw[jgs hq];refine run ?_
   (refine fin (Eq.symm (ji1 ?_)); simp[cmp,hp,hq])
  | some m=>
   obtain ⟨-,h6',-⟩:=jde hq;rw[jg3 hq];refine rc (den_compareInt l m om om) ?_;refine run ?_
   (refine fin (Eq.symm (cmpV_s ?_)); simp[cmp,hp,hq])
theorem jp1 (L:LibC T) (a b:Str) (ha:a.length<=1048576) (hb:b.length<=1048576):Den prog T 295 [.str a,.str b] (vb (jc5 a b)):=by
 refine ja0 call295 func295 31 ?_;refine rc (den_both L a b ha hb) ?_;cases hp:ja6 a with
 | none=>
  rw[jgs hp];refine run ?_
  (refine fin (ja3 ?_); simp[jc5,hp])
 | some l=>
  obtain ⟨-,h6,-⟩:=jde hp;rw[jg3 hp];cases hq:ja6 b with
  | none=>
   rw[jgs hq];refine run ?_
   (refine fin (ja3 ?_); simp[jc5,hp,hq])
  | some m=>
   obtain ⟨-,h6',-⟩:=jde hq;rw[jg3 hq];by_cases hlt:m.length<=l.length
   ·refine rcW (jnl l m.length) (den_eqInt (l.take m.length) m zei om) ?_;refine run ?_
    (refine fin (ja3 ?_); simp[jc5,hp,hq,hlt])
   ·refine run ?_
    (refine fin (ja3 ?_); simp[jc5,hp,hq,hlt])
theorem den_format (L:LibC T) (l:List Nat) (h6:l.length<=6) (hn:∀n∈l,1<=n/\n<1000):Den prog T 368 [nats l] (.str (fmt l)):=by
 refine ja0 call368 func368 20 ?_;refine run ?_
 refine loop ⟨[3,6,7,8],[],[3],[(3,9,1)]⟩ (fun y:Nat×List Str=>y.1<=l.length/\y.2=(l.take y.1).map dec) (fun y=>l.length-y.1)
  (fun y=>⟨20,[(3,.v (strs y.2)),(6,.v (nats l)),(7,.v (vi l.length)),(8,.v (vi y.1))],[],[(9,[3])]⟩) (0,[]) ⟨sm,sm⟩ ?_
 rintro ⟨k,out⟩ ⟨hk,hall⟩;simp only at hk hall;have hol:out.length=k:=by rw[hall]; simp; omega
 by_cases hlt:k<l.length
 ·obtain ⟨x,hx,hd,hm⟩:=ja1 hlt;refine rcW hx (L.itoa x (hn x hm).2) ?_;have hap:out.map Cst++[[V.str (dec x)]]=(out++[dec x]).map Cst:=by simp
  refine runW hap ?_;refine round (k+1,out++[dec x]) ⟨by simp only; omega,?_⟩ zeh;exact zu
 ·have ho:out=l.map dec:=by rw[hall,List.take_of_length_le om]
  subst ho;refine rc (L.join l h6 fun n h=>(hn n h).2) ?_;exact za
theorem den_Parent (L:LibC T) (s:Str) (hl:s.length<=1048576):Den prog T 324 [.str s] (jjy s):=by
 refine ja0 call324 func324 24 ?_;refine rc (jhr L s hl) ?_;cases hp:ja6 s with
 | none=>
  rw[jeu hp];refine run ?_
  (refine fin (Eq.symm (jih ?_)); simp[jdb,hp])
 | some l=>
  obtain ⟨h0,h6,hn⟩:=jde hp;have hpos:1<=l.length:=List.length_pos_iff.2 h0;rw[jet hp];by_cases h2:l.length<2
  ·have h1:l.length=1:=om
   refine run ?_
   (refine fin (Eq.symm (jih ?_)); simp[jdb,hp,h2])
  ·refine rcW (jnl l (l.length-1)) (den_format L (l.take (l.length-1)) zei (fun n h=>hn n (List.mem_of_mem_take h))) ?_;refine run ?_
   (refine fin (Eq.symm (jky ?_)); simp[jdb,hp,h2])
theorem name_print {s:Str} (h:je9 s=false):name s=false:=by simp[name,h]
theorem jiq (L:LibC T) (s:Str) (hl:s.length<=1048576):Den prog T 93 [.str s] (vb (name s)):=by
 refine ja0 call93 func93 38 ?_;by_cases h1:s.length<1
 ·refine run ?_;refine fin (ja3 ?_);have:¬ 1<=s.length:=om
  simp[name,this]
 by_cases h2:64<s.length
 ·refine run ?_;refine fin (ja3 ?_);have:¬s.length<=64:=om
  simp[name,this]
 have g1:1<=s.length:=om
 have g2:s.length<=64:=om
 obtain ⟨t,hden,ht⟩:=L.trim s hl;refine rc hden ?_;by_cases hts:t=s
 ·have hts':(t == s)=true:=by simp[hts]
  refine rcW hts' (L.contains s hl) ?_;cases hdb:dbl s
  ·refine run ?_
   have hname:name s=je9 s:=by
    cases hpr:je9 s
    ·exact name_print hpr
    ·obtain ⟨e1,e2⟩:=(ht hpr).1 hts;simp[name,g1,g2,hpr,hdb,e1,e2]
   refine ja7 ⟨[24,0,23],[],[],[]⟩ s.length (fun k=>name s=je9 (s.drop k)) (by simpa using hname) ?_;rintro k ⟨hk,hall⟩;by_cases hlt:k<s.length
   ·obtain ⟨x,hx,hd,hm⟩:=ja1 hlt;rw[hd,jqb] at hall;by_cases g1:x.toNat<32
    ·refine runW hx ?_;refine fin (ja3 ?_);have:¬ 32<=x.toNat:=om
     rw[hall]; simp[this]
    by_cases g2:126<x.toNat
    ·refine runW hx ?_;refine fin (ja3 ?_);have:¬x.toNat<=126:=om
     rw[hall]; simp[this]
    refine runW hx ?_;refine round (k+1) ⟨om,?_⟩ om;rw[hall];have e1:32<=x.toNat:=om
    have e2:x.toNat<=126:=om
    simp[e1,e2]
   ·refine run ?_;refine fin (ja3 ?_);rw[hall,jc2 hlt]; rfl
  ·refine run ?_;refine fin (ja3 ?_);simp[name,hdb]
 ·have hts':(t == s)=false:=beq_f hts;refine runW hts' ?_;refine fin (ja3 ?_)
  symm
  cases hpr:je9 s
  ·exact name_print hpr
  ·have hne:¬(s.head? ≠ some 32/\s.getLast? ≠ some 32):=fun e=>hts ((ht hpr).2 e);by_cases hh:s.head? = some 32
   ·simp[name,hh]
   ·have hl:s.getLast? = some 32:=by
     by_cases hl:s.getLast? = some 32
     ·exact hl
     ·exact absurd ⟨hh,hl⟩ hne
    simp[name,hl]
end Go.Arc
