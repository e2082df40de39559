/- A part of this claim. -/
import Derived.Test.YtcmpmdgdchmojaaGreatDoorW4
set_option maxRecDepth 100000
namespace Go.Arc
open Go.Ab Go.RowKit Go.Proofs
variable {T : Lay}
theorem parseV_n {s:Str} (h:parse s=none):parseV s= .tup [.val (.slice none 0 0),vi 3]:=by simp[parseV,h]
theorem parseV_s {s:Str} {l:List Nat} (h:parse s=some l):parseV s= .tup [nats l,vi 0]:=by simp[parseV,h]
theorem den_GoodRef (s:Str) (hl:s.length<=1048576):Den Tryz.prog T 120 [.str s] (vb (parse s).isSome):=by
 refine den_of_body follows (fun args w=>Tryz.call120 args w) Tryz.func120 rfl 12 rfl ?_;refine run ?_;refine call (den_ParseRef s hl) ?_;cases hp:parse s with
 | none=>rw[parseV_n hp]; refine run ?_; exact fin (vb_eq rfl)
 | some l=>rw[parseV_s hp]; refine run ?_; exact fin (vb_eq rfl)
theorem digs (n:Nat) (h:n<10):(48::(([49,50,51,52,53,54,55,56,57]:List UInt8).take n)).drop n=[UInt8.ofNat (48+n)]:=by
 have:∀n:Fin 10,(48::(([49,50,51,52,53,54,55,56,57]:List UInt8).take n.1)).drop n.1=[UInt8.ofNat (48+n.1)]:=by decide
 exact this ⟨n,h⟩
theorem den_Dec1 (n:Nat) (h:n<10):Den Tryz.prog T 117 [vi n] (.str [UInt8.ofNat (48+n)]):=by
 refine den_of_body follows (fun args w=>Tryz.call117 args w) Tryz.func117 rfl 19 rfl ?_;refine run ?_;refine fin ?_;rw[digs n h]
theorem den_Dec2 (n:Nat) (h0:10<=n) (h:n<100):Den Tryz.prog T 117 [vi n] (.str [UInt8.ofNat (48+n / 10),UInt8.ofNat (48+n % 10)]):=by
 refine den_of_body follows (fun args w=>Tryz.call117 args w) Tryz.func117 rfl 19 rfl ?_;refine run ?_;refine call (den_Dec1 (n / 10) (by omega)) ?_;refine runW (digs (n % 10) (by omega)) ?_;exact fin rfl
theorem den_Dec3 (n:Nat) (h0:100<=n) (h:n<1000):Den Tryz.prog T 117 [vi n] (.str [UInt8.ofNat (48+n / 10 / 10),UInt8.ofNat (48+n / 10 % 10),UInt8.ofNat (48+n % 10)]):=by
 refine den_of_body follows (fun args w=>Tryz.call117 args w) Tryz.func117 rfl 19 rfl ?_;refine run ?_;refine call (den_Dec2 (n / 10) (by omega) (by omega)) ?_;refine runW (digs (n % 10) (by omega)) ?_;exact fin rfl
theorem den_Dec (n:Nat) (h:n<1000):Den Tryz.prog T 117 [vi n] (.str (dec n)):=by
 unfold dec;split
 ·exact den_Dec1 n ‹_›
 ·split
  ·exact den_Dec2 n (by omega) ‹_›
  ·exact den_Dec3 n (by omega) h
def dots:List Nat->Str
 | []=>[]
 | n::r=>46::dec n++dots r
theorem fmt_dots:∀(l:List Nat) (n:Nat),fmt (n::l)=dec n++dots l
 | [],n=>by simp[fmt,dots]
 | m::r,n=>by
  simp only[fmt,dots];rw[fmt_dots r m];simp
theorem dec_len (n:Nat):(dec n).length<=3:=by unfold dec; split <;> (try split) <;> simp
theorem den_FormatRef (l:List Nat) (h0:l≠[]) (h6:l.length<=6) (hn:∀n∈l,1<=n/\n<1000):Den Tryz.prog T 350 [nats l] (.tup [.str (fmt l),vi 0]):=by
 refine den_of_body follows (fun args w=>Tryz.call350 args w) Tryz.func350 rfl 44 rfl ?_;have hpos:1<=l.length:=List.length_pos_iff.2 h0;refine run ?_
 refine loop ⟨[0,4,5],[],[],[]⟩ (fun y:Nat×Str=>y.1<=l.length/\y.2.length<=4*y.1/\((y.1=0/\y.2=[])\/(1<=y.1/\fmt l=y.2++dots (l.drop y.1)))) (fun y=>l.length-y.1)
  (fun y=>⟨44,[(0,.v (nats l)),(4,.v (.str y.2)),(5,.v (vi y.1))],[],[]⟩) (0,[]) ⟨by simp,by simp,.inl ⟨rfl,rfl⟩⟩ ?_
 rintro ⟨k,out⟩ ⟨hk,hlen,hall⟩;simp only at hk hlen hall;by_cases hlt:k<l.length
 ·obtain ⟨x,hx,hd,hm⟩:=drop_at hlt;obtain ⟨hx1,hx2⟩:=hn x hm;have hdl:=dec_len x;rcases hall with ⟨rfl,rfl⟩ | ⟨h1,hall⟩
  ·refine runW hx ?_;refine call (den_Dec x hx2) ?_;refine run ?_;refine round (1,dec x) ⟨by simp only; omega,by simp only; omega,.inr ⟨by simp,?_⟩⟩ (by simp only; omega);have hl0:l=x::l.drop 1:=by simpa using hd
   simp only
   conv=>lhs; rw[hl0]
   rw[fmt_dots]
  ·refine runW hx ?_;refine call (den_Dec x hx2) ?_;refine run ?_;refine round (k+1,out++[46]++dec x) ⟨by simp only; omega,?_,.inr ⟨by simp,?_⟩⟩ (by simp only; omega)
   ·simp only[List.length_append,List.length_cons,List.length_nil]; omega
   ·simp only;rw[hall,hd]; simp[dots]
 ·rcases hall with ⟨rfl,rfl⟩ | ⟨h1,hall⟩
  ·omega
  ·refine run ?_;refine fin ?_;rw[hall,drop_end hlt]; simp[dots]
end Go.Arc
