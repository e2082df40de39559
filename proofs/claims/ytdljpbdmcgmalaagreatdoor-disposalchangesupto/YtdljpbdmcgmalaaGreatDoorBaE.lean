/- A part of this claim. -/
import Derived.Test.YtdljpbdmcgmalaaGreatDoorTy
import Derived.Test.YtdljpbdmcgmalaaGreatDoorSp
set_option maxRecDepth 100000
namespace Go.Arc
open Go.Ab Go.RowKit Go.Proofs Tryz
theorem follows:prog.follows .mixedOrders=true:=kr
variable {T : Lay}
theorem den_ixCls (l:List Cls) (f:FuncId) (cap:List V) (p:Cls->Bool) (hl:l.length<=1048576) (hp:∀e∈l,Den prog T f (.agg e.cs::cap) (vb (p e))):
   Den prog T 366 [clss l,.func f cap] (vi (ix p l)):=by
  refine ja0 call366 func366 19 ?_;exact ixPf
theorem jkm (l:List Cls) (f:FuncId) (cap:List V) (p:Cls->Bool) (hl:l.length<=1048576) (hp:∀e∈l,Den prog T f (.agg e.cs::cap) (vb (p e))):
   Den prog T 317 [clss l,.func f cap] (vb (l.any p)):=by
  refine ja0 call317 func317 9 ?_;refine rc (den_ixCls l f cap p hl hp) ?_;exact zbj
theorem den_Has1 (c:Cls) (s:Str):Den prog T 330 [.agg c.cs,.row [.str s]] (vb (c.code == s)):=by
 refine ja0 call330 func330 8 ?_;exact za
theorem jj0 (p:Plan) (s:Str) (hl:p.cls.length<=1048576):Den prog T 274 [.agg p.cs,.str s] (vb (has p s)):=by
 refine ja0 call274 func274 9 ?_;refine rc (jkm p.cls _ _ (fun c=>c.code == s) hl fun e _=>den_Has1 e s) ?_;exact za
end Go.Arc
set_option maxRecDepth 100000
namespace Go.Arc
open Go.Ab Go.RowKit Go.Proofs Tryz
variable {T : Lay}
theorem jnz {α:Type} {l:List α} {q:α->Bool} {j:Nat} {x:α} (hx:l[j]? = some x):(l.take (j+1)).filter q=if q x=true then (l.take j).filter q++[x] else (l.take j).filter q:=by
 obtain ⟨hlt,rfl⟩:=gsi.1 hx;rw[List.take_succ_eq_append_getElem hlt,List.filter_append];cases h:q l[j] <;> simp[h]
theorem den_valid (f u:Int):Den prog T 268 [span f u] (vb (jaq f u)):=by
 refine ja0 call268 func268 18 ?_;unfold jaq;by_cases h1:0<=f <;> by_cases h2:f<u <;> by_cases h3:u<=1048576 <;> (refine run ?_; refine fin (ja3 ?_); simp; try omega)
theorem jkn (f u:Int):Den prog T 112 [span f u] (vb (jaq f u)):=by
 refine ja0 call112 func112 18 ?_;unfold jaq;by_cases h1:0<=f <;> by_cases h2:f<u <;> by_cases h3:u<=1048576 <;> (refine run ?_; refine fin (ja3 ?_); simp; try omega)
theorem den_In04 (f u d:Int):Den prog T 177 [span f u,vi d] (vb (inS f u d)):=by
 refine ja0 call177 func177 15 ?_;unfold inS;by_cases h1:f<=d <;> by_cases h2:d<u <;> (refine run ?_; refine fin (ja3 ?_); simp; try omega)
theorem jjg (p:Plan) (s:Str) (hl:p.cls.length<=1048576):Den prog T 227 [.agg p.cs,.str s] (vb (has p s)):=by
 refine ja0 call227 func227 21 ?_;refine run ?_;refine ja7 ⟨[5,1,2],[2],[],[]⟩ p.cls.length (fun k=>has p s=(p.cls.drop k).any fun c=>c.code == s) rfl ?_;rintro k ⟨hk,hall⟩;by_cases hlt:k<p.cls.length
 ·obtain ⟨x,hx,hd,hm⟩:=ja1 hlt;by_cases he:x.code=s
  ·subst he;refine runW hx ?_;refine fin (ja3 ?_);rw[hall,hd]; simp
  ·have hf:=beq_f he;refine runW (ai hx hf) ?_;exact round (k+1) ⟨om,by rw[hall,hd]; simp[hf]⟩ om
 ·refine run ?_;refine fin (ja3 ?_);rw[hall,jc2 hlt]; rfl
theorem den_eqInt (a b:List Nat) (ha:a.length<=1048576) (_hb:b.length<=1048576):Den prog T 102 [nats a,nats b] (vb (decide (a=b))):=by
 refine ja0 call102 func102 26 ?_;by_cases hl:a.length=b.length
 ·refine run ?_;refine ja7 ⟨[13,0,1,12],[],[],[]⟩ a.length (fun k=>(a=b↔a.drop k=b.drop k)) sm ?_;rintro k ⟨hk,hall⟩;by_cases hlt:k<a.length
  ·obtain ⟨x,hx,hd,-⟩:=ja1 hlt;obtain ⟨y,hy,he,-⟩:=ja1 (l:=b) (k:=k) om;by_cases hxy:x=y
   ·exact zbb
   ·refine runW (ai hx hy) ?_;refine fin (ja3 ?_)
    symm
    exact zcx
  ·refine run ?_;refine fin (ja3 ?_)
   symm; rw[decide_eq_true_iff,hall,jc2 hlt,jc2 (l:=b) om]
 ·refine run ?_;refine fin (ja3 ?_)
  exact zb7
theorem den_less (a b:List Nat) (ha:a.length<=1048576) (hb:b.length<=1048576):Den prog T 349 [nats a,nats b] (vi (cmpL a b)):=by
 refine ja0 call349 func349 46 ?_;refine run ?_;refine ja7 ⟨[5,0,1],[],[],[]⟩ a.length (fun k=>k<=b.length/\cmpL a b=cmpL (a.drop k) (b.drop k)) ⟨om,sm⟩ ?_;rintro k ⟨hk,hk',hall⟩;by_cases hlt:k<a.length
 ·by_cases hlt':k<b.length
  ·obtain ⟨x,hx,hd,-⟩:=ja1 hlt;obtain ⟨y,hy,he,-⟩:=ja1 hlt';by_cases h1:x<y
   ·refine runW (ai hx hy) ?_;refine fin (ja5 ?_);rw[hall,hd,he]; simp[cmpL,h1]
   ·by_cases h2:y<x
    ·refine runW (ai hx hy) ?_;refine fin (ja5 ?_);rw[hall,hd,he]; simp[cmpL,h1,h2]
    ·refine runW (ai hx hy) ?_;exact round (k+1) ⟨om,om,by rw[hall,hd,he]; simp[cmpL,h1,h2]⟩ om
  ·obtain ⟨x,hx,hd,-⟩:=ja1 hlt;refine run ?_;refine fin (ja5 ?_);rw[hall,hd,jc2 hlt']; rfl
 ·by_cases hlt':k<b.length
  ·exact zc9
  ·refine run ?_;refine fin (ja5 ?_);rw[hall,jc2 hlt,jc2 hlt']; rfl
abbrev partV (s:Str):V:=match part s with
 | some n=> .tup [vi n,vb true]
 | none=> .tup [vi 0,vb false]
theorem jom {s:Str} {n:Nat} (h:part s=some n):partV s= .tup [vi n,vb true]:=by simp[partV,h]
theorem jon {s:Str} (h:part s=none):partV s= .tup [vi 0,vb false]:=by simp[partV,h]
theorem jrj (s:Str) (hl:s.length<=1048576):Den prog T 351 [.str s] (partV s):=by
 refine ja0 call351 func351 44 ?_;have hn:∀ {x},part s=none->x=V.tup [vi 0,vb false]->x=partV s:=fun h e=>e.trans (jon h).symm;by_cases h1:s.length<1
 ·refine run ?_;exact fin (hn (by unfold part; rw[if_pos (.inl h1)]) rfl)
 by_cases h2:3<s.length
 ·refine run ?_;exact fin (hn (by unfold part; rw[if_pos (.inr (.inl h2))]) rfl)
 obtain ⟨c0,hc0,-,-⟩:=ja1 (l:=s) (k:=0) om;have hh:s.head? = some c0:=by rw[List.head?_eq_getElem?]; exact hc0
 by_cases h3:c0.toNat=48
 ·refine runW hc0 ?_;refine fin (hn (by unfold part; rw[if_pos (.inr (.inr (by rw[hh,show c0=48 from UInt8.toNat_inj.1 h3])))]) rfl)
 ·refine runW hc0 ?_
  have hp:part s=vnum 0 s:=by
   unfold part;rw[if_neg];rintro (h | h | h)
   ·exact h1 h
   ·exact h2 h
   ·rw[hh] at h; cases h; exact h3 rfl
  refine jb6 ⟨[4,5,0],[],[],[]⟩ (fun y:Nat×Nat=>y.1<=s.length/\y.2<10 ^ y.1/\vnum 0 s=vnum y.2 (s.drop y.1)) (fun y=>s.length-y.1) (fun y=>[(4,.v (vi y.2)),(5,.v (vi y.1))]) (0,0) ⟨sm,sm,sm⟩ ?_;rintro ⟨k,n⟩ ⟨hk,hn',hall⟩;simp only at hk hn' hall;have h3':10 ^ k<=10 ^ 3:=Nat.pow_le_pow_right dc om;by_cases hlt:k<s.length
  ·obtain ⟨x,hx,hd,hm⟩:=ja1 hlt;by_cases g1:x.toNat<48
   ·exact zdf
   ·by_cases g2:57<x.toNat
    ·exact zdf
    ·refine runW hx ?_;refine round (k+1,10*n+(x.toNat-48)) ⟨by simp only; omega,?_,?_⟩ zeh ?_
     ·simp only[Nat.pow_succ]; omega
     ·simp only; rw[hall,hd]; simp only[vnum]; rw[if_pos om]
     ·have e:(10*(n:Int)+((x.toNat:Int)-48))=((10*n+(x.toNat-48):Nat):Int):=om
      simp only[e]; rfl
  ·refine run ?_;exact fin (jom (n:=n) (by rw[hp,hall,jc2 hlt]; rfl)).symm
def numsK (out:List Nat) (cur s:Str):Option (List Nat):=(jb5 (split cur s)).map (out ++ ·)
theorem jly {s:Str} (h:jb5 (split [] s)=none):jed s= .tup [.val (.slice none 0 0),vi 3]:=by simp[jed,ja6,h]
theorem jr9 {s:Str} {l:List Nat} (h:jb5 (split [] s)=some l) (hl:6<l.length):jed s= .tup [.val (.slice none 0 0),vi 3]:=by
 have:¬l.length<=6:=om
 simp[jed,ja6,h,this]
theorem parseV_ok {s:Str} {l:List Nat} (h:jb5 (split [] s)=some l) (hl:l.length<=6):jed s= .tup [nats l,vi 0]:=by simp[jed,ja6,h,hl]
theorem jk8 (s:Str) (hl:s.length<=1048576):Den prog T 292 [.str s] (jed s):=by
 refine ja0 call292 func292 46 ?_;refine run ?_
 refine loop ⟨[0,4,5,6],[],[4],[]⟩ (fun y:Nat×Nat×List Nat=>y.1<=s.length+1/\y.2.1<=y.1/\y.2.2.length<=y.1/\
   ((y.2.1<=s.length/\jb5 (split [] s)=numsK y.2.2 ((s.take y.1).drop y.2.1) (s.drop y.1)/\y.1<=s.length)\/(y.1=s.length+1/\jb5 (split [] s)=some y.2.2))) (fun y=>s.length+1-y.1)
  (fun y=>⟨46,[(0,.v (.str s)),(4,.v (nats y.2.2)),(5,.v (vi y.2.1)),(6,.v (vi y.1))],[],[(3,[4])]⟩) (0,0,[]) ?_ ?_
 ·refine ⟨sm,sm,sm,.inl ⟨sm,?_,sm⟩⟩;simp[numsK]
 ·rintro ⟨k,f,out⟩ ⟨h1,h2,h3,h4⟩;simp only at h1 h2 h3 h4;rcases h4 with ⟨g1,g2,g3⟩ | ⟨g1,g2⟩
  ·by_cases hlt:k<s.length
   ·obtain ⟨x,hx,hd,-⟩:=ja1 hlt;by_cases hdot:x.toNat=46
    ·have hx46:x=46:=UInt8.toNat_inj.1 hdot;have hcl:((s.take k).drop f).length<=1048576:=by simp; omega
     refine rcW hx (jrj ((s.take k).drop f) hcl) ?_
     have hsp:split ((s.take k).drop f) (s.drop k)=((s.take k).drop f)::split [] (s.drop (k+1)):=by
      rw[hd]; simp only[split]; rw[if_pos hx46]
     cases hp:part ((s.take k).drop f) with
     | none=>
      rw[jon hp];refine run ?_;exact fin (jly (by rw[g2,numsK,hsp]; simp[jb5,hp])).symm
     | some n=>
      rw[jom hp];have hap:out.map Cnat++[[V.val (.int .i64 n)]]=(out++[n]).map Cnat:=by simp
      refine runW hap ?_;refine round (k+1,k+1,out++[n]) ⟨by simp only; omega,by simp only; omega,by simp; omega,.inl ⟨by simp only; omega,?_,by simp only; omega⟩⟩ zeh;simp only;have e0:(s.take (k+1)).drop (k+1)=[]:=List.drop_eq_nil_of_le zei;rw[g2,numsK,numsK,hsp,e0];simp only[jb5,hp];cases jb5 (split [] (s.drop (k+1))) <;> simp
    ·have hne:x≠46:=fun e=>hdot ze3;refine runW hx ?_;refine round (k+1,f,out) ⟨by simp only; omega,by simp only; omega,by simp only; omega,.inl ⟨g1,?_,by simp only; omega⟩⟩ zeh;simp only
     have ht:(s.take (k+1)).drop f=(s.take k).drop f++[x]:=by
      obtain ⟨hlt,rfl⟩:=gsi.1 hx;rw[List.take_succ_eq_append_getElem hlt,List.drop_append_of_le_length zei]
     rw[g2,numsK,numsK,hd,ht];simp only[split];rw[if_neg hne]
   ·have hk:k=s.length:=om
    subst hk;have hcl:((s.take s.length).drop f).length<=1048576:=by simp; omega
    refine rc (jrj ((s.take s.length).drop f) hcl) ?_;rw[jc2 hlt] at g2;cases hp:part ((s.take s.length).drop f) with
    | none=>
     rw[jon hp];refine run ?_;exact fin (jly (by rw[List.take_length] at g2 hp; rw[g2]; simp[numsK,split,jb5,hp])).symm
    | some n=>
     rw[jom hp];have hap:out.map Cnat++[[V.val (.int .i64 n)]]=(out++[n]).map Cnat:=by simp
     refine runW hap ?_;refine round (s.length+1,s.length+1,out++[n]) ⟨by simp only; omega,by simp only; omega,by simp; omega,.inr ⟨rfl,?_⟩⟩ zeh;simp only;rw[List.take_length] at g2 hp; rw[g2]; simp[numsK,split,jb5,hp]
  ·by_cases h6:6<out.length
   ·refine run ?_;exact fin (jr9 g2 h6).symm
   ·refine run ?_;exact fin (parseV_ok g2 om).symm
theorem jeu {s:Str} (h:ja6 s=none):jed s= .tup [.val (.slice none 0 0),vi 3]:=by simp[jed,h]
theorem jet {s:Str} {l:List Nat} (h:ja6 s=some l):jed s= .tup [nats l,vi 0]:=by simp[jed,h]
theorem jo4 (s:Str) (hl:s.length<=1048576):Den prog T 229 [.str s] (vb (ja6 s).isSome):=by
 refine ja0 call229 func229 12 ?_;refine rc (jk8 s hl) ?_;cases hp:ja6 s with
 | none=>rw[jeu hp]; refine run ?_; exact fin (ja3 rfl)
 | some l=>rw[jet hp]; refine run ?_; exact fin (ja3 rfl)
theorem digs (n:Nat) (h:n<10):(48::(([49,50,51,52,53,54,55,56,57]:List UInt8).take n)).drop n=[UInt8.ofNat (48+n)]:=by
 have:∀n:Fin 10,(48::(([49,50,51,52,53,54,55,56,57]:List UInt8).take n.1)).drop n.1=[UInt8.ofNat (48+n.1)]:=by decide
 exact this ⟨n,h⟩
theorem den_Dec1 (n:Nat) (h:n<10):Den prog T 33 [vi n] (.str [UInt8.ofNat (48+n)]):=by
 refine ja0 call33 func33 19 ?_;refine run ?_;refine fin ?_;rw[digs n h]
theorem den_Dec2 (n:Nat) (h0:10<=n) (h:n<100):Den prog T 33 [vi n] (.str [UInt8.ofNat (48+n / 10),UInt8.ofNat (48+n % 10)]):=by
 refine ja0 call33 func33 19 ?_;refine rc (den_Dec1 (n / 10) om) ?_;exact zdn
theorem den_Dec3 (n:Nat) (h0:100<=n) (h:n<1000):Den prog T 33 [vi n] (.str [UInt8.ofNat (48+n / 10 / 10),UInt8.ofNat (48+n / 10 % 10),UInt8.ofNat (48+n % 10)]):=by
 refine ja0 call33 func33 19 ?_;refine rc (den_Dec2 (n / 10) om om) ?_;exact zdn
theorem den_Dec (n:Nat) (h:n<1000):Den prog T 33 [vi n] (.str (dec n)):=by
 unfold dec;split
 ·exact den_Dec1 n ‹_›
 ·split
  ·exact den_Dec2 n om ‹_›
  ·exact den_Dec3 n om h
def dots:List Nat->Str
 | []=>[]
 | n::r=>46::dec n++dots r
theorem jld:∀(l:List Nat) (n:Nat),fmt (n::l)=dec n++dots l
 | [],n=>by simp[fmt,dots]
 | m::r,n=>by
  simp only[fmt,dots];rw[jld r m];simp
theorem dec_len (n:Nat):(dec n).length<=3:=by unfold dec; split <;> (try split) <;> simp
theorem den_FormatRef (l:List Nat) (h0:l≠[]) (h6:l.length<=6) (hn:∀n∈l,1<=n/\n<1000):Den prog T 350 [nats l] (.tup [.str (fmt l),vi 0]):=by
 refine ja0 call350 func350 44 ?_;have hpos:1<=l.length:=List.length_pos_iff.2 h0;refine run ?_;refine jb6 ⟨[4,5,0],[],[],[]⟩ (fun y:Nat×Str=>y.1<=l.length/\y.2.length<=4*y.1/\((y.1=0/\y.2=[])\/(1<=y.1/\fmt l=y.2++dots (l.drop y.1)))) (fun y=>l.length-y.1) (fun y=>[(4,.v (.str y.2)),(5,.v (vi y.1))]) (0,[]) ⟨sm,sm,.inl ⟨rfl,rfl⟩⟩ ?_;rintro ⟨k,out⟩ ⟨hk,hlen,hall⟩;simp only at hk hlen hall;by_cases hlt:k<l.length
 ·obtain ⟨x,hx,hd,hm⟩:=ja1 hlt;obtain ⟨hx1,hx2⟩:=hn x hm;have hdl:=dec_len x;rcases hall with ⟨rfl,rfl⟩ | ⟨h1,hall⟩
  ·refine rcW hx (den_Dec x hx2) ?_;refine run ?_;refine round (1,dec x) ⟨by simp only; omega,by simp only; omega,.inr ⟨sm,?_⟩⟩ zeh;have hl0:l=x::l.drop 1:=by simpa using hd
   simp only
   conv=>lhs; rw[hl0]
   rw[jld]
  ·refine rcW hx (den_Dec x hx2) ?_;refine run ?_;refine round (k+1,out++[46]++dec x) ⟨by simp only; omega,?_,.inr ⟨sm,?_⟩⟩ zeh
   ·simp only[List.length_append,List.length_cons,List.length_nil]; omega
   ·simp only;rw[hall,hd]; simp[dots]
 ·rcases hall with ⟨rfl,rfl⟩ | ⟨h1,hall⟩
  ·omega
  ·refine run ?_;refine fin ?_;rw[hall,jc2 hlt]; simp[dots]
abbrev jjy (s:Str):V:=match jdb s with
 | some p=> .tup [.str p,vb true]
 | none=> .tup [.str [],vb false]
theorem jky {s p:Str} (h:jdb s=some p):jjy s= .tup [.str p,vb true]:=by simp[jjy,h]
theorem jih {s:Str} (h:jdb s=none):jjy s= .tup [.str [],vb false]:=by simp[jjy,h]
abbrev cmpV (a b:Str):V:=match cmp a b with
 | some n=> .tup [vi n,vi 0]
 | none=> .tup [vi 0,vi 3]
theorem cmpV_s {a b:Str} {n:Int} (h:cmp a b=some n):cmpV a b= .tup [vi n,vi 0]:=by simp[cmpV,h]
theorem ji1 {a b:Str} (h:cmp a b=none):cmpV a b= .tup [vi 0,vi 3]:=by simp[cmpV,h]
theorem jnl (l:List Nat) (k:Nat):(l.map Cnat).take k=(l.take k).map Cnat:=List.map_take.symm
theorem jqo (s:Str) (hl:s.length<=1048576):Den prog T 288 [.str s] (jjy s):=by
 refine ja0 call288 func288 30 ?_;refine rc (jk8 s hl) ?_;cases hp:ja6 s with
 | none=>
  rw[jeu hp];refine run ?_
  (refine fin (Eq.symm (jih ?_)); simp[jdb,hp])
 | some l=>
  obtain ⟨h0,h6,hn⟩:=jde hp;have hpos:1<=l.length:=List.length_pos_iff.2 h0;rw[jet hp];by_cases h2:l.length<2
  ·refine run ?_
   (refine fin (Eq.symm (jih ?_)); simp[jdb,hp,h2])
  ·refine runW (jnl l (l.length-1)) ?_
   have hne:l.take (l.length-1)≠[]:=fun e=>by
    have:=congrArg List.length e;simp at this; omega
   refine call (den_FormatRef (l.take (l.length-1)) hne zei (fun n h=>hn n (List.mem_of_mem_take h))) ?_;refine run ?_
   (refine fin (Eq.symm (jky ?_)); simp[jdb,hp,h2])
theorem jqf (a b:Str) (ha:a.length<=1048576) (hb:b.length<=1048576):Den prog T 287 [.str a,.str b] (cmpV a b):=by
 refine ja0 call287 func287 29 ?_;refine rc (jk8 a ha) ?_;cases hp:ja6 a with
 | none=>
  rw[jeu hp];refine rc (jk8 b hb) ?_;cases hq:ja6 b with
  | none=>rw[jeu hq]; refine run ?_; (refine fin (Eq.symm (ji1 ?_)); simp[cmp,hp])
  | some m=>rw[jet hq]; refine run ?_; (refine fin (Eq.symm (ji1 ?_)); simp[cmp,hp])
 | some l=>
  obtain ⟨-,h6,-⟩:=jde hp;rw[jet hp];refine rc (jk8 b hb) ?_;cases hq:ja6 b with
  | none=>rw[jeu hq]; refine run ?_; (refine fin (Eq.symm (ji1 ?_)); simp[cmp,hp,hq])
  | some m=>
   obtain ⟨-,h6',-⟩:=jde hq;rw[jet hq];refine rc (den_less l m om om) ?_;refine run ?_
   (refine fin (Eq.symm (cmpV_s ?_)); simp[cmp,hp,hq])
theorem jqb (c:UInt8) (r:Str):je9 (c::r)=(decide (32<=c.toNat) && decide (c.toNat<=126) && je9 r):=rfl
theorem u8_32 {c:UInt8} (h:c.toNat=32):c=32:=UInt8.toNat_inj.1 h
theorem last_get {s:Str} (h:1<=s.length):∃c,s[s.length-1]? = some c/\s.getLast? = some c:=by
 have hlt:s.length-1<s.length:=om
 exact ⟨s[s.length-1],gge hlt,by rw[List.getLast?_eq_getElem?]; exact gge hlt⟩
theorem jhm (s:Str) (hl:s.length<=1048576):Den prog T 113 [.str s] (vb (name s)):=by
 refine ja0 call113 func113 58 ?_;by_cases h1:s.length<1
 ·refine run ?_;refine fin (ja3 ?_);have:¬ 1<=s.length:=om
  simp[name,this]
 by_cases h2:64<s.length
 ·refine run ?_;refine fin (ja3 ?_);have:¬s.length<=64:=om
  simp[name,this]
 obtain ⟨c0,hc0,-,-⟩:=ja1 (l:=s) (k:=0) om;have hh:s.head? = some c0:=by rw[List.head?_eq_getElem?]; exact hc0
 obtain ⟨cl,hcl,hlast⟩:=last_get (s:=s) om;by_cases h3:c0.toNat=32
 ·refine runW hc0 ?_;refine fin (ja3 ?_);simp[name,hh,u8_32 h3]
 by_cases h4:cl.toNat=32
 ·refine runW (ai hc0 hcl) ?_;refine fin (ja3 ?_);simp[name,hlast,u8_32 h4]
 have hn0:c0≠32:=fun e=>h3 ze3;have hnl:cl≠32:=fun e=>h4 ze3
 have hname:name s=(je9 s && !dbl s):=by
  have g1:1<=s.length:=om
  have g2:s.length<=64:=om
  have e0:=beq_f hn0;have e1:=beq_f hnl;simp[name,g1,g2,hh,hlast,e0,e1]
 refine runW (ai hc0 hcl) ?_;refine ja7 ⟨[3,0],[],[],[]⟩ s.length (fun k=>name s=(je9 (s.drop k) && !dbl (s.drop (k-1)))) (by simpa using hname) ?_;rintro k ⟨hk,hall⟩;by_cases hlt:k<s.length
 ·obtain ⟨x,hx,hd,hm⟩:=ja1 hlt;rw[hd,jqb] at hall;by_cases g1:x.toNat<32
  ·refine runW hx ?_;refine fin (ja3 ?_);have:¬ 32<=x.toNat:=om
   rw[hall]; simp[this]
  by_cases g2:126<x.toNat
  ·refine runW hx ?_;refine fin (ja3 ?_);have:¬x.toNat<=126:=om
   rw[hall]; simp[this]
  have g1':32<=x.toNat:=om
  have g2':x.toNat<=126:=om
  simp only[g1',g2',decide_true,Bool.true_and] at hall;by_cases h0:k=0
  ·subst h0;refine runW hx ?_;exact round 1 ⟨om,by simpa using hall⟩ om
  ·obtain ⟨y,hy,hdy,-⟩:=ja1 (l:=s) (k:=k-1) om;have hk1:k-1+1=k:=om
   rw[hk1,hd] at hdy;rw[hdy] at hall;by_cases gx:x.toNat=32
   ·by_cases gy:y.toNat=32
    ·refine runW (ai hx hy) ?_;refine fin (ja3 ?_);rw[hall,u8_32 gx,u8_32 gy]; simp[dbl]
    ·have hny:(y == 32)=false:=beq_f fun e=>gy ze3;refine runW (ai hx hy) ?_;refine round (k+1) ⟨om,?_⟩ om;rw[hall]; simp only[dbl,hny,Bool.false_and,Bool.false_or,Nat.add_sub_cancel,hd]
   ·have hnx:(x == 32)=false:=beq_f fun e=>gx ze3;refine runW (ai hx hy) ?_;refine round (k+1) ⟨om,?_⟩ om;rw[hall]; simp only[dbl,hnx,Bool.and_false,Bool.false_or,Nat.add_sub_cancel,hd]
 ·refine run ?_;refine fin (ja3 ?_);obtain ⟨y,hy,hdy,-⟩:=ja1 (l:=s) (k:=k-1) om;have hk1:k-1+1=k:=om
  rw[hall,hdy,hk1,jc2 hlt];simp[je9,dbl]
end Go.Arc
