/- A part of this claim. -/
import Derived.Test.YtdljpbdmcgmalaaGreatDoorBaC
namespace Go.Arc
open Go.Ab
abbrev Str:=List UInt8
abbrev vi (n:Int):V:= .val (.int .i64 n)
abbrev vb (b:Bool):V:= .val (.bool b)
abbrev Cst (s:Str):List V:=[.str s]
abbrev Cnat (n:Nat):List V:=[.val (.int .i64 n)]
abbrev Cint (n:Int):List V:=[.val (.int .i64 n)]
abbrev strs (l:List Str):V:= .slice 1 (l.map Cst)
abbrev nats (l:List Nat):V:= .slice 1 (l.map Cnat)
structure Cls where
 code:Str
 title:Str
structure Mov where
 frm:Str
 to:Str
structure Plan where
 ver:Int
 frm:Int
 til:Int
 cls:List Cls
 mov:List Mov
abbrev Cls.cs (c:Cls):List V:=[.str c.code,.str c.title]
abbrev Mov.cs (m:Mov):List V:=[.str m.frm,.str m.to]
abbrev clss (l:List Cls):V:= .slice 2 (l.map Cls.cs)
abbrev movs (l:List Mov):V:= .slice 2 (l.map Mov.cs)
abbrev Plan.cs (p:Plan):List V:=[vi p.ver,vi p.frm,vi p.til,clss p.cls,movs p.mov]
abbrev jad (l:List Plan):V:= .slice 5 (l.map Plan.cs)
def Cls.Fit (c:Cls):Prop:=c.code.length<=1048576/\c.title.length<=1048576
def Mov.Fit (c:Mov):Prop:=c.frm.length<=1048576/\c.to.length<=1048576
def Plan.Fit (p:Plan):Prop:=p.cls.length<=1048576/\p.mov.length<=1048576/\(∀c∈p.cls,c.Fit)/\∀m∈p.mov,m.Fit
theorem ja1 {α:Type} {l:List α} {k:Nat} (h:k<l.length):∃x,l[k]? = some x/\l.drop k=x::l.drop (k+1)/\x∈l:=
 ⟨l[k],gge h,List.drop_eq_getElem_cons h,List.getElem_mem h⟩
theorem jc2 {α:Type} {l:List α} {k:Nat} (h:¬k<l.length):l.drop k=[]:=List.drop_eq_nil_of_le om
theorem findIdx_none {α:Type} {p:α->Bool} {l:List α} (h:∀e∈l,p e=false):l.findIdx? p=none:=by
 rw[List.findIdx?_eq_none_iff]; exact h
theorem findIdx_at {α:Type} {p:α->Bool} {l:List α} {k:Nat} {x:α} (h:∀e∈l.take k,p e=false) (hx:l[k]? = some x) (hp:p x=true):l.findIdx? p=some k:=by
 rw[List.findIdx?_eq_some_iff_getElem];obtain ⟨hlt,rfl⟩:=gsi.1 hx;refine ⟨hlt,hp,fun j hj=> ?_⟩;have:=h l[j] (List.mem_iff_getElem?.2 ⟨j,by rw[List.getElem?_take,if_pos hj]; exact gge _⟩);simp[this]
theorem jae {α:Type} {l:List α} {k:Nat} {x:α} {q:α->Prop} (h:∀e∈l.take k,q e) (hx:l[k]? = some x) (hq:q x):∀e∈l.take (k+1),q e:=by
 obtain ⟨hlt,rfl⟩:=gsi.1 hx;rw[List.take_succ_eq_append_getElem hlt];intro e he;rcases List.mem_append.1 he with he | he
 ·exact h e he
 ·simp at he; subst he; exact hq
theorem jcq {α:Type} {l:List α} {k:Nat} {q:α->Prop} (h:∀e∈l.take k,q e) (hk:¬k<l.length):∀e∈l,q e:=by
 rw[List.take_of_length_le om] at h; exact h
def ix {α:Type} (p:α->Bool) (l:List α):Int:=match l.findIdx? p with | some i=>i | none=> -1
theorem jge {α:Type} {p:α->Bool} {l:List α} {k:Nat} {x:α} (h:∀e∈l.take k,p e=false) (hx:l[k]? = some x) (hp:p x=true):(k:Int)=ix p l:=by unfold ix; rw[findIdx_at h hx hp]
theorem jgv {α:Type} {p:α->Bool} {l:List α} {k:Nat} (h:∀e∈l.take k,p e=false) (hk:¬k<l.length):(-1:Int)=ix p l:=by unfold ix; rw[findIdx_none (jcq h hk)]
theorem je5 {α:Type} (p:α->Bool) (l:List α):decide (0<=ix p l)=l.any p:=by
 unfold ix;cases h:l.findIdx? p with
 | none=>
  rw[List.findIdx?_eq_none_iff] at h;rw[List.any_eq_false.2 (fun x hx=>by simp[h x hx])]; rfl
 | some i=>
  obtain ⟨hlt,hp,_⟩:=List.findIdx?_eq_some_iff_getElem.1 h;rw[List.any_eq_true.2 ⟨_,List.getElem_mem hlt,hp⟩];simp
theorem beq_f {α:Type} [BEq α] [LawfulBEq α] {x y:α} (h:x≠y):(x == y)=false:=by
 cases hb:x == y
 ·rfl
 ·exact absurd (eq_of_beq hb) h
theorem jiz {α:Type} {a b:List α} {k:Nat} {x y:α} (hd:a.drop k=x::a.drop (k+1)) (he:b.drop k=y::b.drop (k+1)):(a.drop k=b.drop k)↔(x=y/\a.drop (k+1)=b.drop (k+1)):=by rw[hd,he]; simp
def cmpL:List Nat->List Nat->Int
 | [],[]=>0
 | [],_::_=> -1
 | _::_,[]=>1
 | a::r,b::q=>if a<b then -1 else if b<a then 1 else cmpL r q
def vnum (n:Nat):Str->Option Nat
 | []=>some n
 | c::r=>if 48<=c.toNat/\c.toNat<=57 then vnum (10*n+(c.toNat-48)) r else none
def part (s:Str):Option Nat:=if s.length<1\/3<s.length\/s.head? = some 48 then none else vnum 0 s
def split (cur:Str):Str->List Str
 | []=>[cur]
 | c::r=>if c=46 then cur::split [] r else split (cur++[c]) r
def jb5:List Str->Option (List Nat)
 | []=>some []
 | p::r=>match part p,jb5 r with
  | some n,some l=>some (n::l)
  | _,_=>none
def ja6 (s:Str):Option (List Nat):=match jb5 (split [] s) with
 | some l=>if l.length<=6 then some l else none
 | none=>none
def dec (n:Nat):Str:=if n<10 then [UInt8.ofNat (48+n)] else if n<100 then [UInt8.ofNat (48+n / 10),UInt8.ofNat (48+n % 10)] else [UInt8.ofNat (48+n / 10 / 10),UInt8.ofNat (48+n / 10 % 10),UInt8.ofNat (48+n % 10)]
def fmt:List Nat->Str
 | []=>[]
 | [n]=>dec n
 | n::r=>dec n++46::fmt r
def jdb (s:Str):Option Str:=match ja6 s with
 | some l=>if l.length<2 then none else some (fmt (l.take (l.length-1)))
 | none=>none
def cmp (a b:Str):Option Int:=match ja6 a,ja6 b with
 | some x,some y=>some (cmpL x y)
 | _,_=>none
def jc5 (a b:Str):Bool:=match ja6 a,ja6 b with
 | some x,some y=>decide (y.length<=x.length) && decide (x.take y.length=y)
 | _,_=>false
def je9 (s:Str):Bool:=s.all fun c=>decide (32<=c.toNat) && decide (c.toNat<=126)
def dbl:Str->Bool
 | a::b::r=>(a == 32 && b == 32) || dbl (b::r)
 | _=>false
def name (s:Str):Bool:=decide (1<=s.length) && decide (s.length<=64) && je9 s && !(s.head? == some 32) && !(s.getLast? == some 32) && !dbl s
theorem vnum_lt:∀(s:Str) (n m:Nat),vnum n s=some m->m<(n+1)*10 ^ s.length
 | [],n,m,h=>by simp[vnum] at h; subst h; simp
 | c::r,n,m,h=>by
  simp only[vnum] at h;split at h
  ·have:=vnum_lt r _ _ h;have hp:1<=10 ^ r.length:=Nat.one_le_pow _ _ dc;have:(10*n+(c.toNat-48)+1)*10 ^ r.length<=((n+1)*10)*10 ^ r.length:=Nat.mul_le_mul_right _ om;rw[List.length_cons,Nat.pow_succ];have e:((n+1)*10)*10 ^ r.length=(n+1)*(10 ^ r.length*10):=by rw[Nat.mul_assoc,Nat.mul_comm 10]
   omega
  ·cases h
abbrev jed (s:Str):V:=match ja6 s with
 | some l=> .tup [nats l,vi 0]
 | none=> .tup [.val (.slice none 0 0),vi 3]
theorem part_lt {s:Str} {n:Nat} (h:part s=some n):n<1000:=by
 unfold part at h;split at h
 ·cases h
 ·rename_i hc;have:=vnum_lt s 0 n h;have h3:10 ^ s.length<=10 ^ 3:=Nat.pow_le_pow_right dc om;omega
theorem vnum_ge:∀(s:Str) (n m:Nat),vnum n s=some m->n<=m
 | [],n,m,h=>by simp[vnum] at h; omega
 | c::r,n,m,h=>by
  simp only[vnum] at h;split at h
  ·have:=vnum_ge r _ _ h; omega
  ·cases h
theorem part_ge {s:Str} {n:Nat} (h:part s=some n):1<=n:=by
 unfold part at h;split at h
 ·cases h
 ·rename_i hc;cases s with
  | nil=>simp at hc
  | cons c r=>
   simp only[vnum] at h;split at h
   ·rename_i hd;have:=vnum_ge r _ _ h;have hne:c.toNat≠48:=fun e=>hc (.inr (.inr (by simp[show c=48 from UInt8.toNat_inj.1 e])));omega
   ·cases h
theorem jpg:∀ {l:List Str} {ns:List Nat},jb5 l=some ns->ns.length=l.length/\∀n∈ns,1<=n/\n<1000
 | [],ns,h=>by simp[jb5] at h; subst h; simp
 | p::r,ns,h=>by
  simp only[jb5] at h;split at h
  ·rename_i n l h1 h2;cases h;obtain ⟨g1,g2⟩:=jpg h2;refine ⟨by simp[g1],fun m hm=> ?_⟩;rcases List.mem_cons.1 hm with rfl | hm
   ·exact ⟨part_ge h1,part_lt h1⟩
   ·exact g2 m hm
  ·cases h
theorem split_ne (cur:Str):∀s,split cur s≠[]
 | []=>by simp[split]
 | c::r=>by
  simp only[split];split
  ·simp
  ·exact split_ne _ r
theorem jde {s:Str} {l:List Nat} (h:ja6 s=some l):l≠[]/\l.length<=6/\∀n∈l,1<=n/\n<1000:=by
 unfold ja6 at h;split at h
 ·rename_i l' h1;split at h
  ·rename_i hl;cases h;obtain ⟨g1,g2⟩:=jpg h1;exact ⟨fun e=>split_ne [] s (List.eq_nil_of_length_eq_zero (by rw[<- g1,e]; rfl)),hl,g2⟩
  ·cases h
 ·cases h
def jaq (f u:Int):Bool:=decide (0<=f/\f<u/\u<=1048576)
def inS (f u d:Int):Bool:=decide (f<=d/\d<u)
abbrev span (f u:Int):V:= .agg [vi f,vi u]
def has (p:Plan) (s:Str):Bool:=p.cls.any fun c=>c.code == s
end Go.Arc
