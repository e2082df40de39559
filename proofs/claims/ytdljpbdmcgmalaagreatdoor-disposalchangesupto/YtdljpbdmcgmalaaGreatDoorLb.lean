/- A part of this claim. -/
import Derived.Test.YtdljpbdmcgmalaaGreatDoorSp2
import Derived.Lib.Split
import Derived.Lib.ItoaNum
import Derived.Lib.Join
import Derived.Lib.AtoiAll
import Derived.Lib.SpaceUEq
import Derived.Lib.IndexMore
namespace Go.Arc
open Go.Ab
theorem occ_one (s:Str) (c:UInt8) (i:Nat):Lib.occAt s [c] i=true↔s[i]? = some c:=by
 unfold Lib.occAt;constructor
 ·intro h;cases hd:s.drop i with
  | nil=>rw[hd] at h; simp at h
  | cons x r=>
   rw[hd] at h;simp at h;subst h;have:=congrArg List.head? hd;exact zcw
 ·intro h;obtain ⟨hlt,rfl⟩:=gsi.1 h;rw[List.drop_eq_getElem_cons hlt]; simp only[List.isPrefixOf,beq_self_eq_true,Bool.and_true]
theorem split_none:∀ {s cur:Str},(∀c∈s,c≠46)->split cur s=[cur++s]
 | [],cur,_=>by simp[split]
 | c::r,cur,h=>by
  simp only[split];rw[if_neg (h c sm),split_none fun d hd=>h d (by simp[hd])];simp
theorem splitK_eq:∀(n:Nat) (s:Str),s.length<=n->Lib.splitK [46] 0 (Lib.count s [46]) s=split [] s:=by
 intro n
 induction n with
 | zero=>
  intro s h;have:s=[]:=List.eq_nil_of_length_eq_zero om;subst this;rfl
 | succ n ih=>
  intro s h;rcases Lib.index_spec s [46] with ⟨h1,h2⟩ | ⟨i,h1,h2,h3,h4⟩
  ·rw[Lib.count_miss h1];simp only[Lib.splitK];rw[split_none fun c hc e=> ?_]
   ·simp
   ·subst e;obtain ⟨j,hj,he⟩:=List.mem_iff_getElem.1 hc;have:=h2 j om;rw[(occ_one s 46 j).2 (by rw[<- he]; exact gge hj)] at this;cases this
  ·rw[Lib.count_hit sm h1,Nat.add_comm];have hi:=(occ_one s 46 i).1 h3;obtain ⟨hlt,hi'⟩:=gsi.1 hi;have hne:¬(Lib.index s [46] == -1)=true:=by rw[h1]; simp
   have ht:(Lib.index s [46]).toNat=i:=by rw[h1]; simp
   simp only[Lib.splitK];rw[if_neg hne,ht];simp only[List.length_cons,List.length_nil,Nat.zero_add,Nat.add_zero];rw[ih (s.drop (i+1)) zei]
   have hs:s=s.take i++46::s.drop (i+1):=by
    conv=>lhs; rw[<- List.take_append_drop i s]
    rw[List.drop_eq_getElem_cons hlt,hi']
   conv=>rhs; rw[hs]
   rw[jmp (s.take i) [] _ fun c hc e=> ?_]
   ·simp[split]
   ·subst e;obtain ⟨j,hj,he⟩:=List.mem_iff_getElem.1 hc;have hji:j<i:=by simp at hj; omega
    have:=h4 j hji;rw[(occ_one s 46 j).2 (by rw[<- he,List.getElem_take,gge])] at this;cases this
theorem splitB_eq (s:Str):(Lib.splitB ⟨#[46]⟩ 0 (Lib.countB ⟨s.toArray⟩ ⟨#[46]⟩) ⟨s.toArray⟩).map (·.data.toList)=split [] s:=by
 rw[Lib.splitB_data];exact splitK_eq s.length s (Nat.le_refl _)
theorem itoa_dec {n:Nat} (h:n<1000):Lib.itoa (n:Int)=dec n:=by
 have e:Lib.itoa (n:Int)=Lib.decDigits n:=by
  unfold Lib.itoa;rw[if_neg om]; simp
 rw[e];unfold dec;by_cases h1:n<10
 ·rw[if_pos h1,Lib.decDigits,dif_pos h1]
 ·rw[if_neg h1,Lib.decDigits,dif_neg h1];by_cases h2:n<100
  ·rw[if_pos h2,Lib.decDigits,dif_pos om]; rfl
  ·rw[if_neg h2,Lib.decDigits,dif_neg om,Lib.decDigits,dif_pos om]; rfl
theorem join_fmt:∀l:List Nat,Lib.join (l.map dec) [46]=fmt l
 | []=>rfl
 | [n]=>by simp[Lib.join,fmt,List.intercalate]
 | n::m::r=>by
  have ih:=join_fmt (m::r);simp only[Lib.join,List.intercalate,List.map_cons,fmt] at ih ⊢;rw[List.intersperse,List.flatten_cons,List.flatten_cons,ih]
  ·simp
  ·intro e; cases e
theorem jqc:∀(s:Str) (n m:Nat),vnum n s=some m->(n+1)*10 ^ s.length<=10000->Lib.parseUint10 n s= .ok m
 | [],n,m,h,_=>by simp[vnum] at h; subst h; rfl
 | c::r,n,m,h,hb=>by
  simp only[vnum] at h;split at h
  ·rename_i hc;have hp:1<=10 ^ r.length:=Nat.one_le_pow _ _ dc;rw[List.length_cons,Nat.pow_succ] at hb;have h1:n+1<=10000:=Nat.le_trans (Nat.le_mul_of_pos_right _ om) hb;have h2:(10*n+(c.toNat-48)+1)*10 ^ r.length<=((n+1)*10)*10 ^ r.length:=Nat.mul_le_mul_right _ om;have e:((n+1)*10)*10 ^ r.length=(n+1)*(10 ^ r.length*10):=by rw[Nat.mul_assoc,Nat.mul_comm 10]
   simp only[Lib.parseUint10];rw[if_pos hc,if_neg om,if_neg om,Nat.mul_comm n 10];exact jqc r _ m h om
  ·cases h
theorem atoi_part {s:Str} {m:Nat} (h:part s=some m):Lib.atoiAll s= .ok (m:Int):=by
 have hlt:=part_lt h;unfold part at h;split at h
 ·cases h
 ·rename_i hc
  have hp:=jqc s 0 m h (by
   have:10 ^ s.length<=10 ^ 3:=Nat.pow_le_pow_right dc om
   omega)
  cases s with
  | nil=>simp at hc
  | cons c r=>
   have hcd:48<=c.toNat/\c.toNat<=57:=by
    simp only[vnum] at h;split at h
    ·assumption
    ·cases h
   unfold Lib.atoiAll;simp only;rw[if_neg om];unfold Lib.parseMag;rw[if_neg sm,hp];simp only;rw[if_neg om,if_neg om,if_neg om]
theorem seq_head:∀q∈Lib.spaceSeqs,∃h t,q=h::t/\(h.toNat<=32\/127<=h.toNat):=by
 have:∀q∈Lib.spaceSeqs,(match q with | h::_=>decide (h.toNat<=32) || decide (127<=h.toNat) | []=>false)=true:=by decide
 intro q hq;have:=this q hq;cases q with
 | nil=>cases this
 | cons h t=>exact ⟨h,t,rfl,by simpa using this⟩
theorem seq_last:∀q∈Lib.spaceSeqs,∃h,q.getLast? = some h/\(h.toNat<=32\/127<=h.toNat):=by
 have:∀q∈Lib.spaceSeqs,(match q.getLast? with | some h=>decide (h.toNat<=32) || decide (127<=h.toNat) | none=>false)=true:=by decide
 intro q hq;have:=this q hq;split at this
 ·rename_i h hh; exact ⟨h,hh,by simpa using this⟩
 ·cases this
theorem seq_pos:∀q∈Lib.spaceSeqs,1<=q.length:=by decide
theorem headSpace_no {l:Str} (h:∀c,l.head? = some c->32<c.toNat/\c.toNat<127):Lib.headSpace l=0:=by
 unfold Lib.headSpace;rw[List.find?_eq_none.2]
 ·rfl
 ·intro q hq;obtain ⟨a,t,rfl,ha⟩:=seq_head q hq;cases l with
  | nil=>simp
  | cons c r=>
   have:=h c rfl;have hne:(a == c)=false:=beq_f fun e=>by subst e; omega
   simp[List.isPrefixOf,hne]
theorem headSpace_32 (r:Str):Lib.headSpace (32::r)≠0:=by
 unfold Lib.headSpace;cases hf:Lib.spaceSeqs.find? fun x=>x.isPrefixOf (32::r) with
 | none=>
  have:=List.find?_eq_none.1 hf [32] dc;simp[List.isPrefixOf] at this
 | some q=>
  have:=seq_pos q (List.mem_of_find?_eq_some hf)
  show q.length≠0
  omega
theorem tailSpace_no {l:Str} (h:∀c,l.getLast? = some c->32<c.toNat/\c.toNat<127):Lib.tailSpace l=0:=by
 unfold Lib.tailSpace;rw[List.find?_eq_none.2]
 ·rfl
 ·intro q hq hs;obtain ⟨a,ha,hb⟩:=seq_last q hq;have hs':=List.isSuffixOf_iff_suffix.1 hs;obtain ⟨t,rfl⟩:=hs';have hl:(t++q).getLast? = some a:=by rw[List.getLast?_append,ha]; rfl
  have:=h a hl;omega
theorem tailSpace_32 {l:Str} (h:l.getLast? = some 32):Lib.tailSpace l≠0:=by
 unfold Lib.tailSpace;cases hf:Lib.spaceSeqs.find? fun x=>x.isSuffixOf l with
 | none=>
  have hno:=List.find?_eq_none.1 hf [32] dc;exfalso;apply hno;rw[List.isSuffixOf_iff_suffix];obtain ⟨t,rfl⟩:=List.getLast?_eq_some_iff.1 h;exact ⟨t,rfl⟩
 | some q=>
  have:=seq_pos q (List.mem_of_find?_eq_some hf)
  show q.length≠0
  omega
theorem joe:∀(f:Nat) (l:Str),(Lib.stripL f l).length<=l.length
 | 0,l=>Nat.le_refl _
 | f+1,l=>by
  simp only[Lib.stripL];split
  ·exact Nat.le_refl _
  ·have:=joe f (l.drop (Lib.headSpace l));simp at this; omega
theorem jm7:∀(f:Nat) (l:Str),(Lib.stripR f l).length<=l.length
 | 0,l=>Nat.le_refl _
 | f+1,l=>by
  simp only[Lib.stripR];split
  ·exact Nat.le_refl _
  ·have:=jm7 f (l.take (l.length-Lib.tailSpace l));simp at this; omega
theorem print_mem {s:Str} (h:je9 s=true) {c:UInt8} (hc:c∈s):32<=c.toNat/\c.toNat<=126:=by
 have:=List.all_eq_true.1 h c hc;exact zcw
theorem trim_same {s:Str} (h:je9 s=true):Lib.trimSpaceD s=s↔s.head? ≠ some 32/\s.getLast? ≠ some 32:=by
 rw[<- Lib.trimSpaceU_eq];unfold Lib.trimSpaceU;constructor
 ·intro e;constructor
  ·intro hh;cases s with
   | nil=>cases hh
   | cons c r=>
    cases hh;have h1:=headSpace_32 r;have h2:=congrArg List.length e;have h3:=jm7 (32::r).length (Lib.stripL (32::r).length (32::r))
    have h4:(Lib.stripL (32::r).length (32::r)).length<(32::r).length:=by
     simp only[List.length_cons,Lib.stripL];rw[if_neg h1];have:=joe r.length ((32::r).drop (Lib.headSpace (32::r)));simp only[List.length_drop,List.length_cons] at this;omega
    omega
  ·intro hl;have hne:s≠[]:=fun e=>by rw[e] at hl; cases hl
   have hpos:=List.length_pos_iff.2 hne;have h2:=congrArg List.length e;by_cases hs:Lib.stripL s.length s=s
   ·rw[hs] at h2;have h1:=tailSpace_32 hl;obtain ⟨n,hn⟩:∃n,s.length=n+1:=⟨s.length-1,om⟩
    have h4:(Lib.stripR s.length s).length<s.length:=by
     rw[hn];simp only[Lib.stripR];rw[if_neg h1];have:=jm7 n (s.take (s.length-Lib.tailSpace s));simp only[List.length_take] at this;omega
    omega
   ·have h3:=jm7 s.length (Lib.stripL s.length s)
    have h4:(Lib.stripL s.length s).length<s.length:=by
     obtain ⟨n,hn⟩:∃n,s.length=n+1:=⟨s.length-1,om⟩;rw[hn] at hs ⊢;simp only[Lib.stripL] at hs ⊢;split
     ·rename_i hz; rw[if_pos hz] at hs; exact absurd rfl hs
     ·rename_i hz;have:=joe n (s.drop (Lib.headSpace s));simp at this; omega
    omega
 ·rintro ⟨h1,h2⟩
  have e1:Lib.headSpace s=0:=headSpace_no fun c hc=>by
   have:=print_mem h (List.mem_of_mem_head? hc);have:c.toNat≠32:=fun e=>h1 (by rw[hc,show c=32 from UInt8.toNat_inj.1 e]);omega
  have e2:Lib.tailSpace s=0:=tailSpace_no fun c hc=>by
   have:=print_mem h (List.mem_of_mem_getLast? hc);have:c.toNat≠32:=fun e=>h2 (by rw[hc,show c=32 from UInt8.toNat_inj.1 e]);omega
  have f1:∀n,Lib.stripL n s=s:=fun n=>by
   cases n with
   | zero=>rfl
   | succ n=>simp only[Lib.stripL]; rw[if_pos e1]
  have f2:∀n,Lib.stripR n s=s:=fun n=>by
   cases n with
   | zero=>rfl
   | succ n=>simp only[Lib.stripR]; rw[if_pos e2]
  rw[f1,f2]
theorem contains_dbl:∀s:Str,Lib.contains s [32,32]=dbl s:=by
 have key:∀s:Str,0<=Lib.index s [32,32]↔dbl s=true:=by
  intro s
  induction s with
  | nil=>simp[Lib.index,dbl]
  | cons a r ih=>
   simp only[Lib.index];cases r with
   | nil=>simp[List.isPrefixOf,Lib.index,dbl]
   | cons b q=>
    have hge:=Lib.index_ge (b::q) [32,32]
    have hp:List.isPrefixOf ([32,32]:List UInt8) (a::b::q)=(a == 32 && b == 32):=by
     simp only[List.isPrefixOf,Bool.and_true];rw[Bool.beq_comm (a:=a),Bool.beq_comm (a:=b)]
    rw[hp];simp only[dbl];cases hab:(a == 32 && b == 32)
    ·simp only[Bool.false_eq_true,if_false,Bool.false_or];rw[<- ih];by_cases hz:Lib.index (b::q) [32,32]= -1
     ·rw[hz]; simp
     ·rw[if_neg (by simpa using hz)];omega
    ·simp
 intro s;unfold Lib.contains;rw[Bool.eq_iff_iff,decide_eq_true_iff];exact key s
end Go.Arc
