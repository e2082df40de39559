/- A part of this claim. -/
import Derived.Test.YtcmpmdgdchmojaaGreatDoorBaZ
import Derived.WalkKit
import Derived.BigCall
set_option maxRecDepth 100000
namespace Go.Arc
open Go.Ab Go.RowKit Go.Proofs
variable {T : Lay}
theorem den_digits (L:LibT T) (n:Int) (k:Nat) (h0: -9223372036854775808<=n) (h1:n<=9223372036854775807) (hb:(Lib.itoa n).length+k<=100):
  Den Tryz.prog T 186 [vi n,vi (((Lib.itoa n).length+k:Nat):Int)] (.str (List.replicate k 48++Lib.itoa n)):=by
 have hi:=lib_itoa L n h0 h1;obtain ⟨s,hs⟩:∃s,Lib.itoa n=s:=⟨_,rfl⟩;rw[hs] at hi hb ⊢;have e:((s.length+k:Nat):Int)-(s.length:Int)=(k:Int):=by omega
 refine den_of_body follows (fun args w=>Tryz.call186 args w) Tryz.func186 rfl 18 rfl ?_;refine run ?_;refine call hi ?_;refine runW e ?_
 refine loop ⟨[5,11,12],[],[],[]⟩ (fun j:Nat=>j<=k) (fun j=>k-j)
  (fun j=>⟨18,[(5,.v (.str (List.replicate j 48++s))),(11,.v (vi k)),(12,.v (vi j))],[],[]⟩) 0 (Nat.zero_le _) ?_
 intro j hj;by_cases hlt:j<k
 ·have hle:1+(List.replicate j (48:UInt8)++s).length<=9223372036854775807:=by rw[List.length_append,List.length_replicate]; omega
  refine runW (eq_true hle) ?_;exact round (j+1) hlt (by omega)
 ·have hjk:j=k:=by omega
  subst hjk;refine run ?_;exact fin rfl
theorem den_dig2 (L:LibT T) (n:Nat) (h:n<100):Den Tryz.prog T 186 [vi n,vi 2] (.str (digN n 2)):=by
 have he:Lib.itoa (n:Int)=Lib.decDigits n:=decS_nn (by omega);by_cases h1:n<10
 ·have hd:=digN_one h1;have hl:(Lib.decDigits n).length=1:=by have:=congrArg List.length hd; rw[digN_len,List.length_cons] at this; omega
  have:=den_digits L (n:Int) 1 (by omega) (by omega) (by rw[he,hl]; decide);rw[he,hl] at this;rw[<- hd];exact this
 ·have hd:=digN_two (n:=n) (by omega) h;have hl:(Lib.decDigits n).length=2:=by rw[hd,digN_len]
  have:=den_digits L (n:Int) 0 (by omega) (by omega) (by rw[he,hl]; decide);rw[he,hl] at this;rw[<- hd];exact this
theorem den_dig4 (L:LibT T) (n:Nat) (h1:1000<=n) (h:n<10000):Den Tryz.prog T 186 [vi n,vi 4] (.str (digN n 4)):=by
 have he:Lib.itoa (n:Int)=Lib.decDigits n:=decS_nn (by omega);have hd:=digN_four h1 h;have hl:(Lib.decDigits n).length=4:=by rw[hd,digN_len]
 have:=den_digits L (n:Int) 0 (by omega) (by omega) (by rw[he,hl]; decide);rw[he,hl] at this;rw[<- hd];exact this
theorem dayG_iff (d:Int):dayG d=true↔0<=d/\d<=1048575:=by
 unfold dayG;rw[Bool.and_eq_true,decide_eq_true_eq,decide_eq_true_eq]
theorem den_isG (d:Int):Den Tryz.prog T 213 [vi d] (vb (dayG d)):=by
 refine den_of_body follows (fun args w=>Tryz.call213 args w) Tryz.func213 rfl 9 rfl ?_;unfold dayG;by_cases h1:0<=d
 ·refine runW (eq_true h1) ?_;exact fin rfl
 ·refine runW (eq_false h1) ?_;exact fin rfl
theorem den_DateNo (d:Int) (h:dayG d=false):Den Tryz.prog T 159 [vi d] (.tup [vi 0,vi 0,vi 0,vi 2]):=by
 have hi:=den_isG (T:=T) d;rw[h] at hi;refine den_of_body follows (fun args w=>Tryz.call159 args w) Tryz.func159 rfl 44 rfl ?_;refine run ?_;refine call hi ?_;refine run ?_;exact fin4 rfl
abbrev dayV (d:Int):V:= .tup [.str (dayR d).1,vi (if dayG d=true then 0 else 2)]
theorem dayR_yes {d:Int} (h:dayG d=true):dayR d=(datT d.toNat,true):=if_pos ((dayG_iff d).1 h)
theorem dayR_no {d:Int} (h:dayG d=false):dayR d=([],false):=if_neg fun e=>by rw[(dayG_iff d).2 e] at h; cases h
theorem den_DayFormat (L:LibT T) (d:Int):Den Tryz.prog T 113 [vi d] (dayV d):=by
 unfold dayV;cases h:dayG d
 ·rw[dayR_no h,if_neg (by decide)];refine den_of_body follows (fun args w=>Tryz.call113 args w) Tryz.func113 rfl 28 rfl ?_;refine run ?_;refine call (den_DateNo d h) ?_;refine run ?_;exact fin rfl
 ·rw[dayR_yes h,if_pos rfl];have hd:=(dayG_iff d).1 h;obtain ⟨n,rfl⟩:∃n:Nat,d=n:=⟨d.toNat,by omega⟩;obtain ⟨hn,m1,m2,d1,d2⟩:=date_ok n (by omega);rw[Int.toNat_natCast];unfold datT;have hD:=den_Date (T:=T) n (by omega);unfold dateV at hD;obtain ⟨⟨y,m,k⟩,he⟩:∃x,date n=x:=⟨_,rfl⟩;rw[he] at hn m1 m2 d1 d2 hD ⊢;simp only at hn m1 m2 d1 d2 hD ⊢
  have hk:k+1<100:=by
   have:lenM (leapN y) m<=31:=by
    have hm:m=1\/m=2\/m=3\/m=4\/m=5\/m=6\/m=7\/m=8\/m=9\/m=10\/m=11\/m=12:=by omega
    cases leapN y <;> rcases hm with rfl | rfl | rfl | rfl | rfl | rfl | rfl | rfl | rfl | rfl | rfl | rfl <;> decide
   omega
  have l1:=digN_len (1600+y) 4;have l2:=digN_len m 2;have l3:=digN_len (k+1) 2;refine den_of_body follows (fun args w=>Tryz.call113 args w) Tryz.func113 rfl 28 rfl ?_;refine run ?_;refine call hD ?_;refine run ?_;refine call (den_dig4 L (1600+y) (by omega) (by omega)) ?_;refine run ?_;refine call (den_dig2 L m (by omega)) ?_;refine run ?_;refine call (den_dig2 L (k+1) hk) ?_;refine run ?_;refine fin ?_;rw[Nat.add_comm y 1600]
abbrev inqC (r:Rgs) (f:Fil) (d:Int) (v:Vdt):List V:=[ofcs r.ofs,plans r.pls,fils r.fls,ruls r.rls,hlds r.hls,clks r.cks,sels r.sls,prps r.pps,apvs r.aps,crts r.crs,deps r.dps,vi r.chg,
 vi f.id,vi f.ofc,vi f.opn,vi f.cld,.str f.cls,.str f.title,vi f.pts,ntss f.nts,vi d,vi v.kind,vi v.fil,vi v.day,vi v.rule,vi v.due,ints v.hls]
def stpZ:Stp:=⟨0,0,0,0,[]⟩
def donV (o:Option Stp):V:= .tup [.agg (o.getD stpZ).cs,vb o.isSome]
theorem find_nope {α:Type} {p:α->Bool} {l:List α} (h:∀x∈l,p x=false):l.find? p=none:=List.find?_eq_none.2 fun x hx=>by rw[h x hx]; decide
theorem find_here {α:Type} {p:α->Bool} {l:List α} {k:Nat} {x:α} (h:∀y∈l.take k,p y=false) (hx:l[k]? = some x) (hp:p x=true):l.find? p=some x:=by
 obtain ⟨hlt,he⟩:=List.getElem?_eq_some_iff.1 hx;have hd:l.take k++x::l.drop (k+1)=l:=by rw[<- he,<- List.drop_eq_getElem_cons hlt,List.take_append_drop]
 rw[<- hd,List.find?_append,find_nope h,List.find?_cons_of_pos hp];rfl
theorem named_1 (d:Int) (f:Fil) (day n:Int):namedB d f day [n]=(decide (day<=d) && decide (n=f.id)):=by
 unfold namedB;rw[List.any_cons,List.any_nil,Bool.or_false]
theorem den_done (r:Rgs) (f:Fil) (d:Int) (v:Vdt) (h:r.Fit):Den Tryz.prog T 167 [.agg (inqC r f d v)] (donV (donS r f d)):=by
 have hc0:=h.crs.1;have hd0:=h.dps;refine den_of_body follows (fun args w=>Tryz.call167 args w) Tryz.func167 rfl 59 rfl ?_;unfold donV;refine run ?_
 refine loop ⟨[1,2,10,11,12],[1,2],[],[]⟩ (fun k:Nat=>k<=r.crs.length/\∀c∈r.crs.take k,namedB d f c.day c.fls=false) (fun k=>r.crs.length-k)
  (fun k=>⟨59,[(1,.p 1 0),(2,.p 2 0),(10,.v (crts r.crs)),(11,.v (vi r.crs.length)),(12,.v (vi k))],[(1,.var (inqC r f d v)),(2,.var stpZ.cs)],[]⟩) 0 ⟨Nat.zero_le _,by simp⟩ ?_
 rintro k ⟨hk,hall⟩;by_cases hlt:k<r.crs.length
 ·obtain ⟨x,hx,-,hm⟩:=drop_at hlt;have hxf:=(h.crs.2 x hm).1;by_cases h1:x.day<=d
  ·refine runW (And.intro hx (eq_true h1)) ?_;refine call (den_hasInt x.fls f.id hxf) ?_;rw[any_comm];cases h2:x.fls.any fun n=>decide (n=f.id)
   ·refine runW hx ?_;exact round (k+1) ⟨hlt,take_snoc hall hx (by unfold namedB; rw[h2,Bool.and_false])⟩ (by omega)
   ·have he:donS r f d=some ⟨9,1,x.day,0,[]⟩:=by
     unfold donS;rw[find_here hall hx (by unfold namedB; rw[h2,decide_eq_true h1]; rfl)]
    rw[he];refine runW hx ?_;exact finC2 (.refl _)
  ·refine runW (And.intro hx (eq_false h1)) ?_;exact round (k+1) ⟨hlt,take_snoc hall hx (by unfold namedB; rw[decide_eq_false h1,Bool.false_and])⟩ (by omega)
 ·have hn:=find_nope (take_all hall hlt);refine run ?_
  refine loop ⟨[1,2,35,36,37],[1,2],[],[]⟩ (fun k:Nat=>k<=r.dps.length/\∀c∈r.dps.take k,namedB d f c.day [c.fil]=false) (fun k=>r.dps.length-k)
   (fun k=>⟨59,[(1,.p 1 0),(2,.p 2 0),(35,.v (deps r.dps)),(36,.v (vi r.dps.length)),(37,.v (vi k))],[(1,.var (inqC r f d v)),(2,.var stpZ.cs)],[]⟩) 0 ⟨Nat.zero_le _,by simp⟩ ?_
  rintro k ⟨hk,hall⟩;by_cases hlt:k<r.dps.length
  ·obtain ⟨x,hx,-,hm⟩:=drop_at hlt;by_cases h1:x.day<=d
   ·by_cases h2:x.fil=f.id
    ·have he:donS r f d=some ⟨9,2,x.day,0,[]⟩:=by
      unfold donS;rw[hn];simp only;rw[find_here hall hx (by rw[named_1,decide_eq_true h1,decide_eq_true h2]; rfl)]
     rw[he];refine runW (And.intro hx (And.intro (eq_true h1) (eq_true h2))) ?_;exact finC2 (.refl _)
    ·refine runW (And.intro hx (And.intro (eq_true h1) (eq_false h2))) ?_;exact round (k+1) ⟨hlt,take_snoc hall hx (by rw[named_1,decide_eq_false h2,Bool.and_false])⟩ (by omega)
   ·refine runW (And.intro hx (eq_false h1)) ?_;exact round (k+1) ⟨hlt,take_snoc hall hx (by rw[named_1,decide_eq_false h1,Bool.false_and])⟩ (by omega)
  ·have hn2:=find_nope (take_all hall hlt)
   have he:donS r f d=none:=by
    unfold donS;rw[hn];simp only;rw[hn2]
   rw[he];refine run ?_;exact finC2 (.refl _)
theorem den_selectedI (r:Rgs) (f:Fil) (d:Int) (v:Vdt) (h:r.Fit):Den Tryz.prog T 170 [.agg (inqC r f d v)] (donV (selS r f d)):=by
 have hc0:=h.sls.1;refine den_of_body follows (fun args w=>Tryz.call170 args w) Tryz.func170 rfl 34 rfl ?_;unfold donV;refine run ?_
 refine loop ⟨[1,2,8,9,10],[1,2],[],[]⟩ (fun k:Nat=>k<=r.sls.length/\∀c∈r.sls.take k,namedB d f c.day c.fls=false) (fun k=>r.sls.length-k)
  (fun k=>⟨34,[(1,.p 1 0),(2,.p 2 0),(8,.v (sels r.sls)),(9,.v (vi r.sls.length)),(10,.v (vi k))],[(1,.var (inqC r f d v)),(2,.var stpZ.cs)],[]⟩) 0 ⟨Nat.zero_le _,by simp⟩ ?_
 rintro k ⟨hk,hall⟩;by_cases hlt:k<r.sls.length
 ·obtain ⟨x,hx,-,hm⟩:=drop_at hlt;have hxf:=h.sls.2 x hm;by_cases h1:x.day<=d
  ·refine runW (And.intro hx (eq_true h1)) ?_;refine call (den_hasInt x.fls f.id hxf) ?_;rw[any_comm];cases h2:x.fls.any fun n=>decide (n=f.id)
   ·refine runW hx ?_;exact round (k+1) ⟨hlt,take_snoc hall hx (by unfold namedB; rw[h2,Bool.and_false])⟩ (by omega)
   ·have he:selS r f d=some ⟨5,x.smp,x.day,0,[]⟩:=by
     unfold selS;rw[find_here hall hx (by unfold namedB; rw[h2,decide_eq_true h1]; rfl)]
    rw[he];refine runW hx ?_;exact finC2 (.refl _)
  ·refine runW (And.intro hx (eq_false h1)) ?_;exact round (k+1) ⟨hlt,take_snoc hall hx (by unfold namedB; rw[decide_eq_false h1,Bool.false_and])⟩ (by omega)
 ·have he:selS r f d=none:=by
   unfold selS;rw[find_nope (take_all hall hlt)]
  rw[he];refine run ?_;exact finC2 (.refl _)
end Go.Arc
set_option maxRecDepth 100000
namespace Go.Arc
open Go.Ab Go.RowKit Go.Proofs
variable {T : Lay}
theorem den_rulesI (L:LibC T) (r:Rgs) (f:Fil) (d:Int) (v:Vdt) (hr:r.Fit) (hf:f.Fit) (hg:goodR r.rls=true) (hp:goodL r.pls=true):
  Den Tryz.prog T 168 [.agg (inqC r f d v)] (.tup [ruls (rulesF r f d),.agg (clsS r f d).cs]):=by
 have hl0:=hr.rls.1;have hcl:=classR_len hr.pls hf d;refine den_of_body follows (fun args w=>Tryz.call168 args w) Tryz.func168 rfl 59 rfl ?_;refine run ?_;refine call (den_Class L r.pls f d hr.pls hf) ?_;unfold clsS;by_cases hz:(classR r.pls f d).2=0
 ·rw[if_pos hz];refine runW hz ?_;refine callO (den_Apply L r.rls (classR r.pls f d).1 d hr.rls hcl) ?_;rw[rulesF_ids hz];have hlen:=rulesF_len r f d;have hmem:∀q∈rulesF r f d,q∈r.rls:=fun q h=>rulesF_mem h;obtain ⟨rs,hrs⟩:∃rs,rulesF r f d=rs:=⟨_,rfl⟩;rw[hrs] at hlen hmem ⊢;refine run ?_
  refine loop ⟨[1,3,4,6,29,30,31],[1,3],[6],[(6,71,8)]⟩ (fun k:Nat=>k<=rs.length) (fun k=>rs.length-k)
   (fun k=>⟨59,[(1,.p 1 0),(3,.p 3 0),(4,.v (.str (classR r.pls f d).1)),(6,.v (ruls (rs.take k))),(29,.v (.slice 1 (List.map Cint (List.map (fun x=>x.id) rs)))),(30,.v (vi rs.length)),(31,.v (vi k))],
    [(1,.var (inqC r f d v)),(3,.var stpZ.cs)],[(71,[6])]⟩) 0 (Nat.zero_le _) ?_
  intro k hk;by_cases hlt:k<rs.length
  ·obtain ⟨x,hx,-,hm⟩:=drop_at hlt;obtain ⟨i,hi,hxi,hfi⟩:=findR_mem hg (hmem x hm);have hts:(rs.take k).map Rul.cs++[x.cs]=(rs.take (k+1)).map Rul.cs:=by rw[take_snocR hx]; simp
   refine runD hx ?_;refine aw_graph [⟨[ff,ff,ff,ff,ff,ff,ff,ff,ff,ff,ff,ff,ff,ff],14,.one 0 0⟩,⟨[tt,ff,ff,ff,ff,ff,ff,ff,ff,ff,ff,ff,ff,ff],13,.one 1 0⟩,⟨[tt,tt,ff,ff,ff,ff,ff,ff,ff,ff,ff,ff,ff,ff],12,.one 2 0⟩,⟨[tt,tt,tt,ff,ff,ff,ff,ff,ff,ff,ff,ff,ff,ff],11,.one 4 0⟩,⟨[tt,tt,tt,ff,tt,ff,ff,ff,ff,ff,ff,ff,ff,ff],10,.one 5 0⟩,⟨[tt,tt,tt,ff,tt,tt,ff,ff,ff,ff,ff,ff,ff,ff],9,.one 7 0⟩,⟨[tt,tt,tt,ff,tt,tt,ff,tt,ff,ff,ff,ff,ff,ff],8,.alt [(3,1),(6,0)]⟩,⟨[tt,tt,tt,ff,tt,tt,tt,tt,ff,ff,ff,ff,ff,ff],7,.alt [(3,2),(8,1)]⟩,⟨[tt,tt,tt,tt,tt,tt,ff,tt,ff,ff,ff,ff,ff,ff],7,.alt [(6,1)]⟩,⟨[tt,tt,tt,ff,tt,tt,tt,tt,tt,ff,ff,ff,ff,ff],6,.alt [(3,1)]⟩,⟨[tt,tt,tt,tt,tt,tt,tt,tt,ff,ff,ff,ff,ff,ff],6,.alt [(8,0)]⟩,⟨[tt,tt,tt,tt,tt,tt,tt,tt,tt,ff,ff,ff,ff,ff],5,.alt [(9,0)]⟩,⟨[tt,tt,tt,tt,tt,tt,tt,tt,tt,tt,ff,ff,ff,ff],4,.alt [(10,0)]⟩,⟨[tt,tt,tt,tt,tt,tt,tt,tt,tt,tt,tt,ff,ff,ff],3,.alt [(11,0)]⟩,⟨[tt,tt,tt,tt,tt,tt,tt,tt,tt,tt,tt,tt,ff,ff],2,.alt [(12,0)]⟩,⟨[tt,tt,tt,tt,tt,tt,tt,tt,tt,tt,tt,tt,tt,ff],1,.alt [(13,0)]⟩,⟨[tt,tt,tt,tt,tt,tt,tt,tt,tt,tt,tt,tt,tt,tt],0,.fin⟩] ?_
   refine graph_to (fun _:Unit=>True) ⟨[1,3,4,6,29,30,31],[1,3],[6],[]⟩ (fun _=>⟨59,[(1,.p 1 0),(3,.p 3 0),(4,.v (.str (classR r.pls f d).1)),(6,.v (ruls (rs.take (k+1)))),(29,.v (.slice 1 (List.map Cint (List.map (fun x=>x.id) rs)))),(30,.v (vi rs.length)),(31,.v (vi k))],
    [(1,.var (inqC r f d v)),(3,.var stpZ.cs)],[(71,[6])]⟩) (fun st st' hk h=>aw_keep _ hk h) (fun _ _=> ?_) (fun K' hK=> ?_)
   ·refine run ?_;exact round (k+1) hlt (by omega)
   ·have hlk:rs.length<=1048576:=by omega
    refine runGraph hx ?_
    repeat' (with_reducible refine And.intro ?_ ?_)
    all_goals
     refine call (den_FindR r.rls x.id hl0) ?_;rw[hfi];refine runGraph (And.intro hxi hts) ?_
     repeat' (with_reducible refine And.intro ?_ ?_)
     all_goals exact leafK hK () trivial
  ·have hkl:k=rs.length:=by omega
   subst hkl;rw[List.take_length];refine run ?_;refine call (den_AtL L r.pls d hr.pls) ?_;rw[atL_good hp];have hpl:=hr.pls.1;have hb: -1<=idx r.pls d/\idx r.pls d<=1048576:=by rcases idx_cases r.pls d with ⟨h,-⟩ | ⟨i,h,h2,-⟩ <;> omega
   refine run ?_;exact fin rfl
 ·rw[if_neg hz,rulesF_bad hz];refine runW (eq_false hz) ?_;exact finC2 (wk_tups (.cons (.nil 8) (.cons (.refl _) .nil)))
theorem den_times (r:Rgs) (f:Fil) (d:Int) (v:Vdt) (l:List Rul):Den Tryz.prog T 169 [.agg (inqC r f d v),ruls l] (.func 220 [.row [ruls l],.row (inqC r f d v)]):=by
 refine den_of_body follows (fun args w=>Tryz.call169 args w) Tryz.func169 rfl 6 rfl ?_;refine run ?_;exact fin rfl
theorem den_bodyI (r:Rgs) (f:Fil) (d:Int) (v:Vdt):Den Tryz.prog T 96 [.agg (inqC r f d v)] (.func 166 [.row (inqC r f d v)]):=by
 refine den_of_body follows (fun args w=>Tryz.call96 args w) Tryz.func96 rfl 4 rfl ?_;refine run ?_;exact fin rfl
theorem den_steps (r:Rgs) (f:Fil) (d:Int) (v:Vdt):Den Tryz.prog T 48 [.agg (inqC r f d v)] (.func 95 [.row (inqC r f d v)]):=by
 refine den_of_body follows (fun args w=>Tryz.call48 args w) Tryz.func48 rfl 4 rfl ?_;refine run ?_;exact fin rfl
theorem den_inside (n m:Int):Den Tryz.prog T 108 [vi n,vi m] (vb (insB n m)):=by
 refine den_of_body follows (fun args w=>Tryz.call108 args w) Tryz.func108 rfl 12 rfl ?_;unfold insB;by_cases h1:0<=n
 ·refine runW (eq_true h1) ?_;refine fin (vb_eq ?_);simp[h1]
 ·refine runW (eq_false h1) ?_;refine fin (vb_eq ?_);simp[h1]
theorem den_right1 (n:Int):Den Tryz.prog T 111 [vi n] (vb (!insB n 1048575)):=by
 refine den_of_body follows (fun args w=>Tryz.call111 args w) Tryz.func111 rfl 6 rfl ?_;refine run ?_;refine call (den_inside n 1048575) ?_;refine run ?_;exact fin rfl
theorem den_dates (s:Stp):Den Tryz.prog T 110 [.agg s.cs] (ints (datesS s)):=by
 obtain ⟨k,n,a,b,t⟩:=s;refine den_of_body follows (fun args w=>Tryz.call110 args w) Tryz.func110 rfl 37 rfl ?_;unfold datesS;simp only;by_cases h8:k=8
 ·subst h8;by_cases hb:b=1048576
  ·rw[if_pos rfl,if_pos hb];refine runW (eq_true hb) ?_;exact fin rfl
  ·rw[if_pos rfl,if_neg hb];refine runW (eq_false hb) ?_;exact fin rfl
 rw[if_neg h8];by_cases h9:k=9
 ·subst h9;rw[if_pos (.inl rfl)];refine run ?_;exact fin rfl
 by_cases h5:k=5
 ·subst h5;rw[if_pos (.inr rfl)];refine run ?_;exact fin rfl
 rw[if_neg (fun h=>h.elim h9 h5)];by_cases h3:k=3
 ·subst h3;rw[if_pos rfl];refine run ?_;exact fin rfl
 rw[if_neg h3];by_cases h4:k=4
 ·subst h4;rw[if_pos (.inl rfl)];refine run ?_;exact fin rfl
 by_cases h7:k=7
 ·subst h7;rw[if_pos (.inr rfl)];refine run ?_;exact fin rfl
 rw[if_neg (fun h=>h.elim h4 h7)];refine runW (And.intro (eq_false h8) (And.intro (eq_false h9) (And.intro (eq_false h5) (And.intro (eq_false h3) (And.intro (eq_false h4) (eq_false h7)))))) ?_;exact finW (.nil 1)
theorem beq_no {t:Str} (h:¬t=[]):(t == [])=false:=by cases t with
 | nil=>exact absurd rfl h
 | cons a r=>rfl
def rA (s:Stp):Prop:=s.kind<1\/9<s.kind\/insB s.num 1073741824=false
def rB (s:Stp):Prop:=s.kind=9/\(s.num<1\/2<s.num)
def rC (s:Stp):Prop:=s.kind=7/\(9<s.num\/insB s.fst 1073741824=false\/(s.fst=0/\s.lst≠0))
def rD (s:Stp):Prop:=(clsdB s=true/\(parse s.txt).isSome=false)\/(clsdB s=false/\s.txt≠[])
theorem right_A {s:Stp} (h:rA s):rightS s=false:=if_pos h
theorem right_B {s:Stp} (h:rB s):rightS s=false:=by
 unfold rightS;split
 ·rfl
 ·exact if_pos h
theorem right_C {s:Stp} (h:rC s):rightS s=false:=by
 unfold rightS;split
 ·rfl
 split
 ·rfl
 exact if_pos h
theorem right_D {s:Stp} (h:rD s):rightS s=false:=by
 unfold rightS;split
 ·rfl
 split
 ·rfl
 split
 ·rfl
 exact if_pos h
theorem right_T {s:Stp} (hA:¬rA s) (hB:¬rB s) (hC:¬rC s) (hD:¬rD s):rightS s= !(datesS s).any fun d=> !insB d 1048575:=by
 exact (if_neg hA).trans ((if_neg hB).trans ((if_neg hC).trans (if_neg hD)))
theorem clsd_n {k n a b:Int} {t:Str} (h:¬(k=1/\n≠0)):clsdB ⟨k,n,a,b,t⟩=false:=decide_eq_false h
theorem clsd_y {k n a b:Int} {t:Str} (h:k=1/\n≠0):clsdB ⟨k,n,a,b,t⟩=true:=decide_eq_true h
theorem rD_n {k n a b:Int} {t:Str} (h:¬(k=1/\n≠0)):rD ⟨k,n,a,b,t⟩↔t≠[]:=by
 unfold rD;rw[clsd_n h];simp
theorem rD_y {k n a b:Int} {t:Str} (h:k=1/\n≠0):rD ⟨k,n,a,b,t⟩↔(parse t).isSome=false:=by
 unfold rD;rw[clsd_y h];simp
theorem rA_n {k n a b:Int} {t:Str} (h1:¬k<1) (h2:¬ 9<k) (h3:insB n 1073741824=true):¬rA ⟨k,n,a,b,t⟩:=by
 rintro (h | h | h)
 ·exact h1 h
 ·exact h2 h
 ·rw[h3] at h; cases h
theorem rB_k {k n a b:Int} {t:Str} (h:k≠9):¬rB ⟨k,n,a,b,t⟩:=fun e=>h e.1
theorem rC_k {k n a b:Int} {t:Str} (h:k≠7):¬rC ⟨k,n,a,b,t⟩:=fun e=>h e.1
theorem datesS_len (s:Stp):(datesS s).length<=2:=by
 unfold datesS;split
 ·split <;> simp
 split
 ·simp
 split
 ·simp
 split <;> simp
set_option maxHeartbeats 4000000 in
theorem den_rightE (L:LibC T) (s:Stp) (ht:s.txt.length<=1048576):Den Tryz.prog T 55 [.agg s.cs] (vb (rightS s)):=by
 have hP:=den_Parse L s.txt ht
 obtain ⟨lv,e,hpv,he⟩:∃(lv:V) (e:Int),parseV s.txt= .tup [lv,vi e]/\((parse s.txt).isSome=true↔e=0):=by
  unfold parseV;cases parse s.txt with
  | none=>exact ⟨_,_,rfl,by simp⟩
  | some l=>exact ⟨_,_,rfl,by simp⟩
 rw[hpv] at hP;have hD:=den_dates (T:=T) s;have hA:=den_anyInt (T:=T) (datesS s) 111 [] (fun d=> !insB d 1048575) (Nat.le_trans (datesS_len s) (by decide)) fun n _=>den_right1 n;obtain ⟨dl,hdl⟩:∃dl,datesS s=dl:=⟨_,rfl⟩;have hT:=right_T (s:=s);rw[hdl] at hD hA hT;obtain ⟨k,n,a,b,t⟩:=s;simp only at hP he;refine den_of_body follows (fun args w=>Tryz.call55 args w) Tryz.func55 rfl 93 rfl ?_;refine run ?_;refine call hP ?_;have hI:=den_inside (T:=T) n 1073741824;have hI2:=den_inside (T:=T) a 1073741824;by_cases hk1:k=1
 ·subst hk1;by_cases hn0:n=0
  ·subst hn0;refine run ?_;refine call hI ?_;rw[show insB 0 1073741824=true from rfl];by_cases ht0:t=[]
   ·subst ht0;rw[hT (rA_n (by decide) (by decide) rfl) (rB_k (by decide)) (rC_k (by decide)) (fun h=>(rD_n (fun h=>h.2 rfl)).1 h rfl)];refine run ?_;refine call hD ?_;refine run ?_;refine call hA ?_;refine run ?_;exact fin rfl
   rw[right_D ((rD_n (fun h=>h.2 rfl)).2 ht0)];refine runW (beq_no ht0) ?_;exact fin rfl
  refine runW (eq_false hn0) ?_;refine call hI ?_;cases hi:insB n 1073741824
  ·rw[right_A (.inr (.inr hi))];refine run ?_;exact fin rfl
  by_cases he0:e=0
  ·have hp:=he.2 he0;subst he0;rw[hT (rA_n (by decide) (by decide) hi) (rB_k (by decide)) (rC_k (by decide)) (fun h=>by rw[rD_y ⟨rfl,hn0⟩,hp] at h; cases h)];refine run ?_;refine call hD ?_;refine run ?_;refine call hA ?_;refine run ?_;exact fin rfl
  have hp:(parse t).isSome=false:=by
   cases hq:(parse t).isSome
   ·rfl
   ·exact absurd (he.1 hq) he0
  rw[right_D ((rD_y ⟨rfl,hn0⟩).2 hp)];refine runW (eq_false he0) ?_;exact fin rfl
 have hkn:¬(k=1/\n≠0):=fun h=>hk1 h.1;by_cases h1:k<1
 ·skip
  rw[right_A (.inl h1)];refine runW (And.intro (eq_false hk1) (eq_true h1)) ?_;exact fin rfl
 by_cases h9:9<k
 ·skip
  rw[right_A (.inr (.inl h9))];refine runW (And.intro (eq_false hk1) (And.intro (eq_false h1) (eq_true h9))) ?_;exact fin rfl
 refine runW (And.intro (eq_false hk1) (And.intro (eq_false h1) (eq_false h9))) ?_;refine call hI ?_;cases hi:insB n 1073741824
 ·rw[right_A (.inr (.inr hi))];refine run ?_;exact fin rfl
 have nA:¬rA ⟨k,n,a,b,t⟩:=rA_n h1 h9 hi;by_cases hk9:k=9
 ·subst hk9;by_cases g1:n<1
  ·skip
   rw[right_B ⟨rfl,.inl g1⟩];refine runW (eq_true g1) ?_;exact fin rfl
  by_cases g2:2<n
  ·skip
   rw[right_B ⟨rfl,.inr g2⟩];refine runW (And.intro (eq_false g1) (eq_true g2)) ?_;exact fin rfl
  by_cases ht0:t=[]
  ·subst ht0;rw[hT nA (fun h=>h.2.elim g1 g2) (rC_k (by decide)) (fun h=>(rD_n hkn).1 h rfl)];refine runW (And.intro (eq_false g1) (eq_false g2)) ?_;refine call hD ?_;refine run ?_;refine call hA ?_;refine run ?_;exact fin rfl
  rw[right_D ((rD_n hkn).2 ht0)];refine runW (And.intro (eq_false g1) (And.intro (eq_false g2) (beq_no ht0))) ?_;exact fin rfl
 by_cases hk7:k=7
 ·subst hk7;by_cases g1:9<n
  ·skip
   rw[right_C ⟨rfl,.inl g1⟩];refine runW (eq_true g1) ?_;exact fin rfl
  refine runW (eq_false g1) ?_;refine call hI2 ?_;cases hj:insB a 1073741824
  ·rw[right_C ⟨rfl,.inr (.inl hj)⟩];refine run ?_;exact fin rfl
  by_cases ha:a=0
  ·subst ha;by_cases hb:b=0
   ·subst hb;by_cases ht0:t=[]
    ·subst ht0;rw[hT nA (rB_k (by decide)) (fun h=>h.2.elim g1 fun h=>h.elim (fun h=>by rw[hj] at h; cases h) fun h=>h.2 rfl) (fun h=>(rD_n hkn).1 h rfl)];refine run ?_;refine call hD ?_;refine run ?_;refine call hA ?_;refine run ?_;exact fin rfl
    rw[right_D ((rD_n hkn).2 ht0)];refine runW (beq_no ht0) ?_;exact fin rfl
   rw[right_C ⟨rfl,.inr (.inr ⟨rfl,hb⟩)⟩];refine runW (eq_false hb) ?_;exact fin rfl
  by_cases ht0:t=[]
  ·subst ht0;rw[hT nA (rB_k (by decide)) (fun h=>h.2.elim g1 fun h=>h.elim (fun h=>by rw[hj] at h; cases h) fun h=>ha h.1) (fun h=>(rD_n hkn).1 h rfl)];refine runW (eq_false ha) ?_;refine call hD ?_;refine run ?_;refine call hA ?_;refine run ?_;exact fin rfl
  rw[right_D ((rD_n hkn).2 ht0)];refine runW (And.intro (eq_false ha) (beq_no ht0)) ?_;exact fin rfl
 by_cases ht0:t=[]
 ·subst ht0;rw[hT nA (rB_k hk9) (rC_k hk7) (fun h=>(rD_n hkn).1 h rfl)];refine runW (And.intro (eq_false hk9) (eq_false hk7)) ?_;refine call hD ?_;refine run ?_;refine call hA ?_;refine run ?_;exact fin rfl
 rw[right_D ((rD_n hkn).2 ht0)];refine runW (And.intro (eq_false hk9) (And.intro (eq_false hk7) (beq_no ht0))) ?_;exact fin rfl
theorem den_Format1 (L:LibC T) (s:Stp) (ht:s.txt.length<=1048576):Den Tryz.prog T 54 [.agg s.cs] (vb (!rightS s)):=by
 refine den_of_body follows (fun args w=>Tryz.call54 args w) Tryz.func54 rfl 6 rfl ?_;refine run ?_;refine call (den_rightE L s ht) ?_;refine run ?_;exact fin rfl
end Go.Arc
set_option maxRecDepth 100000
namespace Go.Arc
open Go.Ab Go.RowKit Go.Proofs
variable {T : Lay}
theorem inter_nil:∀l:List Str,([]:Str).intercalate l=l.flatten
 | []=>rfl
 | [x]=>by simp[List.intercalate]
 | x::y::r=>by
  have:=inter_nil (y::r);simp only[List.intercalate,List.intersperse_cons_cons,List.flatten_cons,List.nil_append] at this ⊢;rw[this]
theorem flat_lenS {m:Nat} : ∀ {l:List Str},(∀p∈l,p.length<=m)->l.flatten.length<=l.length*m
 | [],_=>by simp
 | p::l,h=>by
  have h1:=h p List.mem_cons_self;have h2:=flat_lenS (l:=l) fun q hq=>h q (List.mem_cons_of_mem _ hq);simp only[List.flatten_cons,List.length_append,List.length_cons,Nat.add_mul];omega
theorem den_joinE (L:LibT T) (l:List Str) (hl:l.length<=8) (h:∀p∈l,p.length<=1048576):Den Tryz.prog T 115 [strs l] (.str (l.flatten++[10])):=by
 have hb:=flat_lenS h;have hJ:=lib_join L l [] (by omega) (by unfold Lib.join; rw[inter_nil]; omega);unfold Lib.join at hJ;rw[inter_nil] at hJ;refine den_of_body follows (fun args w=>Tryz.call115 args w) Tryz.func115 rfl 6 rfl ?_;refine run ?_;refine call hJ ?_;refine run ?_;exact fin rfl
abbrev wordsV:List V:=[.str [110,111,110,101],.str [103,111,110,101],.str [109,111,118,101,100],.str [111,112,101,110],.str [102,111,114,32,101,118,101,114],.str [119,97,105,116],.str [107,101,101,112],.str [104,111,108,100],.str [100,101,115,116,114,111,121],.str [116,114,97,110,115,102,101,114]]
theorem den_words:Den Tryz.prog T 116 [] (.agg wordsV):=by
 refine den_of_body follows (fun args w=>Tryz.call116 args w) Tryz.func116 rfl 2 rfl ?_;refine run ?_;exact finC1 (.refl _)
structure RightI (s:Stp):Prop where
 num:0<=s.num/\s.num<=1073741824
 k:1<=s.kind/\s.kind<=9
 k9:s.kind=9->s.num=1\/s.num=2
 k7:s.kind=7->s.num<=9/\(0<=s.fst/\s.fst<=1073741824)/\(s.fst=0->s.lst=0)
theorem ins_yes {n m:Int} (h:¬insB n m=false):0<=n/\n<=m:=by
 rw[ins_num] at h;omega
theorem right_inv {s:Stp} (h:rightS s=true):RightI s:=by
 have nA:¬rA s:=fun e=>by rw[right_A e] at h; cases h
 have nB:¬rB s:=fun e=>by rw[right_B e] at h; cases h
 have nC:¬rC s:=fun e=>by rw[right_C e] at h; cases h
 refine ⟨ins_yes fun e=>nA (.inr (.inr e)),⟨?_,?_⟩,fun hk=> ?_,fun hk=>⟨?_,ins_yes fun e=>nC ⟨hk,.inr (.inl e)⟩,fun h0=> ?_⟩⟩
 ·exact Int.not_lt.1 fun e=>nA (.inl e)
 ·exact Int.not_lt.1 fun e=>nA (.inr (.inl e))
 ·have h1:¬s.num<1:=fun e=>nB ⟨hk,.inl e⟩;have h2:¬ 2<s.num:=fun e=>nB ⟨hk,.inr e⟩;omega
 ·exact Int.not_lt.1 fun e=>nC ⟨hk,.inl e⟩
 ·exact Decidable.not_not.1 fun e=>nC ⟨hk,.inr (.inr ⟨h0,e⟩)⟩
theorem decS_len {n:Int} (h:0<=n/\n<=1073741824):(decS n).length<=10:=by
 rw[decS_nn (by omega)];exact decN_len (by omega)
theorem word_len (k:Int):(wordS k).length<=8:=by
 unfold wordS;cases h:wordsL[k.toNat]? with
 | none=>exact Nat.zero_le _
 | some w=>
  have hm:=List.mem_of_getElem? h;have:∀w∈wordsL,w.length<=8:=by decide
  exact this w hm
theorem fa {α:Type} {q:α->Prop} {a:α} {l:List α} (h:q a) (t:∀x∈l,q x):∀x∈a::l,q x:=List.forall_mem_cons.2 ⟨h,t⟩
theorem fa0 {α:Type} {q:α->Prop} : ∀x∈([]:List α),q x:=fun x h=>nomatch h
theorem parts_fit {s:Stp} (h:RightI s) (ht:s.txt.length<=1048576):(partsS s).length<=6/\∀p∈partsS s,p.length<=1048576:=by
 have a1:=dayR_len s.fst;have a2:=dayR_len s.lst;have a3:=decS_len h.num;have a4:=word_len s.num;have a5:s.fst≠0->s.kind=7->(decS s.fst).length<=10:=fun _ hk=>decS_len (h.k7 hk).2.1;have hk:=h.k;unfold partsS;by_cases c0:s.kind=8/\s.lst=1048576
 ·rw[if_pos c0];exact ⟨by simp,fa (by decide) (fa (by omega) (fa (by decide) (fa0)))⟩
 rw[if_neg c0];by_cases c1:s.kind=8
 ·rw[if_pos c1];exact ⟨by simp,fa (by decide) (fa (by omega) (fa (by decide) (fa (by omega) (fa0))))⟩
 rw[if_neg c1];by_cases c2:s.kind=9/\s.num=1
 ·rw[if_pos c2];exact ⟨by simp,fa (by decide) (fa (by omega) (fa0))⟩
 rw[if_neg c2];by_cases c3:s.kind=9
 ·rw[if_pos c3];exact ⟨by simp,fa (by decide) (fa (by omega) (fa0))⟩
 rw[if_neg c3];by_cases c4:s.kind=1/\s.num=0
 ·rw[if_pos c4];exact ⟨by simp,fa (by decide) (fa0)⟩
 rw[if_neg c4];by_cases c5:s.kind=1
 ·rw[if_pos c5];exact ⟨by simp,fa (by decide) (fa (ht) (fa (by decide) (fa (by omega) (fa0))))⟩
 rw[if_neg c5];by_cases c6:s.kind=2
 ·rw[if_pos c6];exact ⟨by simp,fa (by decide) (fa (by omega) (fa (by decide) (fa0)))⟩
 rw[if_neg c6];by_cases c7:s.kind=3
 ·rw[if_pos c7];exact ⟨by simp,fa (by decide) (fa (by omega) (fa (by decide) (fa (by omega) (fa (by decide) (fa (by omega) (fa0))))))⟩
 rw[if_neg c7];by_cases c8:s.kind=4
 ·rw[if_pos c8];exact ⟨by simp,fa (by decide) (fa (by omega) (fa (by decide) (fa (by omega) (fa0))))⟩
 rw[if_neg c8];by_cases c9:s.kind=6
 ·rw[if_pos c9];exact ⟨by simp,fa (by decide) (fa (by omega) (fa0))⟩
 rw[if_neg c9];by_cases c10:s.kind=5
 ·rw[if_pos c10];exact ⟨by simp,fa (by decide) (fa (by omega) (fa (by decide) (fa (by omega) (fa0))))⟩
 rw[if_neg c10];have hk7:s.kind=7:=by omega
 have a6:∀p∈[xVerdict,wordS s.num],p.length<=1048576:=by
  exact fa (by decide) (fa (by omega) fa0)
 have a7:s.fst≠0->∀p∈[xByRule,decS s.fst],p.length<=1048576:=fun h0=>by
  exact fa (by decide) (fa (by have:=a5 h0 hk7; omega) fa0)
 have a8:∀p∈[xDue,(dayR s.lst).1],p.length<=1048576:=by
  exact fa (by decide) (fa (by omega) fa0)
 have a9:∀p∈(if s.fst≠0 then [xByRule,decS s.fst] else []),p.length<=1048576:=by
  by_cases h0:s.fst≠0
  ·rw[if_pos h0]; exact a7 h0
  ·rw[if_neg h0]; exact fa0
 have a10:∀p∈(if s.lst≠0 then [xDue,(dayR s.lst).1] else []),p.length<=1048576:=by
  by_cases h0:s.lst≠0
  ·rw[if_pos h0]; exact a8
  ·rw[if_neg h0]; exact fa0
 refine ⟨?_,fun p hp=> ?_⟩
 ·rw[List.length_append,List.length_append]
  have b1:(if s.fst≠0 then [xByRule,decS s.fst] else []).length<=2:=by
   by_cases h0:s.fst≠0
   ·rw[if_pos h0]; exact Nat.le_refl _
   ·rw[if_neg h0]; exact Nat.zero_le _
  have b2:(if s.lst≠0 then [xDue,(dayR s.lst).1] else []).length<=2:=by
   by_cases h0:s.lst≠0
   ·rw[if_pos h0]; exact Nat.le_refl _
   ·rw[if_neg h0]; exact Nat.zero_le _
  have b3:[xVerdict,wordS s.num].length=2:=rfl;omega
 ·rcases List.mem_append.1 hp with hp | hp
  ·rcases List.mem_append.1 hp with hp | hp
   ·exact a6 p hp
   ·exact a9 p hp
  ·exact a10 p hp
set_option maxHeartbeats 4000000 in
theorem den_line (L:LibT T) (s:Stp) (ht:s.txt.length<=1048576) (hr:rightS s=true):Den Tryz.prog T 57 [.agg s.cs] (.str ((lineR s).1++[10])):=by
 have hi:=right_inv hr;have hf:=parts_fit hi ht;have hJ:=den_joinE L (partsS s) (by omega) hf.2;rw[<- parts_eq s hr];obtain ⟨k,n,a,b,t⟩:=s;obtain ⟨⟨hn0,hn1⟩,⟨hk1,hk9⟩,h9,h7⟩:=hi;simp only at hn0 hn1 hk1 hk9 h9 h7 ht;have hN:Den Tryz.prog T 114 [vi n] (.str (decS n)):=lib_itoa L n (by omega) (by omega);have hA:=den_DayFormat L a;have hB:=den_DayFormat L b;unfold dayV at hA hB;unfold partsS at hJ ⊢;simp only at hJ ⊢;obtain ⟨x,hx⟩:∃x,(dayR a).1=x:=⟨_,rfl⟩;obtain ⟨y,hy⟩:∃y,(dayR b).1=y:=⟨_,rfl⟩;obtain ⟨z,hz⟩:∃z,decS n=z:=⟨_,rfl⟩;rw[hx] at hA;rw[hy] at hB;rw[hz] at hN;rw[hx,hy,hz] at hJ ⊢;refine den_of_body follows (fun args w=>Tryz.call57 args w) Tryz.func57 rfl 145 rfl ?_;refine run ?_;refine call hA ?_;refine run ?_;refine call hB ?_;refine run ?_;refine call hN ?_;have hk:k=1\/k=2\/k=3\/k=4\/k=5\/k=6\/k=7\/k=8\/k=9:=by omega
 rcases hk with rfl | rfl | rfl | rfl | rfl | rfl | rfl | rfl | rfl
 ·by_cases h0:n=0
  ·subst h0;simp only[Int.reduceEq,false_and,if_false,and_self,if_true] at hJ ⊢;refine run ?_;refine call hJ ?_;refine run ?_;exact fin rfl
  ·simp only[Int.reduceEq,false_and,if_false,true_and,if_true,h0] at hJ ⊢;refine runW (eq_false h0) ?_;refine call hJ ?_;refine run ?_;exact fin rfl
 ·simp only[Int.reduceEq,false_and,if_false,if_true] at hJ ⊢;refine run ?_;refine call hJ ?_;refine run ?_;exact fin rfl
 ·simp only[Int.reduceEq,false_and,if_false,if_true] at hJ ⊢;refine run ?_;refine call hJ ?_;refine run ?_;exact fin rfl
 ·simp only[Int.reduceEq,false_and,if_false,if_true] at hJ ⊢;refine run ?_;refine call hJ ?_;refine run ?_;exact fin rfl
 ·simp only[Int.reduceEq,false_and,if_false,if_true] at hJ ⊢;refine run ?_;refine call hJ ?_;refine run ?_;exact fin rfl
 ·simp only[Int.reduceEq,false_and,if_false,if_true] at hJ ⊢;refine run ?_;refine call hJ ?_;refine run ?_;exact fin rfl
 ·simp only[Int.reduceEq,false_and,if_false] at hJ ⊢;obtain ⟨g1,⟨g2,g3⟩,g4⟩:=h7 rfl;have hF:Den Tryz.prog T 114 [vi a] (.str (decS a)):=lib_itoa L a (by omega) (by omega);obtain ⟨u,hu⟩:∃u,decS a=u:=⟨_,rfl⟩;rw[hu] at hF hJ ⊢
  have hw:ldV Tryz.prog 9 (List.drop n.toNat wordsV)=some (.str (wordS n)):=by
   have hc:n=0\/n=1\/n=2\/n=3\/n=4\/n=5\/n=6\/n=7\/n=8\/n=9:=by omega
   rcases hc with rfl | rfl | rfl | rfl | rfl | rfl | rfl | rfl | rfl | rfl <;> rfl
  have hb4:=word_len n;have hua:=decS_len (n:=a) ⟨g2,g3⟩;rw[hu] at hua;have hy10:=dayR_len b;rw[hy] at hy10;refine runD True.intro ?_;refine aw_graph [⟨[ff,ff,ff,ff,ff,ff],6,.one 1 0⟩,⟨[ff,tt,ff,ff,ff,ff],5,.alt [(0,1),(2,0)]⟩,⟨[ff,tt,tt,ff,ff,ff],4,.alt [(0,1)]⟩,⟨[tt,tt,ff,ff,ff,ff],4,.alt [(2,0)]⟩,⟨[tt,tt,tt,ff,ff,ff],3,.alt [(3,0)]⟩,⟨[tt,tt,tt,tt,ff,ff],2,.alt [(4,0)]⟩,⟨[tt,tt,tt,tt,tt,ff],1,.alt [(5,0)]⟩,⟨[tt,tt,tt,tt,tt,tt],0,.fin⟩] ?_;refine graph_to (fun _:Unit=>True) ⟨[1,5,8],[1],[8],[]⟩ (fun _=>⟨145,[(1,.p 1 0),(5,.v (.str y)),(8,.v (.slice 1 [[.str xVerdict],[.str (wordS n)]]))],[(1,.var (Stp.cs ⟨7,n,a,b,t⟩))],[(9,[8])]⟩) (fun st st' hk h=>aw_keep _ hk h) (fun _ _=> ?_) (fun K' hK=> ?_)
  ·by_cases ha0:a=0
   ·have hb0:=g4 ha0;subst hb0;subst ha0;refine run ?_;refine call hJ ?_;refine run ?_;exact fin rfl
   ·rw[if_pos ha0] at hJ ⊢;refine runW (eq_false ha0) ?_;refine call hF ?_;by_cases hb0:b=0
    ·subst hb0;refine run ?_;refine call hJ ?_;refine run ?_;exact fin rfl
    ·rw[if_pos hb0] at hJ ⊢;refine runW (eq_false hb0) ?_;refine call hJ ?_;refine run ?_;exact fin rfl
  ·refine runGraph True.intro ?_
   repeat' (with_reducible refine And.intro ?_ ?_)
   all_goals
    refine call den_words ?_;refine runGraph (And.intro hw (nn_t n hn0)) ?_
    repeat' (with_reducible refine And.intro ?_ ?_)
    all_goals exact leafK hK () trivial
 ·by_cases hb:b=1048576
  ·simp only[hb,and_self,if_true] at hJ ⊢;refine runW (eq_true hb) ?_;refine call hJ ?_;refine run ?_;exact fin rfl
  ·simp only[hb,and_false,if_false,if_true] at hJ ⊢;refine runW (eq_false hb) ?_;refine call hJ ?_;refine run ?_;exact fin rfl
 ·rcases h9 rfl with rfl | rfl
  ·simp only[Int.reduceEq,false_and,if_false,and_self,if_true] at hJ ⊢;refine run ?_;refine call hJ ?_;refine run ?_;exact fin rfl
  ·simp only[Int.reduceEq,false_and,and_false,if_false,if_true] at hJ ⊢;refine run ?_;refine call hJ ?_;refine run ?_;exact fin rfl
end Go.Arc
set_option maxRecDepth 100000
namespace Go.Arc
open Go.Ab Go.RowKit Go.Proofs
variable {T : Lay}
theorem bld_below {t e:TypeId} {B b:Nat} {bs:List Value} {w w':World} (h:Lib.IsBuilder t e B b bs w) (hb:Below w.heap.size w w'):Lib.IsBuilder t e B b bs w':=by
 have key:∀p,Lib.BuilderAt t e B b p bs w->Lib.BuilderAt t e B b p bs w':=fun p h=>by
  obtain ⟨hB,v,hbk,hown,hne⟩:=h;exact ⟨hB,v,(hb.block b (heap_lt hbk)).trans hbk,hown.kept (row:=none) ⟨hb.os,hb.tape,hb.output,hb.size,fun k hk _=>hb.block k hk⟩ (by cases v.ownBlock <;> simp),hne⟩
 exact h.elim (fun h=> .inl (key _ h)) (fun h=> .inr (key _ h))
theorem flat_lenM {m:Nat} : ∀ {l:List Str},(∀p∈l,p.length<=m)->l.flatten.length<=l.length*m
 | [],_=>by simp
 | p::l,h=>by
  have h1:=h p List.mem_cons_self;have h2:=flat_lenM (l:=l) fun q hq=>h q (List.mem_cons_of_mem _ hq);simp only[List.flatten_cons,List.length_append,List.length_cons,Nat.add_mul];omega
set_option maxHeartbeats 4000000 in
theorem fmt_walk (l:List Stp) (g:Stp->Str) (hl:l.length<=1024) (hgl:∀s∈l,(g s).length<=16777216) (hAny:Den Tryz.prog T 53 [stps l,.func 54 []] (vb false))
  (hLine:∀s∈l,Den Tryz.prog T 57 [.agg s.cs] (.str (g s))) (w:World) (F:Frz) (x:Value) (hF:Sees F w) (hlay:Laid T F w) (hx:Rep F (stps l) x):
  Calls Tryz.prog 16 #[x] w fun e w'=>e= .returned (.tuple #[.string ⟨((l.map g).flatten).toArray⟩,.int .i64 0])/\Below w.heap.size w w':=by
 obtain ⟨ao,cap,rfl,hcell⟩:∃ao cap,x= .slice ao l.length cap/\∀(k:Nat) s,l[k]? = some s->∃b o,ao=some ⟨b,o,none⟩/\w.cell? ⟨b,o+k*5,none⟩=some (.int .i64 s.kind)/\w.cell? ⟨b,o+k*5+1,none⟩=some (.int .i64 s.num)/\w.cell? ⟨b,o+k*5+2,none⟩=some (.int .i64 s.fst)/\w.cell? ⟨b,o+k*5+3,none⟩=some (.int .i64 s.lst)/\w.cell? ⟨b,o+k*5+4,none⟩=some (.string ⟨s.txt.toArray⟩):=by
  rcases rep_slice_inv hx with ⟨rfl,he⟩ | ⟨a,cap,gg,rfl,hc,hm,hsz,ho,hg,hr⟩
  ·have:l=[]:=by simpa using he
   subst this;exact ⟨_,_,rfl,fun k s h=>by simp at h⟩
  ·rw[List.length_map];refine ⟨_,_,rfl,fun k s hs=> ?_⟩;have hes:(l.map Stp.cs)[k]? = some s.cs:=by rw[List.getElem?_map,hs]; rfl
   obtain ⟨b,o,sp⟩:=a
   have hsp:sp=none:=by
    obtain ⟨s0,h0⟩:∃s0,l[0]? = some s0:=⟨l[0]'(by have:=(List.getElem?_eq_some_iff.1 hs).1; omega),List.getElem?_eq_getElem _⟩;have h00:=hF _ _ (hg 0 0 s0.cs _ (by rw[List.getElem?_map,h0]; rfl) rfl);simp only[Addr.add,Nat.zero_mul,Nat.add_zero,if_true] at h00;unfold World.cell? at h00;split at h00
    ·cases sp with
     | none=>rfl
     | some _=>simp at h00
    ·cases h00
   subst hsp;have e0:=hF _ _ (hg k 0 _ _ hes rfl);have e1:=hF _ _ (hg k 1 _ _ hes rfl);have e2:=hF _ _ (hg k 2 _ _ hes rfl);have e3:=hF _ _ (hg k 3 _ _ hes rfl);have e4:=hF _ _ (hg k 4 _ _ hes rfl);rw[add_plain] at e0 e1 e2 e3 e4;rw[rep_val_inv (hr k 0 _ _ hes rfl)] at e0;rw[rep_val_inv (hr k 1 _ _ hes rfl)] at e1;rw[rep_val_inv (hr k 2 _ _ hes rfl)] at e2;rw[rep_val_inv (hr k 3 _ _ hes rfl)] at e3;rw[rep_str_inv (hr k 4 _ _ hes rfl)] at e4;exact ⟨b,o,rfl,e0,e1,e2,e3,e4⟩
 have hc:Calls Tryz.prog 53 #[.slice ao l.length cap,.func (.func 54) #[] #[]] w fun e w'=>e= .returned (.bool false)/\Below w.heap.size w w':=by
  refine (hAny.2 w F [.slice ao l.length cap,.func (.func 54) #[] #[]] hF hlay ⟨rfl,fun j c y h1 h2=>by
   match j with
   | 0=>simp at h1 h2; subst h1 h2; exact hx
   | 1=>simp at h1 h2; subst h1 h2; exact .func rfl (by simp)
   | j+2=>simp at h1⟩).mono ?_
  rintro e w' ⟨y,F',rfl,hext,hrep⟩;exact ⟨by rw[rep_val_inv hrep],hext.bel⟩
 have hgt:¬(1024:Int)<l.length:=by omega
 go_enter Tryz.func16,(show Tryz.f16.ntmps=23 from rfl)
 go_wp2_with (go_at_call 53; refine hc.mono ?_)
 rintro e w1 rfl hb1
 go_wp2
 go_loopw [14] (fun v wr=>∃k:Nat,k<=l.length/\v= .int .i64 k/\Lib.IsBuilder 112 5 w1.heap.size w1.heap.size (Lib.byteCells ((l.take k).map g).flatten) wr/\Below w1.heap.size w1 wr) (fun v _=>l.length-(RowKit.intOf v).toNat)
 case atStart=>exact ⟨0,Nat.zero_le _,rfl,Lib.fresh_isBuilder 112 5 w1,(Below.refl _ w1).alloc (Nat.le_refl _) _⟩
 case round=>
  obtain ⟨k,hk,rfl,hI,hb⟩:=hrel;by_cases hlt:k<l.length
  ·have hs:l[k]? = some l[k]:=List.getElem?_eq_getElem hlt;have hm:l[k]∈l:=List.getElem_mem hlt;generalize l[k]=s at hs hm;obtain ⟨b,o,rfl,f0,f1,f2,f3,f4⟩:=hcell k s hs
   have look5:∀p v,w.cell? p=some v->wr.cell? p=some v:=fun p v h0=>by
    have h1:=cell_lt h0;exact (hb.cell (by have:=hb1.size; omega)).trans ((hb1.cell h1).trans h0)
   have hadd:=add_plain b o (k*5);have c0:=look5 _ _ f0;have c1:=look5 _ _ f1;have c2:=look5 _ _ f2;have c3:=look5 _ _ f3;have c4:=look5 _ _ f4;have hk1:(k:Int)<l.length:=by omega
   have hl57:∀(w':World),Below w1.heap.size w1 w'->Calls Tryz.prog 57 #[.agg #[.int .i64 s.kind,.int .i64 s.num,.int .i64 s.fst,.int .i64 s.lst,.string ⟨s.txt.toArray⟩]] w' fun e w''=>e= .returned (.string ⟨(g s).toArray⟩)/\Below w'.heap.size w' w'':=by
    intro w' hw'
    have hF':Sees F w':=⟨fun p v e=>by
     have h0:=hF p v e;have h1:=cell_lt h0;exact (hw'.cell (by have:=hb1.size; omega)).trans ((hb1.cell h1).trans h0),fun bq xs e=>by
     obtain ⟨ck,h0⟩:=hF.m bq xs e;have h1:=heap_lt h0
     exact ⟨ck,(hw'.block bq (by have:=hb1.size; omega)).trans ((hb1.block bq h1).trans h0)⟩⟩
    have hlay':Laid T F w':=⟨hlay.1,fun gq xs e=>by
     obtain ⟨⟨ty,fz,h0⟩,h2⟩:=hlay.2 gq xs e;have h1:=heap_lt h0
     exact ⟨⟨ty,fz,(hw'.block gq (by have:=hb1.size; omega)).trans ((hb1.block gq h1).trans h0)⟩,h2⟩⟩
    refine ((hLine s hm).2 w' F [.agg #[.int .i64 s.kind,.int .i64 s.num,.int .i64 s.fst,.int .i64 s.lst,.string ⟨s.txt.toArray⟩]] hF' hlay' ⟨rfl,fun j c y h1 h2=> ?_⟩).mono ?_
    ·cases j with
     | zero=>
      simp at h1 h2;subst h1 h2;refine .agg rfl (fun c hc=>by simp at hc; rcases hc with rfl | rfl | rfl | rfl | rfl <;> rfl) fun j c y h1 h2=> ?_;have hj:j<5:=by have:=(List.getElem?_eq_some_iff.1 h1).1; simpa using this
      have:j=0\/j=1\/j=2\/j=3\/j=4:=by omega
      rcases this with rfl | rfl | rfl | rfl | rfl <;> (simp at h1 h2; subst h1 h2; first | exact .val _ | exact .str _)
     | succ j=>simp at h1
    ·rintro e w'' ⟨y,F',rfl,hext,hrep⟩;exact ⟨by rw[rep_str_inv hrep],hext.bel⟩
   have hA:=(Below.refl wr.heap.size wr).alloc (Nat.le_refl _) (.cells #[.int .i64 s.kind,.int .i64 s.num,.int .i64 s.fst,.int .i64 s.lst,.string ⟨s.txt.toArray⟩] 54);have hbw:=hb.size
   go_wp2_with (go_at_call 57; refine (hl57 _ ?_).mono ?_)
   ·exact hb.trans (hA.mono hbw)
   rintro e w2 ⟨rfl,hb2⟩;have hA2:=hA.trans (hb2.mono hA.size);have hI2:=bld_below hI hA2
   have hbl:((l.take k).map g).flatten.length<=1024*16777216:=by
    have:=flat_lenM (l:=(l.take k).map g) (m:=16777216) fun p hp=>by
     obtain ⟨t,ht,rfl⟩:=List.mem_map.1 hp;exact hgl t (List.mem_of_mem_take ht)
    rw[List.length_map,List.length_take] at this;refine Nat.le_trans this (Nat.mul_le_mul_right _ (by omega))
   have hgs:=hgl s hm
   go_wp2_with (go_at_call 56; refine (Any.Builder_WriteString { Tryz.lays156 with } Tryz.Builder_Extra_156 w1.heap.size w1.heap.size _ ⟨(g s).toArray⟩ _ hI2 (by rw[Lib.byteCells_length]; show _+(g s).toArray.size<=_; rw[List.size_toArray]; omega) (Nat.le_trans hbw hA2.size)).mono ?_)
   rintro e w3 ⟨rfl,hB3,hb3⟩
   have hfl:((l.take (k+1)).map g).flatten=((l.take k).map g).flatten++g s:=by
    obtain ⟨hl',rfl⟩:=List.getElem?_eq_some_iff.1 hs;rw[List.take_succ_eq_append_getElem hl',List.map_append,List.flatten_append];simp
   have hI3:Lib.IsBuilder 112 5 w1.heap.size w1.heap.size (Lib.byteCells ((l.take (k+1)).map g).flatten) w3:=by
    rw[hfl,Lib.byteCells_append];rw[Lib.strCells_eq] at hB3;have e8:(⟨(g s).toArray⟩:ByteArray).data.toList=g s:=by simp
    rw[e8] at hB3;exact .inr hB3
   have hb3':=(hb.trans (hA2.mono hbw)).trans hb3
   go_wp2
   go_roundw
   case rel=>exact ⟨k+1,hlt,by simp,hI3,hb3'⟩
   case measure=>simp[RowKit.intOf]; omega
  ·have hkl:k=l.length:=by omega
   subst hkl;rw[List.take_length] at hI;have hk1:¬(l.length:Int)<l.length:=by omega
   have hbw:=hb.size
   go_wp2_with (go_at_call 58; refine (Any.Builder_String_any { Tryz.lays156 with } Tryz.Builder_Extra_156 w1.heap.size w1.heap.size _ _ hI hbw).mono ?_)
   rintro e w2 rfl hb2
   go_wp2
   go_ret2
   exact ⟨rfl,hb1.trans ((hb.trans hb2).mono hb1.size)⟩
end Go.Arc
set_option maxRecDepth 100000
namespace Go.Arc
open Go.Ab Go.RowKit Go.Proofs
variable {T : Lay}
abbrev aggS (s:Stp):V:= .agg s.cs
abbrev yV (lo:Nat):V:= .val (.func (.yield lo) #[] #[])
theorem at_mid {α:Type} {A B C X:List α} (hX:X=A++B++C) {n j:Nat} (hn:n=A.length+j) {x:α} (h:B[j]? = some x):X[n]? = some x:=by
 subst hX hn;have hlt:=(List.getElem?_eq_some_iff.1 h).1;rw[List.append_assoc,List.getElem?_append_right (by omega),Nat.add_sub_cancel_left,List.getElem?_append_left hlt,h]
theorem tim_len {f:Fil} {d:Int} : ∀ {l:List Rul},(∀q∈l,waitB f d q=false)->(timS f d l).length=2*l.length
 | [],_=>rfl
 | q::l,h=>by
  have hq:=h q List.mem_cons_self;have ih:=tim_len (l:=l) fun x hx=>h x (List.mem_cons_of_mem _ hx);unfold waitB at hq;cases ht:trig f q.trg d with
  | none=>rw[ht] at hq; cases hq
  | some t=>rw[timS,ht]; simp only[List.length_cons]; omega
theorem tim_cons {f:Fil} {d:Int} {q:Rul} {l:List Rul} {t:Int×Int} (h:trig f q.trg d=some t):timS f d (q::l)=trgS q t::dueS q t::timS f d l:=by rw[timS,h]
theorem tim_stop {f:Fil} {d:Int} {q:Rul} {l:List Rul} (h:trig f q.trg d=none):timS f d (q::l)=[]:=by rw[timS,h]
set_option maxHeartbeats 4000000 in
theorem denI_times (L:LibC T) (r:Rgs) (f:Fil) (d:Int) (v:Vdt) (l:List Rul) (hf:f.Fit) (hl:∀q∈l,q.Fit) (hlen:l.length<=1048576):
  DenI Tryz.prog T 220 [.row [ruls l],.row (inqC r f d v)] ((timS f d l).map aggS):=by
 refine denI_of_bodyE follows (fun args w=>Tryz.call220 args w) Tryz.func220 rfl rfl 54 rfl ?_;intro lo k hk;refine runI True.intro ?_
 refine loopI ⟨[0,2,10,11,12],[],[],[]⟩ (fun j:Nat=>j<=l.length/\2*j<k/\∀q∈l.take j,waitB f d q=false) (fun j=>l.length-j)
  (fun j=>⟨54,[(0,.v (yV lo)),(2,.v (.row (inqC r f d v))),(10,.v (ruls l)),(11,.v (vi l.length)),(12,.v (vi j))],[],[]⟩) (fun j=>2*j) 0 ⟨Nat.zero_le _,hk,by simp⟩ rfl ?_
 rintro j ⟨hj,hjk,hall⟩;have htl:=tim_len hall;rw[List.length_take_of_le hj] at htl;by_cases hlt:j<l.length
 ·obtain ⟨q,hx,hdr,hm⟩:=drop_at hlt;have hxs:timS f d l=timS f d (l.take j)++timS f d (l.drop j):=by rw[<- timS_app hall,List.take_append_drop]
  refine runI hx ?_;refine call (den_Trigger f q.trg d hf) ?_;cases ht:trig f q.trg d with
  | none=>
   rw[trigV,ht];rw[hdr,tim_stop ht,List.append_nil] at hxs;refine runI hx ?_;exact endI_rt (by rw[List.length_map,hxs,htl]; omega)
  | some t=>
   obtain ⟨a,b⟩:=t;rw[trigV,ht];rw[hdr,tim_cons ht] at hxs;have hlen2:2*j+2<=((timS f d l).map aggS).length:=by rw[List.length_map,hxs,List.length_append,htl]; simp only[List.length_cons]; omega
   obtain ⟨z,e,hdz,hz⟩:∃z e,dueV q a b= .tup [vi z,vi e]/\dueS q (a,b)=⟨4,q.id,0,z,[]⟩:=by
    unfold dueV dueS;cases dueR q a b with
    | none=>exact ⟨_,_,rfl,rfl⟩
    | some z=>exact ⟨_,_,rfl,rfl⟩
   rw[hz] at hxs
   have h0:((timS f d l).map aggS)[2*j]? = some (aggS (trgS q (a,b))):=by
    rw[List.getElem?_map,hxs,List.getElem?_append_right (by omega),htl,Nat.sub_self]; rfl
   have h1:((timS f d l).map aggS)[2*j+1]? = some (aggS ⟨4,q.id,0,z,[]⟩):=by
    rw[List.getElem?_map,hxs,List.getElem?_append_right (by omega),htl,Nat.add_sub_cancel_left]; rfl
   refine runI hx ?_;refine call (den_Due L q a b (hl q hm)) ?_;rw[hdz];refine runI hx ?_;refine yk h0 hjk (fun g1=> ?_) (fun g1=> ?_)
   ·refine runI hx ?_;refine yk h1 g1 (fun g2=> ?_) (fun g2=> ?_)
    ·refine runI hx ?_;exact roundI (j+1) ⟨hlt,by omega,take_snoc hall hx (by unfold waitB; rw[ht]; rfl)⟩ (by omega) (by omega)
    ·refine runI hx ?_;exact endI_rt (by omega)
   ·refine runI hx ?_;exact endI_rt (by omega)
 ·have hjl:j=l.length:=by omega
  subst hjl;rw[List.take_length] at htl;refine runI True.intro ?_;exact endI_nm (by rw[List.length_map,htl]; omega)
end Go.Arc
set_option maxRecDepth 100000
namespace Go.Arc
open Go.Ab Go.RowKit Go.Proofs
variable {T : Lay}
theorem get_agg {l:List Stp} {j:Nat} {x:V} (h:(l.map aggS)[j]? = some x):∃s,l[j]? = some s/\x=aggS s:=by
 rw[List.getElem?_map,Option.map_eq_some_iff] at h;obtain ⟨s,hs,rfl⟩:=h;exact ⟨s,hs,rfl⟩
theorem names_one {id b:Nat} {cs:List V} : ∀(_j:Nat) id' (k:Blk),Ab.look id' [(id,.var cs (some b))]=some k->k.nm=some b:=fun _ id' k h=>by
 rw[look_cons'] at h;split at h
 ·cases h; rfl
 ·cases h
theorem ids_one {id:Nat} {k0:Blk} (hid:id<999000):∀(_j:Nat) id',Ab.look id' [(id,k0)]≠none->id'<999000:=fun _ id' h=>by
 rw[look_cons'] at h;split at h
 ·rename_i e; omega
 ·exact absurd rfl h
theorem one_yield (lo:Nat):(Value.func (.yield lo) #[] #[]).oneCell'=true:=rfl
theorem no_own:∀(_j q:Nat) e c,([]:List (TypeId×List Nat))[q]? = some (e,c)->∀z∈c,1000000000<=z:=fun _ q e c h=>by simp at h
set_option maxHeartbeats 8000000 in
theorem denI_body (L:LibC T) (r:Rgs) (f:Fil) (d:Int) (v:Vdt) (hr:r.Fit) (hf:f.Fit) (hg:goodR r.rls=true) (hp:goodL r.pls=true) (hv:v.hls.length<=1048576):
  DenI Tryz.prog T 166 [.row (inqC r f d v)] ((bodyS r f d v).map aggS):=by
 have hl0:=hr.rls.1;refine denI_of_bodyE follows (fun args w=>Tryz.call166 args w) Tryz.func166 rfl rfl 114 rfl ?_;intro lo k hk;refine runI (one_yield lo) ?_;refine call (den_done r f d v hr) ?_;unfold donV;by_cases ho:d<f.opn
 ·have hb:bodyS r f d v=[openS f]:=if_pos ho;rw[hb];cases hdn:donS r f d with
  | none=>
   refine runI (eq_true ho) ?_;refine yk rfl hk (fun g1=> ?_) (fun g1=> ?_)
   ·refine runI (eq_true ho) ?_;exact endI_rt (by rw[List.length_map,List.length_singleton]; omega)
   ·refine runI (eq_true ho) ?_;exact endI_rt (by rw[List.length_map,List.length_singleton]; omega)
  | some s=>
   refine runI (eq_true ho) ?_;refine yk rfl hk (fun g1=> ?_) (fun g1=> ?_)
   ·refine runI (eq_true ho) ?_;exact endI_rt (by rw[List.length_map,List.length_singleton]; omega)
   ·refine runI (eq_true ho) ?_;exact endI_rt (by rw[List.length_map,List.length_singleton]; omega)
 have ho':f.opn<=d:=by omega
 cases hdn:donS r f d with
 | some s=>
  have hb:bodyS r f d v=[s]:=by unfold bodyS; rw[if_neg ho,hdn]
  rw[hb];refine runI (And.intro (eq_false ho) (eq_true ho')) ?_;refine yk rfl hk (fun g1=> ?_) (fun g1=> ?_)
  ·refine runI True.intro ?_;exact endI_rt (by rw[List.length_map,List.length_singleton]; omega)
  ·refine runI True.intro ?_;exact endI_rt (by rw[List.length_map,List.length_singleton]; omega)
 | none=>
 have hb:bodyS r f d v=openS f::clsS r f d::restS r f d v:=by unfold bodyS; rw[if_neg ho,hdn]
 rw[hb];have hlen:=rulesF_len r f d;have hmem:∀q∈rulesF r f d,q∈r.rls:=fun q h=>rulesF_mem h;have hR:=den_rulesI L r f d v hr hf hg hp;unfold restS;obtain ⟨c,hc⟩:∃c,clsS r f d=c:=⟨_,rfl⟩;obtain ⟨rs,hrs⟩:∃rs,rulesF r f d=rs:=⟨_,rfl⟩;rw[hc,hrs] at hR ⊢;rw[hrs] at hlen hmem;obtain ⟨X,hX⟩:∃X:List V,(openS f::c::(rs.map ruleS++if v.kind<5 then [] else timS f d rs++v.hls.map hldS++if 8<=v.kind then (selS r f d).toList else [])).map aggS=X:=⟨_,rfl⟩;rw[hX];have x0:X[0]? = some (aggS (openS f)):=by rw[<- hX]; rfl
 have x1:X[1]? = some (aggS c):=by rw[<- hX]; rfl
 have xr:∀j q,rs[j]? = some q->X[2+j]? = some (aggS (ruleS q)):=fun j q h=>
  at_mid (j:=j) (A:=[aggS (openS f),aggS c]) (B:=(rs.map ruleS).map aggS) (C:=(if v.kind<5 then [] else timS f d rs++v.hls.map hldS++if 8<=v.kind then (selS r f d).toList else []).map aggS) (by rw[<- hX]; simp) rfl (by simp[h])
 have xl:2+rs.length<=X.length:=by rw[<- hX]; simp only[List.length_map,List.length_cons,List.length_append]; omega
 refine runI (And.intro (eq_false ho) (eq_true ho')) ?_;refine yk x0 hk (fun g1=> ?_) (fun g1=> ?_)
 case refine_2=>
  refine runI True.intro ?_;exact endI_rt (by omega)
 refine runI (eq_false ho) ?_;refine call hR ?_;refine runI True.intro ?_;refine yk x1 g1 (fun g2=> ?_) (fun g2=> ?_)
 case refine_2=>
  refine runI True.intro ?_;exact endI_rt (by omega)
 refine runI True.intro ?_
 refine loopI ⟨[1,2,6,60,61,62],[2],[],[]⟩ (fun j:Nat=>j<=rs.length/\2+j<k) (fun j=>rs.length-j)
  (fun j=>⟨114,[(1,.v (.row (inqC r f d v))),(2,.p 2 0),(6,.v (ruls rs)),(60,.v (ruls rs)),(61,.v (vi rs.length)),(62,.v (vi j))],[(2,.var [yV lo])],[]⟩) (fun j=>2+j) 0 ⟨Nat.zero_le _,g2⟩ rfl ?_
 rintro j ⟨hj,hjk⟩;by_cases hlt:j<rs.length
 ·obtain ⟨q,hx,-,hm⟩:=drop_at hlt;refine runI hx ?_;refine yk (xr j q hx) hjk (fun h1=> ?_) (fun h1=> ?_)
  ·refine runI hx ?_;exact roundI (j+1) ⟨hlt,by omega⟩ (by omega) (by omega)
  ·refine runI hx ?_;exact endI_rt (by omega)
 have hjl:j=rs.length:=by omega
 subst hjl;by_cases hk5:v.kind<5
 ·have xe:X.length=2+rs.length:=by rw[<- hX,if_pos hk5]; simp; omega
  refine runI (eq_true hk5) ?_;exact endI_rt (by omega)
 rw[if_neg hk5] at hX
 have xt:∀j x,((timS f d rs).map aggS)[j]? = some x->X[2+rs.length+j]? = some x:=fun j x h=>
  at_mid (j:=j) (A:=aggS (openS f)::aggS c::(rs.map ruleS).map aggS) (B:=(timS f d rs).map aggS) (C:=(v.hls.map hldS++if 8<=v.kind then (selS r f d).toList else []).map aggS) (by rw[<- hX]; simp) (by simp; omega) h
 have xh:∀j n,v.hls[j]? = some n->X[2+rs.length+(timS f d rs).length+j]? = some (aggS (hldS n)):=fun j n h=>
  at_mid (j:=j) (A:=aggS (openS f)::aggS c::((rs.map ruleS).map aggS++(timS f d rs).map aggS)) (B:=(v.hls.map hldS).map aggS) (C:=(if 8<=v.kind then (selS r f d).toList else []).map aggS) (by rw[<- hX]; simp) (by simp; omega) (by simp[h])
 have xe:X.length=2+rs.length+(timS f d rs).length+v.hls.length+(if 8<=v.kind then (selS r f d).toList else []).length:=by rw[<- hX]; simp; omega
 have xs:∀s,selS r f d=some s->8<=v.kind->X[2+rs.length+(timS f d rs).length+v.hls.length]? = some (aggS s):=fun s h h8=>
  at_mid (j:=0) (A:=aggS (openS f)::aggS c::((rs.map ruleS).map aggS++(timS f d rs).map aggS++(v.hls.map hldS).map aggS)) (B:=[aggS s]) (C:=[]) (by rw[<- hX,if_pos h8,h]; simp) (by simp; omega) rfl
 refine runI (eq_false hk5) ?_;refine call (den_times r f d v rs) ?_;refine runI True.intro ?_;refine awI_name 2 fun b2 _=> ?_;refine runI True.intro ?_
 refine rangeI ((timS f d rs).map aggS) (k-(2+rs.length)) 80 .rt ⟨[1,2],[2],[],[]⟩ ⟨[(1,.v (.row (inqC r f d v))),(2,.p 2 0)],fun _=>[(2,.var [yV lo] (some b2))],fun _=>[],fun j=>2+rs.length+j⟩ (fun _=>b2)
  (by omega) (denI_times L r f d v rs hf (fun q hq=>hr.rls.2 q (hmem q hq)) (by omega)) rfl names_one (ids_one (by decide)) (fun _=>wf_all (by rfl)) no_own ?_ ?_ ?_
 ·intro j x lr hx hjk;obtain ⟨s,-,rfl⟩:=get_agg hx;refine run ?_;refine rbI_nm ?_;refine runI True.intro ?_;refine yk (xt j _ hx) (by omega) (fun h1=> ?_) (fun h1=> ?_)
  ·refine runI True.intro ?_;exact rdI_on ⟨[],[2],[],[]⟩ [] (by simp only; omega) (by omega)
  ·refine runI True.intro ?_;exact rdI_off ⟨[],[2],[],[]⟩ [] (by simp only; omega) (by omega)
 ·intro hkk;rw[List.length_map] at hkk;refine runI True.intro ?_;exact endI_rt (by omega)
 intro hkk;rw[List.length_map] at hkk;refine runI True.intro ?_
 refine loopI ⟨[1,2,87,88,89],[2],[],[]⟩ (fun j:Nat=>j<=v.hls.length/\2+rs.length+(timS f d rs).length+j<k) (fun j=>v.hls.length-j)
  (fun j=>⟨114,[(1,.v (.row (inqC r f d v))),(2,.p 2 0),(87,.v (ints v.hls)),(88,.v (vi v.hls.length)),(89,.v (vi j))],[(2,.var [yV lo] (some b2))],[]⟩) (fun j=>2+rs.length+(timS f d rs).length+j) 0 ⟨Nat.zero_le _,by omega⟩ (by simp) ?_
 rintro j ⟨hj,hjk⟩;by_cases hlt:j<v.hls.length
 ·obtain ⟨q,hx,-,hm⟩:=drop_at hlt;refine runI hx ?_;refine yk (xh j q hx) hjk (fun h1=> ?_) (fun h1=> ?_)
  ·refine runI hx ?_;exact roundI (j+1) ⟨hlt,by omega⟩ (by omega) (by omega)
  ·refine runI hx ?_;exact endI_rt (by omega)
 have hjl:j=v.hls.length:=by omega
 subst hjl;refine runI True.intro ?_;refine call (den_selectedI r f d v hr) ?_;unfold donV;cases hs:selS r f d with
 | none=>
  have xe2:X.length=2+rs.length+(timS f d rs).length+v.hls.length:=by rw[xe,hs]; split <;> rfl
  refine runI True.intro ?_;exact endI_nm (by omega)
 | some s=>
  by_cases h8:8<=v.kind
  ·have xe2:X.length=2+rs.length+(timS f d rs).length+v.hls.length+1:=by rw[xe,hs,if_pos h8]; rfl
   refine runI (eq_true h8) ?_;refine yk (xs s hs h8) hjk (fun h1=> ?_) (fun h1=> ?_)
   ·refine runI True.intro ?_;exact endI_nm (by omega)
   ·refine runI True.intro ?_;exact endI_nm (by omega)
  ·have xe2:X.length=2+rs.length+(timS f d rs).length+v.hls.length:=by rw[xe,if_neg h8]; rfl
   refine runI (eq_false h8) ?_;exact endI_nm (by omega)
set_option maxHeartbeats 4000000 in
theorem denI_steps (L:LibC T) (r:Rgs) (f:Fil) (d:Int) (v:Vdt) (hr:r.Fit) (hf:f.Fit) (hg:goodR r.rls=true) (hp:goodL r.pls=true) (hv:v.hls.length<=1048576):
  DenI Tryz.prog T 95 [.row (inqC r f d v)] ((bodyS r f d v++[endS v]).map aggS):=by
 refine denI_of_bodyE follows (fun args w=>Tryz.call95 args w) Tryz.func95 rfl rfl 23 rfl ?_;intro lo k hk;have hB:=denI_body L r f d v hr hf hg hp hv;obtain ⟨B,hBe⟩:∃B,bodyS r f d v=B:=⟨_,rfl⟩;rw[hBe] at hB ⊢
 have xb:∀j x,(B.map aggS)[j]? = some x->((B++[endS v]).map aggS)[j]? = some x:=fun j x h=>
  at_mid (j:=j) (A:=[]) (B:=B.map aggS) (C:=[aggS (endS v)]) (by simp) (by simp) h
 have xn:((B++[endS v]).map aggS)[B.length]? = some (aggS (endS v)):=at_mid (j:=0) (A:=B.map aggS) (B:=[aggS (endS v)]) (C:=[]) (by simp) (by simp) rfl;have xl:((B++[endS v]).map aggS).length=B.length+1:=by simp
 refine runI (one_yield lo) ?_;refine call (den_bodyI r f d v) ?_;refine runI True.intro ?_;refine awI_name 2 fun b2 _=> ?_;refine runI True.intro ?_
 refine rangeI (B.map aggS) k 6 .rt ⟨[1,2],[2],[],[]⟩ ⟨[(1,.v (.row (inqC r f d v))),(2,.p 2 0)],fun _=>[(2,.var [yV lo] (some b2))],fun _=>[],fun j=>j⟩ (fun _=>b2)
  hk hB rfl names_one (ids_one (by decide)) (fun _=>wf_all (by rfl)) no_own ?_ ?_ ?_
 ·intro j x lr hx hjk;obtain ⟨s,-,rfl⟩:=get_agg hx;refine run ?_;refine rbI_nm ?_;refine runI True.intro ?_;refine yk (xb j _ hx) hjk (fun h1=> ?_) (fun h1=> ?_)
  ·refine runI True.intro ?_;exact rdI_on ⟨[],[2],[],[]⟩ [] rfl h1
  ·refine runI True.intro ?_;exact rdI_off ⟨[],[2],[],[]⟩ [] rfl h1
 ·intro hkk;rw[List.length_map] at hkk;refine runI True.intro ?_;exact endI_rt (by omega)
 intro hkk;rw[List.length_map] at hkk ⊢;refine runI True.intro ?_;refine yk xn (by omega) (fun h1=> ?_) (fun h1=> ?_)
 ·refine runI True.intro ?_;exact endI_nm (by omega)
 ·refine runI True.intro ?_;exact endI_nm (by omega)
end Go.Arc
set_option maxRecDepth 100000
namespace Go.Arc
open Go.Ab Go.RowKit Go.Proofs
variable {T : Lay}
theorem own_one {e:TypeId} {p:Nat} (hp:1000000000<=p):∀(_j q:Nat) e' c,([(e,[p])]:List (TypeId×List Nat))[q]? = some (e',c)->∀z∈c,1000000000<=z:=fun _ q e' c h z hz=>by
 cases q with
 | zero=>simp at h; obtain ⟨-,rfl⟩:=h; simp at hz; omega
 | succ q=>simp at h
theorem take_one {α:Type} {l:List α} {k:Nat} {x:α} (h:l[k]? = some x):l.take (k+1)=l.take k++[x]:=by
 obtain ⟨hlt,rfl⟩:=List.getElem?_eq_some_iff.1 h;exact List.take_succ_eq_append_getElem hlt
set_option maxHeartbeats 4000000 in
theorem den_AppendSeq (gf:FuncId) (cap:List V) (l:List Stp) (hden:DenI Tryz.prog T gf cap (l.map aggS)) (hl:l.length<=8388608):
  Den Tryz.prog T 94 [.val (.slice none 0 0),.func gf cap] (stps l):=by
 refine den_of_bodyF follows (fun args w=>Tryz.call94 args w) Tryz.func94 rfl 13 rfl ?_;refine runI True.intro ?_;refine awI_name 2 fun b2 _=> ?_;refine runI True.intro ?_
 refine rangeI (l.map aggS) (l.length+1) 7 .rt ⟨[2],[2],[3000000000],[(3000000000,54,5)]⟩ ⟨[(2,.p 2 0)],fun j=>[(2,.var [stps (l.take j)] (some b2))],fun _=>[(54,[3000000000])],fun _=>0⟩ (fun _=>b2)
  (Nat.succ_pos _) hden rfl (fun j=>names_one j) (fun j=>ids_one (by decide) j) (fun j=>wf_all (by rfl)) (own_one (Nat.le_of_lt (by decide))) ?_ ?_ ?_
 ·intro j x lr hx hjk;obtain ⟨s,hs,rfl⟩:=get_agg hx;have hts:(l.take j).map Stp.cs++[s.cs]=(l.take (j+1)).map Stp.cs:=by rw[take_one hs]; simp
  have hlt:=(List.getElem?_eq_some_iff.1 hs).1;refine run ?_;refine rbI_nm ?_;have r1:remC 5 0 5 [(54,[3000000000])]=[(54,[3000000000])]:=by rfl
  have r2:remC 2 0 1 [(54,[11])]=[(54,[11])]:=by rfl
  refine runI (And.intro hts (And.intro r1 r2)) ?_;exact rdI_on ⟨[],[2],[3000000000],[]⟩ [] rfl (by omega)
 ·intro hkk;rw[List.length_map] at hkk;omega
 intro hkk;rw[List.length_map];refine runI (show l.take l.length=l from List.take_length) ?_;refine fpI_rt ?_;exact fin rfl
theorem den_Collect (gf:FuncId) (cap:List V) (l:List Stp) (hden:DenI Tryz.prog T gf cap (l.map aggS)) (hl:l.length<=8388608):Den Tryz.prog T 47 [.func gf cap] (stps l):=by
 refine den_of_body follows (fun args w=>Tryz.call47 args w) Tryz.func47 rfl 5 rfl ?_;refine run ?_;refine call (den_AppendSeq gf cap l hden hl) ?_;refine run ?_;exact fin rfl
abbrev nilS:V:= .val (.slice none 0 0)
abbrev inqZ:List V:=[nilS,nilS,nilS,nilS,nilS,nilS,nilS,nilS,nilS,nilS,nilS,vi 0,vi 0,vi 0,vi 0,vi 0,.str [],.str [],vi 0,nilS,vi 0,vi 0,vi 0,vi 0,vi 0,vi 0,nilS]
theorem onE_0 {r:Rgs} {id d:Int} (h:onE r id d=0):askE r id=0/\dayG d=true:=by
 unfold onE at h;split at h
 ·rename_i h0; exact absurd h h0
 ·rename_i h0;split at h
  ·cases h
  ·rename_i h1;exact ⟨Decidable.not_not.1 h0,by simpa using h1⟩
theorem onV_0 {r:Rgs} {id d:Int} (h:onE r id d=0):onV r id d=vdt r (filA r id) d:=if_pos h
theorem den_openE (L:LibC T) (r:Rgs) (h:r.Fit) (id d:Int):
  Den Tryz.prog T 46 [.agg r.cs,vi id,vi d] (if onE r id d=0 then .tup [.agg (inqC r (filA r id) d (vdt r (filA r id) d)),vi 0] else .tup [.agg inqZ,vi (onE r id d)]):=by
 have hl:=h.fls.1;have hO:=den_On L r h id d;by_cases h0:onE r id d=0
 ·rw[if_pos h0];obtain ⟨ha,-⟩:=onE_0 h0;obtain ⟨k,hk,hlt,hx,-,-⟩:=find_fil (ask_ok ha).2;rw[onV_0 h0,h0] at hO;obtain ⟨v,hv⟩:∃v,vdt r (filA r id) d=v:=⟨_,rfl⟩;rw[hv] at hO ⊢;refine den_of_body follows (fun args w=>Tryz.call46 args w) Tryz.func46 rfl 33 rfl ?_;refine run ?_;refine call hO ?_;refine run ?_;refine call (den_FindF r.fls id hl) ?_;rw[hk];refine runW hx ?_;exact finC2 (.refl _)
 ·rw[if_neg h0];obtain ⟨v,hv⟩:∃v,onV r id d=v:=⟨_,rfl⟩;rw[hv] at hO;refine den_of_body follows (fun args w=>Tryz.call46 args w) Tryz.func46 rfl 33 rfl ?_;refine run ?_;refine call hO ?_;refine runW (eq_false h0) ?_;exact finC2 (.refl _)
theorem vdt_hbig {r:Rgs} (h:r.Fit) (f:Fil) (d:Int):(vdt r f d).hls.length<=1048576:=Nat.le_trans vdt_hlen h.hls.1
theorem goodL_of {r:Rgs} (h:OkG r):goodL r.pls=true:=(goodL_iff _).2 h.pls
theorem denI_expl (L:LibC T) (r:Rgs) (h:r.Fit) (id d:Int) (h0:onE r id d=0):
  DenI Tryz.prog T 95 [.row (inqC r (filA r id) d (vdt r (filA r id) d))] ((explS r (filA r id) d).map aggS):=by
 obtain ⟨ha,-⟩:=onE_0 h0;obtain ⟨hc,hf⟩:=ask_ok ha;have hok:=okG_of hc;exact denI_steps L r (filA r id) d (vdt r (filA r id) d) h (filA_fit h hf) hok.goodR (goodL_of hok) (vdt_hbig h _ d)
theorem den_Explain (L:LibC T) (r:Rgs) (h:r.Fit) (id d:Int):
  Den Tryz.prog T 12 [.agg r.cs,vi id,vi d] (.tup [stps (if onE r id d=0 then explS r (filA r id) d else []),vi (onE r id d)]):=by
 have hO:=den_openE L r h id d;by_cases h0:onE r id d=0
 ·rw[if_pos h0] at hO ⊢;have hS:=denI_expl L r h id d h0;have hle:=expl_len (r:=r) (f:=filA r id) (d:=d);have h1:=h.rls.1;have h2:=h.hls.1;rw[h0];obtain ⟨X,hX⟩:∃X,explS r (filA r id) d=X:=⟨_,rfl⟩;rw[hX] at hS hle ⊢;obtain ⟨v,hv⟩:∃v,vdt r (filA r id) d=v:=⟨_,rfl⟩;rw[hv] at hO hS;refine den_of_body follows (fun args w=>Tryz.call12 args w) Tryz.func12 rfl 23 rfl ?_;refine run ?_;refine call hO ?_;refine run ?_;refine call (den_steps r (filA r id) d v) ?_;refine run ?_;refine call (den_Collect _ _ X hS (by omega)) ?_;refine run ?_;exact fin rfl
 ·rw[if_neg h0] at hO ⊢;refine den_of_body follows (fun args w=>Tryz.call12 args w) Tryz.func12 rfl 23 rfl ?_;refine run ?_;refine call hO ?_;refine runW (eq_false h0) ?_;exact finW (wk_tups (.cons (.nil 5) (.cons (.refl _) .nil)))
end Go.Arc
set_option maxRecDepth 100000
namespace Go.Arc
open Go.Ab Go.RowKit Go.Proofs
variable {T : Lay}
theorem diffN_some:∀ {l x:List Stp} {m:Nat},diffN l x=some m->m<=l.length/\m<=x.length/\(∀j,j<m->l[j]? = x[j]?)/\l[m]? ≠ x[m]?
 | [],[],m,h=>by cases h
 | [],b::x,m,h=>by
  rw[diffN] at h;cases h;exact ⟨Nat.le_refl _,Nat.zero_le _,fun j hj=>absurd hj (Nat.not_lt_zero _),by simp⟩
 | a::l,[],m,h=>by
  rw[diffN] at h;cases h;exact ⟨Nat.zero_le _,Nat.le_refl _,fun j hj=>absurd hj (Nat.not_lt_zero _),by simp⟩
 | a::l,b::x,m,h=>by
  rw[diffN] at h;by_cases e:a=b
  ·rw[if_pos e] at h;obtain ⟨n,hn,rfl⟩:=Option.map_eq_some_iff.1 h;obtain ⟨h1,h2,h3,h4⟩:=diffN_some hn;refine ⟨Nat.succ_le_succ h1,Nat.succ_le_succ h2,fun j hj=> ?_,by simpa using h4⟩;cases j with
   | zero=>simp[e]
   | succ j=>simpa using h3 j (by omega)
  ·rw[if_neg e] at h;cases h;exact ⟨Nat.zero_le _,Nat.zero_le _,fun j hj=>absurd hj (Nat.not_lt_zero _),by simpa using e⟩
def diffM (l x:List Stp):Nat:=match diffN l x with
 | some m=>m
 | none=>x.length
structure DifM (l x:List Stp) (m:Nat):Prop where
 le:m<=x.length
 le':m<=l.length
 eq:∀j,j<m->l[j]? = x[j]?
 ne:m<x.length->l[m]? ≠ x[m]? /\ diffS l x=m
 out:m=x.length->(m<l.length/\diffS l x=m)\/(m=l.length/\diffS l x= -1)
theorem difM (l x:List Stp):DifM l x (diffM l x):=by
 unfold diffM;cases h:diffN l x with
 | none=>
  have e:=diffN_none h;subst e;exact ⟨Nat.le_refl _,Nat.le_refl _,fun _ _=>rfl,fun hlt=>absurd hlt (Nat.lt_irrefl _),fun _=> .inr ⟨rfl,by unfold diffS; rw[h]⟩⟩
 | some m=>
  obtain ⟨h1,h2,h3,h4⟩:=diffN_some h;have hd:diffS l x=m:=by unfold diffS; rw[h]
  refine ⟨h2,h1,h3,fun _=>⟨h4,hd⟩,fun he=> .inl ⟨?_,hd⟩⟩;have he':m=x.length:=he;rcases Nat.lt_or_ge m l.length with g | g
  ·exact g
  ·exact absurd (by rw[List.getElem?_eq_none g,List.getElem?_eq_none (Nat.le_of_eq he'.symm)]) h4
theorem stp_ne {s t:Stp} (h:s≠t):(decide (s.kind=t.kind) && (decide (s.num=t.num) && (decide (s.fst=t.fst) && (decide (s.lst=t.lst) && (s.txt == t.txt)))))=false:=by
 obtain ⟨a,b,c,d,e⟩:=s;obtain ⟨a',b',c',d',e'⟩:=t;by_cases h1:a=a' <;> by_cases h2:b=b' <;> by_cases h3:c=c' <;> by_cases h4:d=d' <;> by_cases h5:e=e' <;> simp_all
theorem names_three {i1 i2 i3 b1 b2 b3:Nat} {c1 c2 c3:Nat->List V} (h12:i1≠i2) (h13:i1≠i3) (h23:i2≠i3):∀(j:Nat) id (k:Blk),Ab.look id [(i1,.var (c1 j) (some b1)),(i2,.var (c2 j) (some b2)),(i3,.var (c3 j) (some b3))]=some k->k.nm=some (if id=i1 then b1 else if id=i2 then b2 else b3):=fun j id k h=>by
 simp only[look_cons',look_nil] at h;split at h
 ·rename_i e; cases h; rw[if_pos e]; rfl
 rename_i e;rw[if_neg e];split at h
 ·rename_i e; cases h; rw[if_pos e]; rfl
 rename_i e;rw[if_neg e];split at h
 ·cases h; rfl
 ·cases h
theorem ids_three {i1 i2 i3:Nat} {k1 k2 k3:Nat->Blk} (h1:i1<999000) (h2:i2<999000) (h3:i3<999000):∀(j:Nat) id,Ab.look id [(i1,k1 j),(i2,k2 j),(i3,k3 j)]≠none->id<999000:=fun j id h=>by
 simp only[look_cons',look_nil] at h;split at h
 ·omega
 split at h
 ·omega
 split at h
 ·omega
 ·exact absurd rfl h
set_option maxHeartbeats 8000000 in
theorem den_wrong (r:Rgs) (f:Fil) (d:Int) (v:Vdt) (l X:List Stp) (hden:DenI Tryz.prog T 95 [.row (inqC r f d v)] (X.map aggS)) (hl:l.length<=8388608) (hX:X.length<=8388608):
  Den Tryz.prog T 64 [.agg (inqC r f d v),stps l] (vi (diffS l X)):=by
 have hD:=difM l X;obtain ⟨m,hm⟩:∃m,diffM l X=m:=⟨_,rfl⟩;rw[hm] at hD;obtain ⟨z,hz⟩:∃z,diffS l X=z:=⟨_,rfl⟩;have hne:=hD.ne;have hout:=hD.out;rw[hz] at hne hout ⊢;refine den_of_bodyF follows (fun args w=>Tryz.call64 args w) Tryz.func64 rfl 30 rfl ?_;refine runI True.intro ?_;refine call (den_steps r f d v) ?_;refine runI True.intro ?_;refine awI_name 3 fun b3 _=> ?_;refine awI_name 4 fun b4 _=> ?_;refine awI_name 5 fun b5 _=> ?_;refine runI True.intro ?_
 refine rangeI (X.map aggS) (m+1) 9 .rt ⟨[3,4,5],[3,4,5],[],[]⟩
  ⟨[(3,.p 3 0),(4,.p 4 0),(5,.p 5 0)],fun j=>[(3,.var [stps l] (some b3)),(4,.var [vi ((if j<=m then 0 else m:Nat):Int)] (some b4)),(5,.var [vi ((if j<=m then j else m:Nat):Int)] (some b5))],fun _=>[],fun _=>0⟩ (fun id=>if id=3 then b3 else if id=4 then b4 else b5)
  (Nat.succ_pos _) hden rfl (names_three (by decide) (by decide) (by decide)) (ids_three (by decide) (by decide) (by decide)) (fun _=>wf_all (by rfl)) no_own ?_ ?_ ?_
 ·intro j x lr hx hjk;obtain ⟨s,hs,rfl⟩:=get_agg hx;have hjX:=(List.getElem?_eq_some_iff.1 hs).1;have hjm:j<=m:=by omega
  simp only[if_pos hjm];refine run ?_;refine rbI_nm ?_;by_cases hlt:j<m
  ·have hls:l[j]? = some s:=(hD.eq j hlt).trans hs;have hll:=(List.getElem?_eq_some_iff.1 hls).1;refine runI hls ?_;refine rdI_on ⟨[],[3,4,5],[],[]⟩ [] rfl (by omega) ?_;simp only[if_pos (show j+1<=m from hlt)];rfl
  ·have hje:j=m:=by omega
   subst hje;obtain ⟨hn,-⟩:=hne hjX;have hoff:¬j+1<=j:=by omega
   by_cases hll:j<l.length
   ·obtain ⟨t,ht,-,-⟩:=drop_at hll;have hts:t≠s:=fun e=>hn (by rw[ht,hs,e]);refine runI (And.intro ht (stp_ne hts)) ?_;refine rdI_off ⟨[],[3,4,5],[],[]⟩ [] rfl (by omega) ?_;simp only[if_neg hoff];rfl
   ·refine runI True.intro ?_;refine rdI_off ⟨[],[3,4,5],[],[]⟩ [] rfl (by omega) ?_;simp only[if_neg hoff];rfl
 ·intro hkk;rw[List.length_map] at hkk;obtain ⟨-,rfl⟩:=hne (by omega);simp only[if_neg (show ¬m+1<=m by omega)];refine runI True.intro ?_;refine fpI_rt ?_;exact finC1 (.refl _)
 intro hkk;rw[List.length_map] at hkk ⊢;have hmX:m=X.length:=by have:=hD.le; omega
 subst hmX;simp only[if_pos (Nat.le_refl _)];rcases hout rfl with ⟨h1,rfl⟩ | ⟨h1,rfl⟩
 ·refine runI True.intro ?_;refine fpI_rt ?_;exact finC1 (.refl _)
 ·refine runI True.intro ?_;refine fpI_rt ?_;exact finC1 (.refl _)
def ckdE (r:Rgs) (id d:Int) (l:List Stp):Int:=if onE r id d≠0 then onE r id d else if 0<=diffS l (explS r (filA r id) d) then 14 else 0
def ckdV (r:Rgs) (id d:Int) (l:List Stp):Vdt:=if ckdE r id d l=0 then vdt r (filA r id) d else vdtZ
theorem den_wrongE (L:LibC T) (r:Rgs) (h:r.Fit) (id d:Int) (l:List Stp) (hl:l.length<=8388608) (h0:onE r id d=0):
  Den Tryz.prog T 64 [.agg (inqC r (filA r id) d (vdt r (filA r id) d)),stps l] (vi (diffS l (explS r (filA r id) d))):=by
 have hle:=expl_len (r:=r) (f:=filA r id) (d:=d);have h1:=h.rls.1;have h2:=h.hls.1;exact den_wrong r (filA r id) d (vdt r (filA r id) d) l (explS r (filA r id) d) (denI_expl L r h id d h0) hl (by omega)
theorem wk_vdtZ' (e:Int):Wk (.tup [.agg [vi 0,vi 0,vi 0,vi 0,vi 0,nilS],vi e]) (.tup [.agg vdtZ.cs,vi e]):=wk_vdtZ e
theorem den_Check (L:LibC T) (r:Rgs) (h:r.Fit) (id d:Int) (l:List Stp) (hl:l.length<=8388608):
  Den Tryz.prog T 19 [.agg r.cs,vi id,vi d,stps l] (.tup [.agg (ckdV r id d l).cs,vi (ckdE r id d l)]):=by
 have hO:=den_openE L r h id d;unfold ckdV;by_cases h0:onE r id d=0
 ·have hW:=den_wrongE L r h id d l hl h0;rw[if_pos h0] at hO;have he:ckdE r id d l=if 0<=diffS l (explS r (filA r id) d) then 14 else 0:=if_neg fun e=>e h0
  rw[he];obtain ⟨z,hz⟩:∃z,diffS l (explS r (filA r id) d)=z:=⟨_,rfl⟩;rw[hz] at hW ⊢;by_cases hzz:0<=z
  ·rw[if_pos hzz,if_neg (by decide)];refine den_of_body follows (fun args w=>Tryz.call19 args w) Tryz.func19 rfl 30 rfl ?_;refine run ?_;refine call hO ?_;refine run ?_;refine call hW ?_;refine runW (eq_true hzz) ?_;exact finC2 (wk_vdtZ' 14)
  ·rw[if_neg hzz,if_pos rfl];refine den_of_body follows (fun args w=>Tryz.call19 args w) Tryz.func19 rfl 30 rfl ?_;refine run ?_;refine call hO ?_;refine run ?_;refine call hW ?_;refine runW (eq_false hzz) ?_;exact finC2 (.refl _)
 ·have he:ckdE r id d l=onE r id d:=if_pos h0;rw[if_neg h0] at hO;rw[he,if_neg h0];refine den_of_body follows (fun args w=>Tryz.call19 args w) Tryz.func19 rfl 30 rfl ?_;refine run ?_;refine call hO ?_;refine runW (eq_false h0) ?_;exact finC2 (wk_vdtZ' _)
end Go.Arc
set_option maxRecDepth 100000
namespace Go.Arc
open Go.Ab Go.RowKit Go.Proofs
variable {T : Lay}
end Go.Arc
set_option maxRecDepth 100000
namespace Go.Arc
open Go.Ab Go.RowKit Go.Proofs
variable {T : Lay}
theorem line_len {s:Stp} (h:(lineR s).2=true) (ht:s.txt.length<=1048576):(lineR s).1.length<=6291456:=by
 have hr:rightS s=true:=(right_eq s).trans h;rw[<- parts_eq s hr];have h1:=parts_fit (right_inv hr) ht;have h2:=flat_lenS h1.2;have h3:(partsS s).length*1048576<=6*1048576:=Nat.mul_le_mul_right _ h1.1;omega
end Go.Arc
set_option maxRecDepth 100000
namespace Go.Arc
open Go.Ab Go.RowKit Go.Proofs
variable {T : Lay}
theorem den_differ (a b:List Stp) (ha:a.length<=8388608) (hb:b.length<=8388608):Den Tryz.prog T 52 [stps a,stps b] (vi (diffS a b)):=by
 have hD:=difM a b;obtain ⟨m,hm⟩:∃m,diffM a b=m:=⟨_,rfl⟩;rw[hm] at hD;obtain ⟨z,hz⟩:∃z,diffS a b=z:=⟨_,rfl⟩;have hne:=hD.ne;have hout:=hD.out;have hle:=hD.le;have hle':=hD.le';rw[hz] at hne hout ⊢;refine den_of_body follows (fun args w=>Tryz.call52 args w) Tryz.func52 rfl 38 rfl ?_;refine run ?_
 refine loop ⟨[0,1,5],[],[],[]⟩ (fun k:Nat=>k<=m) (fun k=>m-k)
  (fun k=>⟨38,[(0,.v (stps a)),(1,.v (stps b)),(5,.v (vi k))],[],[]⟩) 0 (Nat.zero_le _) ?_
 intro k hk;by_cases hlt:k<m
 ·obtain ⟨s,hs,-,-⟩:=drop_at (l:=b) (k:=k) (by omega);have hsa:a[k]? = some s:=(hD.eq k hlt).trans hs;refine runW (And.intro hs hsa) ?_;exact round (k+1) hlt (by omega)
 have hkm:k=m:=by omega
 subst hkm;by_cases hb1:k<b.length
 ·obtain ⟨hn,rfl⟩:=hne hb1;obtain ⟨s,hs,-,-⟩:=drop_at hb1;by_cases ha1:k<a.length
  ·obtain ⟨t,ht,-,-⟩:=drop_at ha1;have hts:t≠s:=fun e=>hn (by rw[ht,hs,e]);refine runW (And.intro ht (And.intro hs (stp_ne hts))) ?_;exact fin rfl
  ·have hka:k=a.length:=by omega
   subst hka;have hmin:¬((b.length:Nat):Int)<((a.length:Nat):Int):=by omega
   have hll:¬((a.length:Nat):Int)=((b.length:Nat):Int):=by omega
   refine runW (And.intro (eq_false hmin) (eq_false hll)) ?_;exact fin rfl
 ·have hkb:k=b.length:=by omega
  subst hkb;rcases hout rfl with ⟨h1,rfl⟩ | ⟨h1,rfl⟩
  ·have hmin:((b.length:Nat):Int)<((a.length:Nat):Int):=by omega
   have hll:¬((a.length:Nat):Int)=((b.length:Nat):Int):=by omega
   refine runW (And.intro (eq_true hmin) (eq_false hll)) ?_;exact fin rfl
  ·have hll:((a.length:Nat):Int)=((b.length:Nat):Int):=by omega
   refine runW (eq_true hll) ?_;exact fin rfl
theorem den_Same12 (a b:List Stp) (ha:a.length<=8388608) (hb:b.length<=8388608):Den Tryz.prog T 14 [stps a,stps b] (vb (decide (diffS a b<0))):=by
 refine den_of_body follows (fun args w=>Tryz.call14 args w) Tryz.func14 rfl 9 rfl ?_;refine run ?_;refine call (den_differ a b ha hb) ?_;refine run ?_;exact fin rfl
theorem den_end12 (v:Vdt):Den Tryz.prog T 100 [.agg v.cs] (.agg (endS v).cs):=by
 refine den_of_body follows (fun args w=>Tryz.call100 args w) Tryz.func100 rfl 10 rfl ?_;refine run ?_;exact finC1 (.refl _)
theorem den_class12 (r:Rgs) (f:Fil) (d:Int) (hr:r.Fit) (hf:f.Fit) (hp:goodL r.pls=true):Den Tryz.prog T 102 [.agg r.cs,.agg f.cs,vi d] (.agg (clsS r f d).cs):=by
 have hpl:=hr.pls.1;refine den_of_body follows (fun args w=>Tryz.call102 args w) Tryz.func102 rfl 27 rfl ?_;unfold clsS;refine run ?_;refine call (den_ClassOn r.pls f d hr.pls hf hp) ?_;by_cases hz:(classR r.pls f d).2=0
 ·rw[if_pos hz];refine runW hz ?_;refine call (den_IndexRef r.pls d hpl) ?_;have hb: -1<=idx r.pls d/\idx r.pls d<=1048576:=by rcases idx_cases r.pls d with ⟨h,-⟩ | ⟨i,h,h2,-⟩ <;> omega
  refine run ?_;exact finC1 (.refl _)
 ·rw[if_neg hz];refine runW (eq_false hz) ?_;exact finC1 (.refl _)
end Go.Arc
set_option maxRecDepth 100000
namespace Go.Arc
open Go.Ab Go.RowKit Go.Proofs
variable {T : Lay}
theorem den_ixStp (l:List Stp) (f:FuncId) (cap:List V) (p:Stp->Bool) (hl:l.length<=1048576) (hp:∀e∈l,Den Tryz.prog T f (.agg e.cs::cap) (vb (p e))):
   Den Tryz.prog T 107 [stps l,.func f cap] (vi (ix p l)):=by
  refine den_of_body follows (fun args w=>Tryz.call107 args w) Tryz.func107 rfl 19 rfl ?_;refine run ?_
  refine loop ⟨[0,1,7,8],[],[],[]⟩ (fun k:Nat=>k<=l.length/\∀e∈l.take k,p e=false) (fun k=>l.length-k)
    (fun k=>⟨19,[(0,.v (stps l)),(1,.v (.func f cap)),(7,.v (vi l.length)),(8,.v (vi k))],[],[]⟩) 0 ⟨by omega,by simp⟩ ?_
  rintro k ⟨hk,hall⟩;by_cases hlt:k<l.length
  · obtain ⟨x,hx,-,hm⟩:=drop_at hlt;refine runW hx ?_;refine call (hp x hm) ?_;cases hpc:p x
    · refine run ?_;exact round (k+1) ⟨by omega,take_snoc hall hx hpc⟩ (by omega)
    · refine run ?_;exact fin (vi_eq (ix_at hall hx hpc))
  · refine run ?_;exact fin (vi_eq (ix_none hall hlt))
theorem den_anyStp (l:List Stp) (f:FuncId) (cap:List V) (p:Stp->Bool) (hl:l.length<=1048576) (hp:∀e∈l,Den Tryz.prog T f (.agg e.cs::cap) (vb (p e))):
   Den Tryz.prog T 53 [stps l,.func f cap] (vb (l.any p)):=by
  refine den_of_body follows (fun args w=>Tryz.call53 args w) Tryz.func53 rfl 9 rfl ?_;refine run ?_;refine call (den_ixStp l f cap p hl hp) ?_;refine run ?_;exact fin (vb_eq (ix_ge _ l))
theorem textR_flat:∀l:List Stp,textR l=(l.map fun s=>(lineR s).1++[10]).flatten
 | []=>rfl
 | s::l=>by
  rw[List.map_cons,List.flatten_cons,<- textR_flat l,textR,List.append_assoc]
theorem den_FormatE (L:LibT T) (l:List Stp) (hl:l.length<=1048576) (hf:∀s∈l,s.txt.length<=1048576):Den Tryz.prog T 16 [stps l] (.tup [.str (formR l).1,vi (formR l).2]):=by
 have hA:=den_anyStp (T:=T) l 54 [] (fun s=> !rightS s) hl fun s hs=>den_Format1 (libC L) s (hf s hs);have hr:(fun s=> !rightS s)=fun s=> !(lineR s).2:=by funext s; rw[right_eq]
 rw[hr] at hA;unfold formR;by_cases h0:1024<l.length
 ·rw[if_pos h0];refine den_of_body follows (fun args w=>Tryz.call16 args w) Tryz.func16 rfl 23 rfl ?_;refine run ?_;exact fin rfl
 rw[if_neg h0];cases hall:l.all fun s=>(lineR s).2
 ·rw[if_neg (by decide)]
  have hany:(l.any fun s=> !(lineR s).2)=true:=by
   obtain ⟨s,hs,h1⟩:=List.all_eq_false.1 hall;exact List.any_eq_true.2 ⟨s,hs,by simpa using h1⟩
  rw[hany] at hA;refine den_of_body follows (fun args w=>Tryz.call16 args w) Tryz.func16 rfl 23 rfl ?_;refine run ?_;refine call hA ?_;refine run ?_;exact fin rfl
 ·rw[if_pos rfl];have hall':=List.all_eq_true.1 hall;have hany:(l.any fun s=> !(lineR s).2)=false:=List.any_eq_false.2 fun s hs=>by rw[hall' s hs]; decide
  rw[hany] at hA;refine ⟨fun args w=>Tryz.call16 args w,fun w F xs hF hlay hx=> ?_⟩;obtain ⟨x,rfl,hx1⟩:=reps1 hx;refine (fmt_walk l (fun s=>(lineR s).1++[10]) (by omega) (fun s hs=> ?_) hA (fun s hs=>den_line L s (hf s hs) ((right_eq s).trans (hall' s hs))) w F x hF hlay hx1).mono ?_
  ·have:=line_len (hall' s hs) (hf s hs);rw[List.length_append,List.length_singleton];omega
  ·rintro e w' ⟨rfl,hb⟩;rw[<- textR_flat];exact ⟨_,F,rfl,ext_below hF hb,rep_t2 (.str _) (.val _)⟩
theorem den_eqStp (a b:List Stp) (ha:a.length<=8388608) (hb:b.length<=8388608):Den Tryz.prog T 21 [stps a,stps b] (vb (decide (a=b))):=by
 have hD:=difM a b;obtain ⟨m,hm⟩:∃m,diffM a b=m:=⟨_,rfl⟩;rw[hm] at hD;refine den_of_body follows (fun args w=>Tryz.call21 args w) Tryz.func21 rfl 26 rfl ?_;by_cases hlen:a.length=b.length
 case neg=>
  have hne:¬a=b:=fun e=>hlen (by rw[e]);have hll:¬((a.length:Nat):Int)=((b.length:Nat):Int):=by omega
  rw[decide_eq_false hne];refine runW (eq_false hll) ?_;exact fin rfl
 have hll:((a.length:Nat):Int)=((b.length:Nat):Int):=by omega
 have hmb:=hD.le;refine runW hll ?_
 refine loop ⟨[0,1,12,13],[],[],[]⟩ (fun k:Nat=>k<=m) (fun k=>m-k)
  (fun k=>⟨26,[(0,.v (stps a)),(1,.v (stps b)),(12,.v (vi b.length)),(13,.v (vi k))],[],[]⟩) 0 (Nat.zero_le _) ?_
 intro k hk;by_cases hlt:k<m
 ·obtain ⟨s,hs,-,-⟩:=drop_at (l:=b) (k:=k) (by omega);have hsa:a[k]? = some s:=(hD.eq k hlt).trans hs;refine runW (And.intro hs hsa) ?_;exact round (k+1) hlt (by omega)
 have hkm:k=m:=by omega
 subst hkm;by_cases hb1:k<b.length
 ·obtain ⟨hn,-⟩:=hD.ne hb1;obtain ⟨s,hs,-,-⟩:=drop_at hb1;obtain ⟨t,ht,-,-⟩:=drop_at (l:=a) (k:=k) (by omega);have hts:t≠s:=fun e=>hn (by rw[ht,hs,e]);have hne:¬a=b:=fun e=>hn (by rw[e]);rw[decide_eq_false hne];refine runW (And.intro ht (And.intro hs (stp_ne hts))) ?_;exact fin rfl
 ·have hkb:k=b.length:=by omega
  have he:a=b:=by
   rcases hD.out hkb with ⟨h1,-⟩ | ⟨-,h2⟩
   ·omega
   ·exact diffS_neg.1 (by rw[h2]; decide)
  rw[decide_eq_true he];subst hkb;refine run ?_;exact fin rfl
def exW:List Stp:=[⟨8,0,5,10,[]⟩,⟨1,1,0,0,[49,46,49]⟩,⟨2,3,0,0,[]⟩,⟨3,3,10,10,[]⟩,⟨4,3,0,10,[]⟩,⟨6,2,0,0,[]⟩,⟨7,7,3,10,[]⟩]
abbrev exWV:V:= .slice 5 [[vi 8,vi 0,vi 5,vi 10,.str []],[vi 1,vi 1,vi 0,vi 0,.str [49,46,49]],[vi 2,vi 3,vi 0,vi 0,.str []],[vi 3,vi 3,vi 10,vi 10,.str []],[vi 4,vi 3,vi 0,vi 10,.str []],[vi 6,vi 2,vi 0,vi 0,.str []],[vi 7,vi 7,vi 3,vi 10,.str []]]
theorem ex_W:stps exW=exWV:=rfl
theorem ex_expl:explS exG exG7 15=exW:=by decide +kernel
theorem ex_form:formR [⟨7,7,3,10,[]⟩]=([118,101,114,100,105,99,116,32,104,111,108,100,32,98,121,32,114,117,108,101,32,51,44,32,100,117,101,32,97,102,116,101,114,32,49,54,48,48,45,48,49,45,49,49,10],0):=by decide +kernel
theorem den_example12:Den Tryz.prog T 40 [] (.tup [.agg exG.cs,exWV]):=by
 refine den_of_body follows (fun args w=>Tryz.call40 args w) Tryz.func40 rfl 30 rfl ?_;refine run ?_;refine finC2 (wk_tups (.cons (wk_aggs ?_ rfl) (.cons (.refl _) .nil)));refine .cons (WkR.wk (.cons ?_ rfl rfl .nil)) (.cons (WkR.wk (.cons ?_ rfl rfl .nil)) (.cons (WkR.wk (.cons ?_ rfl rfl .nil)) (.cons (.refl _) (.cons (.refl _) ?_))))
 all_goals repeat (first | exact .nil | refine .cons (.refl _) ?_ | refine .cons (.nil _) ?_)
set_option maxHeartbeats 2000000 in
theorem den_awake12 (L:LibT T):Den Tryz.prog T 10 [] (vb true):=by
 have LC:=libC L;have c0:=den_example12 (T:=T)
 have c1:Den Tryz.prog T 12 [.agg exG.cs,vi 7,vi 15] (.tup [exWV,vi 0]):=by
  have:=den_Explain (T:=T) LC exG exG_fit 7 15
  rwa [ex_onE,if_pos rfl,ex_fil,ex_expl,ex_W] at this
 have c2:Den Tryz.prog T 19 [.agg exG.cs,vi 7,vi 15,exWV] (.tup [.agg (Vdt.cs ⟨7,7,15,3,10,[2]⟩),vi 0]):=by
  have h1:=den_Check (T:=T) LC exG exG_fit 7 15 exW (by decide)
  have h2:ckdE exG 7 15 exW=0:=by
   unfold ckdE;rw[ex_onE,if_neg (fun h=>h rfl),ex_fil,ex_expl,if_neg (by rw[diffS_same]; decide)]
  have h3:ckdV exG 7 15 exW=⟨7,7,15,3,10,[2]⟩:=by
   unfold ckdV;rw[if_pos h2,<- onV_0 ex_onE,ex_on]
  rwa [h2,h3,ex_W] at h1
 have c3:Den Tryz.prog T 16 [.slice 5 [[vi 7,vi 7,vi 3,vi 10,.str []]]] (.tup [.str [118,101,114,100,105,99,116,32,104,111,108,100,32,98,121,32,114,117,108,101,32,51,44,32,100,117,101,32,97,102,116,101,114,32,49,54,48,48,45,48,49,45,49,49,10],vi 0]):=by
  have:=den_FormatE (T:=T) L [⟨7,7,3,10,[]⟩] (by decide) (by simp)
  rwa [ex_form] at this
 have c4:Den Tryz.prog T 21 [exWV,exWV] (vb true):=by
  have:=den_eqStp (T:=T) exW exW (by decide) (by decide)
  rwa [decide_eq_true (rfl:exW=exW),ex_W] at this
 obtain ⟨r,hr⟩:∃r,exG=r:=⟨_,rfl⟩;rw[hr] at c0 c1 c2;clear hr;refine den_of_body follows (fun args w=>Tryz.call10 args w) Tryz.func10 rfl 54 rfl ?_;refine run ?_;refine call c0 ?_;refine run ?_;refine call c1 ?_;refine run ?_;refine call c2 ?_;refine run ?_;refine call c3 ?_;refine run ?_;refine call c4 ?_;refine run ?_;exact fin rfl
end Go.Arc
set_option maxRecDepth 100000
namespace Go.Arc
open Go.Ab Go.RowKit Go.Proofs
variable {T : Lay}
theorem vdt_day (r:Rgs) (f:Fil) (d:Int):(vdt r f d).day=d:=by
 unfold vdt;simp only
 repeat' split
 all_goals rfl
abbrev explO (r:Rgs) (id d:Int):List Stp:=if onE r id d=0 then explS r (filA r id) d else []
theorem explO_len (r:Rgs) (h:r.Fit) (id d:Int):(explO r id d).length<=8388608:=by
 have hle:=expl_len (r:=r) (f:=filA r id) (d:=d);have h1:=h.rls.1;have h2:=h.hls.1;unfold explO;by_cases h0:onE r id d=0
 ·rw[if_pos h0]; omega
 ·rw[if_neg h0]; exact Nat.zero_le _
end Go.Arc
set_option maxRecDepth 100000
namespace Go.Arc
open Go.Ab Go.RowKit Go.Proofs
variable {T : Lay}
theorem selS_R (r:Rgs) (f:Fil) (d:Int):(selS r f d=none/\selR r f.id d=(0,0,false))\/∃a b,selS r f d=some ⟨5,a,b,0,[]⟩/\selR r f.id d=(a,b,true):=by
 have h:(fun s:Sel=>hasI f.id s.fls && decide (s.day<=d))=fun s=>namedB d f s.day s.fls:=by
  funext s
  unfold namedB hasI;exact Bool.and_comm _ _
 unfold selS selR;rw[h];cases r.sls.find? fun s=>namedB d f s.day s.fls with
 | none=>exact .inl ⟨rfl,rfl⟩
 | some s=>exact .inr ⟨s.smp,s.day,rfl,rfl⟩
abbrev gr112:List Gent:=⟨[ff,ff,ff,ff,ff,ff,ff,ff,ff,ff,ff,ff,ff,ff,ff,ff,ff,ff,ff,ff,ff],21,.one 0 0⟩::⟨[tt,ff,ff,ff,ff,ff,ff,ff,ff,ff,ff,ff,ff,ff,ff,ff,ff,ff,ff,ff,ff],20,.one 1 0⟩::⟨[tt,tt,ff,ff,ff,ff,ff,ff,ff,ff,ff,ff,ff,ff,ff,ff,ff,ff,ff,ff,ff],19,.one 2 0⟩::⟨[tt,tt,tt,ff,ff,ff,ff,ff,ff,ff,ff,ff,ff,ff,ff,ff,ff,ff,ff,ff,ff],18,.one 6 0⟩::⟨[tt,tt,tt,ff,ff,ff,tt,ff,ff,ff,ff,ff,ff,ff,ff,ff,ff,ff,ff,ff,ff],17,.one 8 0⟩::⟨[tt,tt,tt,ff,ff,ff,tt,ff,tt,ff,ff,ff,ff,ff,ff,ff,ff,ff,ff,ff,ff],16,.one 11 0⟩::⟨[tt,tt,tt,ff,ff,ff,tt,ff,tt,ff,ff,tt,ff,ff,ff,ff,ff,ff,ff,ff,ff],15,.one 12 0⟩::⟨[tt,tt,tt,ff,ff,ff,tt,ff,tt,ff,ff,tt,tt,ff,ff,ff,ff,ff,ff,ff,ff],14,.one 16 0⟩::⟨[tt,tt,tt,ff,ff,ff,tt,ff,tt,ff,ff,tt,tt,ff,ff,ff,tt,ff,ff,ff,ff],13,.alt [(3,2),(7,0),(9,1),(13,3)]⟩::⟨[tt,tt,tt,ff,ff,ff,tt,tt,tt,ff,ff,tt,tt,ff,ff,ff,tt,ff,ff,ff,ff],12,.alt [(3,5),(9,3),(13,7)]⟩::⟨[tt,tt,tt,ff,ff,ff,tt,ff,tt,tt,ff,tt,tt,ff,ff,ff,tt,ff,ff,ff,ff],12,.alt [(3,5),(7,2),(13,7)]⟩::⟨[tt,tt,tt,tt,ff,ff,tt,ff,tt,ff,ff,tt,tt,ff,ff,ff,tt,ff,ff,ff,ff],12,.one 4 2⟩::⟨[tt,tt,tt,ff,ff,ff,tt,ff,tt,ff,ff,tt,tt,tt,ff,ff,tt,ff,ff,ff,ff],12,.one 14 6⟩::⟨[tt,tt,tt,ff,ff,ff,tt,tt,tt,tt,ff,tt,tt,ff,ff,ff,tt,ff,ff,ff,ff],11,.alt [(3,11),(13,12)]⟩::⟨[tt,tt,tt,tt,tt,ff,tt,ff,tt,ff,ff,tt,tt,ff,ff,ff,tt,ff,ff,ff,ff],11,.alt [(5,6),(7,8),(9,5),(13,9)]⟩::⟨[tt,tt,tt,tt,ff,ff,tt,tt,tt,ff,ff,tt,tt,ff,ff,ff,tt,ff,ff,ff,ff],11,.one 4 7⟩::⟨[tt,tt,tt,tt,ff,ff,tt,ff,tt,tt,ff,tt,tt,ff,ff,ff,tt,ff,ff,ff,ff],11,.one 4 3⟩::⟨[tt,tt,tt,ff,ff,ff,tt,tt,tt,ff,ff,tt,tt,tt,ff,ff,tt,ff,ff,ff,ff],11,.one 14 4⟩::⟨[tt,tt,tt,ff,ff,ff,tt,ff,tt,tt,ff,tt,tt,tt,ff,ff,tt,ff,ff,ff,ff],11,.one 14 9⟩::⟨[tt,tt,tt,ff,ff,ff,tt,ff,tt,ff,ff,tt,tt,tt,tt,ff,tt,ff,ff,ff,ff],11,.alt [(3,7),(7,2),(9,8),(15,9)]⟩::⟨[tt,tt,tt,tt,tt,ff,tt,ff,tt,tt,ff,tt,tt,ff,ff,ff,tt,ff,ff,ff,ff],10,.alt [(5,11),(7,9),(13,15)]⟩::⟨[tt,tt,tt,tt,tt,tt,tt,ff,tt,ff,ff,tt,tt,ff,ff,ff,tt,ff,ff,ff,ff],10,.alt [(7,9),(9,10),(13,11)]⟩::⟨[tt,tt,tt,ff,ff,ff,tt,tt,tt,ff,ff,tt,tt,tt,tt,ff,tt,ff,ff,ff,ff],10,.alt [(3,11),(9,15),(15,17)]⟩::⟨[tt,tt,tt,tt,tt,ff,tt,tt,tt,ff,ff,tt,tt,ff,ff,ff,tt,ff,ff,ff,ff],10,.alt [(5,7),(9,6),(13,11)]⟩::⟨[tt,tt,tt,tt,tt,ff,tt,ff,tt,ff,ff,tt,tt,tt,ff,ff,tt,ff,ff,ff,ff],10,.one 14 12⟩::⟨[tt,tt,tt,tt,ff,ff,tt,tt,tt,tt,ff,tt,tt,ff,ff,ff,tt,ff,ff,ff,ff],10,.one 4 4⟩::⟨[tt,tt,tt,ff,ff,ff,tt,tt,tt,tt,ff,tt,tt,tt,ff,ff,tt,ff,ff,ff,ff],10,.one 14 11⟩::⟨[tt,tt,tt,tt,ff,ff,tt,ff,tt,ff,ff,tt,tt,tt,tt,ff,tt,ff,ff,ff,ff],10,.one 4 9⟩::⟨[tt,tt,tt,ff,ff,ff,tt,ff,tt,tt,ff,tt,tt,tt,tt,ff,tt,ff,ff,ff,ff],10,.alt [(3,12),(7,9),(15,10)]⟩::⟨[tt,tt,tt,ff,ff,ff,tt,ff,tt,ff,ff,tt,tt,tt,tt,tt,tt,ff,ff,ff,ff],10,.alt [(3,12),(7,10),(9,9),(17,13)]⟩::⟨[tt,tt,tt,tt,tt,ff,tt,tt,tt,tt,ff,tt,tt,ff,ff,ff,tt,ff,ff,ff,ff],9,.alt [(5,15),(13,18)]⟩::⟨[tt,tt,tt,tt,tt,tt,tt,tt,tt,ff,ff,tt,tt,ff,ff,ff,tt,ff,ff,ff,ff],9,.alt [(9,14),(13,12)]⟩::⟨[tt,tt,tt,tt,tt,tt,tt,ff,tt,tt,ff,tt,tt,ff,ff,ff,tt,ff,ff,ff,ff],9,.alt [(7,13),(13,14)]⟩::⟨[tt,tt,tt,tt,tt,tt,tt,ff,tt,ff,ff,tt,tt,tt,ff,ff,tt,ff,ff,ff,ff],9,.one 14 14⟩::⟨[tt,tt,tt,tt,ff,ff,tt,tt,tt,ff,ff,tt,tt,tt,tt,ff,tt,ff,ff,ff,ff],9,.one 4 15⟩::⟨[tt,tt,tt,tt,tt,ff,tt,tt,tt,ff,ff,tt,tt,tt,ff,ff,tt,ff,ff,ff,ff],9,.one 14 14⟩::⟨[tt,tt,tt,tt,tt,ff,tt,ff,tt,tt,ff,tt,tt,tt,ff,ff,tt,ff,ff,ff,ff],9,.one 14 14⟩::⟨[tt,tt,tt,tt,tt,ff,tt,ff,tt,ff,ff,tt,tt,tt,tt,ff,tt,ff,ff,ff,ff],9,.alt [(5,10),(7,12),(9,13),(15,14)]⟩::⟨[tt,tt,tt,ff,ff,ff,tt,tt,tt,tt,ff,tt,tt,tt,tt,ff,tt,ff,ff,ff,ff],9,.alt [(3,6),(15,15)]⟩::⟨[tt,tt,tt,ff,ff,ff,tt,ff,tt,tt,ff,tt,tt,tt,tt,tt,tt,ff,ff,ff,ff],9,.alt [(3,17),(7,14),(17,16)]⟩::⟨[tt,tt,tt,ff,ff,ff,tt,tt,tt,ff,ff,tt,tt,tt,tt,tt,tt,ff,ff,ff,ff],9,.alt [(3,14),(9,13),(17,12)]⟩::⟨[tt,tt,tt,tt,ff,ff,tt,ff,tt,tt,ff,tt,tt,tt,tt,ff,tt,ff,ff,ff,ff],9,.one 4 9⟩::⟨[tt,tt,tt,tt,ff,ff,tt,ff,tt,ff,ff,tt,tt,tt,tt,tt,tt,ff,ff,ff,ff],9,.one 4 9⟩::⟨[tt,tt,tt,ff,ff,ff,tt,ff,tt,ff,ff,tt,tt,tt,tt,tt,tt,tt,ff,ff,ff],9,.alt [(3,14),(7,9),(9,12)]⟩::⟨[tt,tt,tt,tt,tt,tt,tt,tt,tt,ff,ff,tt,tt,tt,ff,ff,tt,ff,ff,ff,ff],8,.one 14 17⟩::⟨[tt,tt,tt,tt,ff,ff,tt,tt,tt,tt,ff,tt,tt,tt,tt,ff,tt,ff,ff,ff,ff],8,.one 4 19⟩::⟨[tt,tt,tt,tt,tt,tt,tt,tt,tt,tt,ff,tt,tt,ff,ff,ff,tt,ff,ff,ff,ff],8,.alt [(10,13),(13,14)]⟩::⟨[tt,tt,tt,tt,tt,tt,tt,ff,tt,tt,ff,tt,tt,tt,ff,ff,tt,ff,ff,ff,ff],8,.one 14 15⟩::⟨[tt,tt,tt,tt,tt,tt,tt,ff,tt,ff,ff,tt,tt,tt,tt,ff,tt,ff,ff,ff,ff],8,.alt [(7,13),(9,14),(15,15)]⟩::⟨[tt,tt,tt,tt,tt,ff,tt,tt,tt,tt,ff,tt,tt,tt,ff,ff,tt,ff,ff,ff,ff],8,.one 14 15⟩::⟨[tt,tt,tt,tt,tt,ff,tt,tt,tt,ff,ff,tt,tt,tt,tt,ff,tt,ff,ff,ff,ff],8,.alt [(5,11),(9,14),(15,15)]⟩::⟨[tt,tt,tt,tt,tt,ff,tt,ff,tt,tt,ff,tt,tt,tt,tt,ff,tt,ff,ff,ff,ff],8,.alt [(5,11),(7,13),(15,15)]⟩::⟨[tt,tt,tt,tt,tt,ff,tt,ff,tt,ff,ff,tt,tt,tt,tt,tt,tt,ff,ff,ff,ff],8,.alt [(5,11),(7,13),(9,14),(17,16)]⟩::⟨[tt,tt,tt,ff,ff,ff,tt,tt,tt,ff,ff,tt,tt,tt,tt,tt,tt,tt,ff,ff,ff],8,.alt [(3,14),(9,16)]⟩::⟨[tt,tt,tt,ff,ff,ff,tt,tt,tt,tt,ff,tt,tt,tt,tt,tt,tt,ff,ff,ff,ff],8,.alt [(3,4),(17,15)]⟩::⟨[tt,tt,tt,tt,ff,ff,tt,tt,tt,ff,ff,tt,tt,tt,tt,tt,tt,ff,ff,ff,ff],8,.one 4 10⟩::⟨[tt,tt,tt,ff,ff,ff,tt,ff,tt,tt,ff,tt,tt,tt,tt,tt,tt,tt,ff,ff,ff],8,.alt [(3,14),(7,13)]⟩::⟨[tt,tt,tt,tt,ff,ff,tt,ff,tt,tt,ff,tt,tt,tt,tt,tt,tt,ff,ff,ff,ff],8,.one 4 9⟩::⟨[tt,tt,tt,tt,ff,ff,tt,ff,tt,ff,ff,tt,tt,tt,tt,tt,tt,tt,ff,ff,ff],8,.one 4 10⟩::⟨[tt,tt,tt,tt,ff,ff,tt,tt,tt,tt,ff,tt,tt,tt,tt,tt,tt,ff,ff,ff,ff],7,.one 4 18⟩::⟨[tt,tt,tt,tt,tt,tt,tt,tt,tt,tt,tt,tt,tt,ff,ff,ff,tt,ff,ff,ff,ff],7,.alt [(13,12)]⟩::⟨[tt,tt,tt,tt,tt,tt,tt,tt,tt,tt,ff,tt,tt,tt,ff,ff,tt,ff,ff,ff,ff],7,.one 14 12⟩::⟨[tt,tt,tt,tt,tt,tt,tt,tt,tt,ff,ff,tt,tt,tt,tt,ff,tt,ff,ff,ff,ff],7,.alt [(9,11),(15,12)]⟩::⟨[tt,tt,tt,tt,tt,tt,tt,ff,tt,tt,ff,tt,tt,tt,tt,ff,tt,ff,ff,ff,ff],7,.alt [(7,10),(15,12)]⟩::⟨[tt,tt,tt,tt,tt,tt,tt,ff,tt,ff,ff,tt,tt,tt,tt,tt,tt,ff,ff,ff,ff],7,.alt [(7,10),(9,11),(17,12)]⟩::⟨[tt,tt,tt,tt,tt,ff,tt,tt,tt,tt,ff,tt,tt,tt,tt,ff,tt,ff,ff,ff,ff],7,.alt [(5,8),(15,12)]⟩::⟨[tt,tt,tt,tt,tt,ff,tt,tt,tt,ff,ff,tt,tt,tt,tt,tt,tt,ff,ff,ff,ff],7,.alt [(5,8),(9,11),(17,13)]⟩::⟨[tt,tt,tt,tt,tt,ff,tt,ff,tt,tt,ff,tt,tt,tt,tt,tt,tt,ff,ff,ff,ff],7,.alt [(5,8),(7,10),(17,4)]⟩::⟨[tt,tt,tt,tt,ff,ff,tt,tt,tt,ff,ff,tt,tt,tt,tt,tt,tt,tt,ff,ff,ff],7,.one 4 11⟩::⟨[tt,tt,tt,tt,tt,ff,tt,ff,tt,ff,ff,tt,tt,tt,tt,tt,tt,tt,ff,ff,ff],7,.alt [(5,7),(7,10),(9,2)]⟩::⟨[tt,tt,tt,ff,ff,ff,tt,tt,tt,tt,ff,tt,tt,tt,tt,tt,tt,tt,ff,ff,ff],7,.alt [(3,8)]⟩::⟨[tt,tt,tt,tt,ff,ff,tt,ff,tt,tt,ff,tt,tt,tt,tt,tt,tt,tt,ff,ff,ff],7,.one 4 0⟩::⟨[tt,tt,tt,tt,tt,ff,tt,ff,tt,tt,ff,tt,tt,tt,tt,tt,tt,tt,ff,ff,ff],6,.alt [(5,12),(7,8)]⟩::⟨[tt,tt,tt,tt,tt,tt,tt,tt,tt,tt,tt,tt,tt,tt,ff,ff,tt,ff,ff,ff,ff],6,.one 14 8⟩::⟨[tt,tt,tt,tt,tt,tt,tt,tt,tt,tt,ff,tt,tt,tt,tt,ff,tt,ff,ff,ff,ff],6,.alt [(10,7),(15,8)]⟩::⟨[tt,tt,tt,tt,tt,tt,tt,tt,tt,ff,ff,tt,tt,tt,tt,tt,tt,ff,ff,ff,ff],6,.alt [(9,7),(17,8)]⟩::⟨[tt,tt,tt,tt,tt,tt,tt,ff,tt,tt,ff,tt,tt,tt,tt,tt,tt,ff,ff,ff,ff],6,.alt [(7,6),(17,8)]⟩::⟨[tt,tt,tt,tt,tt,tt,tt,ff,tt,ff,ff,tt,tt,tt,tt,tt,tt,tt,ff,ff,ff],6,.alt [(7,6),(9,7)]⟩::⟨[tt,tt,tt,tt,tt,ff,tt,tt,tt,tt,ff,tt,tt,tt,tt,tt,tt,ff,ff,ff,ff],6,.alt [(5,4),(17,2)]⟩::⟨[tt,tt,tt,tt,ff,ff,tt,tt,tt,tt,ff,tt,tt,tt,tt,tt,tt,tt,ff,ff,ff],6,.one 4 1⟩::⟨[tt,tt,tt,tt,tt,ff,tt,tt,tt,ff,ff,tt,tt,tt,tt,tt,tt,tt,ff,ff,ff],6,.alt [(5,3),(9,0)]⟩::⟨[tt,tt,tt,tt,tt,ff,tt,tt,tt,tt,ff,tt,tt,tt,tt,tt,tt,tt,ff,ff,ff],5,.alt [(5,5)]⟩::⟨[tt,tt,tt,tt,tt,tt,tt,tt,tt,tt,tt,tt,tt,tt,tt,ff,tt,ff,ff,ff,ff],5,.alt [(15,3)]⟩::⟨[tt,tt,tt,tt,tt,tt,tt,tt,tt,tt,ff,tt,tt,tt,tt,tt,tt,ff,ff,ff,ff],5,.alt [(10,2),(17,3)]⟩::⟨[tt,tt,tt,tt,tt,tt,tt,tt,tt,ff,ff,tt,tt,tt,tt,tt,tt,tt,ff,ff,ff],5,.alt [(9,2)]⟩::⟨[tt,tt,tt,tt,tt,tt,tt,ff,tt,tt,ff,tt,tt,tt,tt,tt,tt,tt,ff,ff,ff],5,.alt [(7,1)]⟩::⟨[tt,tt,tt,tt,tt,tt,tt,tt,tt,tt,tt,tt,tt,tt,tt,tt,tt,ff,ff,ff,ff],4,.alt [(17,1)]⟩::⟨[tt,tt,tt,tt,tt,tt,tt,tt,tt,tt,ff,tt,tt,tt,tt,tt,tt,tt,ff,ff,ff],4,.alt [(10,0)]⟩::⟨[tt,tt,tt,tt,tt,tt,tt,tt,tt,tt,tt,tt,tt,tt,tt,tt,tt,tt,ff,ff,ff],3,.alt [(18,0)]⟩::⟨[tt,tt,tt,tt,tt,tt,tt,tt,tt,tt,tt,tt,tt,tt,tt,tt,tt,tt,tt,ff,ff],2,.alt [(19,0)]⟩::⟨[tt,tt,tt,tt,tt,tt,tt,tt,tt,tt,tt,tt,tt,tt,tt,tt,tt,tt,tt,tt,ff],1,.alt [(20,0)]⟩::⟨[tt,tt,tt,tt,tt,tt,tt,tt,tt,tt,tt,tt,tt,tt,tt,tt,tt,tt,tt,tt,tt],0,.fin⟩::[]
abbrev gr18:List Gent:=⟨[ff,ff,ff,ff,ff,ff,ff,ff,ff,ff,ff,ff,ff,ff,ff],15,.one 1 0⟩::⟨[ff,tt,ff,ff,ff,ff,ff,ff,ff,ff,ff,ff,ff,ff,ff],14,.one 2 0⟩::⟨[ff,tt,tt,ff,ff,ff,ff,ff,ff,ff,ff,ff,ff,ff,ff],13,.one 6 0⟩::⟨[ff,tt,tt,ff,ff,ff,tt,ff,ff,ff,ff,ff,ff,ff,ff],12,.alt [(0,0),(3,2),(7,1),(12,3)]⟩::⟨[tt,tt,tt,ff,ff,ff,tt,ff,ff,ff,ff,ff,ff,ff,ff],11,.alt [(3,4),(7,5),(12,7)]⟩::⟨[ff,tt,tt,ff,ff,ff,tt,tt,ff,ff,ff,ff,ff,ff,ff],11,.alt [(0,4),(3,7),(12,5)]⟩::⟨[ff,tt,tt,tt,ff,ff,tt,ff,ff,ff,ff,ff,ff,ff,ff],11,.one 4 1⟩::⟨[ff,tt,tt,ff,ff,ff,tt,ff,ff,ff,ff,ff,tt,ff,ff],11,.alt [(0,4),(3,6),(7,3)]⟩::⟨[ff,tt,tt,tt,tt,ff,tt,ff,ff,ff,ff,ff,ff,ff,ff],10,.alt [(0,7),(5,11),(7,9),(12,12)]⟩::⟨[tt,tt,tt,tt,ff,ff,tt,ff,ff,ff,ff,ff,ff,ff,ff],10,.one 4 6⟩::⟨[tt,tt,tt,ff,ff,ff,tt,tt,ff,ff,ff,ff,ff,ff,ff],10,.alt [(3,6),(12,4)]⟩::⟨[ff,tt,tt,ff,ff,ff,tt,tt,ff,ff,ff,ff,tt,ff,ff],10,.alt [(0,3),(3,10)]⟩::⟨[tt,tt,tt,ff,ff,ff,tt,ff,ff,ff,ff,ff,tt,ff,ff],10,.alt [(3,6),(7,2)]⟩::⟨[ff,tt,tt,tt,ff,ff,tt,tt,ff,ff,ff,ff,ff,ff,ff],10,.one 4 4⟩::⟨[ff,tt,tt,tt,ff,ff,tt,ff,ff,ff,ff,ff,tt,ff,ff],10,.one 4 6⟩::⟨[tt,tt,tt,ff,ff,ff,tt,tt,ff,ff,ff,ff,tt,ff,ff],9,.alt [(3,11)]⟩::⟨[tt,tt,tt,tt,tt,ff,tt,ff,ff,ff,ff,ff,ff,ff,ff],9,.alt [(5,6),(7,8),(12,9)]⟩::⟨[tt,tt,tt,tt,ff,ff,tt,tt,ff,ff,ff,ff,ff,ff,ff],9,.one 4 7⟩::⟨[ff,tt,tt,tt,tt,ff,tt,tt,ff,ff,ff,ff,ff,ff,ff],9,.alt [(0,6),(5,9),(12,5)]⟩::⟨[tt,tt,tt,tt,ff,ff,tt,ff,ff,ff,ff,ff,tt,ff,ff],9,.one 4 6⟩::⟨[ff,tt,tt,tt,tt,tt,tt,ff,ff,ff,ff,ff,ff,ff,ff],9,.alt [(0,2),(7,7),(12,8)]⟩::⟨[ff,tt,tt,tt,tt,ff,tt,ff,ff,ff,ff,ff,tt,ff,ff],9,.alt [(0,4),(5,7),(7,2)]⟩::⟨[ff,tt,tt,tt,ff,ff,tt,tt,ff,ff,ff,ff,tt,ff,ff],9,.one 4 1⟩::⟨[tt,tt,tt,tt,tt,tt,tt,ff,ff,ff,ff,ff,ff,ff,ff],8,.alt [(7,7),(12,6)]⟩::⟨[ff,tt,tt,tt,tt,ff,tt,tt,ff,ff,ff,ff,tt,ff,ff],8,.alt [(0,7),(5,8)]⟩::⟨[tt,tt,tt,tt,tt,ff,tt,tt,ff,ff,ff,ff,ff,ff,ff],8,.alt [(5,5),(12,6)]⟩::⟨[tt,tt,tt,tt,tt,ff,tt,ff,ff,ff,ff,ff,tt,ff,ff],8,.alt [(5,3),(7,5)]⟩::⟨[tt,tt,tt,tt,ff,ff,tt,tt,ff,ff,ff,ff,tt,ff,ff],8,.one 4 4⟩::⟨[ff,tt,tt,tt,tt,tt,tt,tt,ff,ff,ff,ff,ff,ff,ff],8,.alt [(0,2),(12,4)]⟩::⟨[ff,tt,tt,tt,tt,tt,tt,ff,ff,ff,ff,ff,tt,ff,ff],8,.alt [(0,0),(7,3)]⟩::⟨[tt,tt,tt,tt,tt,tt,tt,ff,ff,ff,ff,ff,tt,ff,ff],7,.alt [(7,3)]⟩::⟨[tt,tt,tt,tt,tt,tt,tt,tt,ff,ff,ff,ff,ff,ff,ff],7,.alt [(8,3),(12,2)]⟩::⟨[tt,tt,tt,tt,tt,ff,tt,tt,ff,ff,ff,ff,tt,ff,ff],7,.alt [(5,1)]⟩::⟨[ff,tt,tt,tt,tt,tt,tt,tt,ff,ff,ff,ff,tt,ff,ff],7,.alt [(0,0)]⟩::⟨[tt,tt,tt,tt,tt,tt,tt,tt,ff,ff,ff,ff,tt,ff,ff],6,.alt [(8,2)]⟩::⟨[tt,tt,tt,tt,tt,tt,tt,tt,tt,ff,ff,ff,ff,ff,ff],6,.one 9 0⟩::⟨[tt,tt,tt,tt,tt,tt,tt,tt,tt,tt,ff,ff,ff,ff,ff],5,.alt [(10,1),(11,3),(12,2)]⟩::⟨[tt,tt,tt,tt,tt,tt,tt,tt,tt,ff,ff,ff,tt,ff,ff],5,.one 9 1⟩::⟨[tt,tt,tt,tt,tt,tt,tt,tt,tt,tt,tt,ff,ff,ff,ff],4,.alt [(11,2),(12,4)]⟩::⟨[tt,tt,tt,tt,tt,tt,tt,tt,tt,tt,ff,ff,tt,ff,ff],4,.alt [(10,3),(11,2)]⟩::⟨[tt,tt,tt,tt,tt,tt,tt,tt,tt,tt,ff,tt,ff,ff,ff],4,.alt [(10,0),(12,1)]⟩::⟨[tt,tt,tt,tt,tt,tt,tt,tt,tt,tt,tt,tt,ff,ff,ff],3,.alt [(12,2)]⟩::⟨[tt,tt,tt,tt,tt,tt,tt,tt,tt,tt,ff,tt,tt,ff,ff],3,.alt [(10,1)]⟩::⟨[tt,tt,tt,tt,tt,tt,tt,tt,tt,tt,tt,ff,tt,ff,ff],3,.alt [(11,0),(13,1)]⟩::⟨[tt,tt,tt,tt,tt,tt,tt,tt,tt,tt,tt,tt,tt,ff,ff],2,.alt [(13,1)]⟩::⟨[tt,tt,tt,tt,tt,tt,tt,tt,tt,tt,tt,ff,tt,tt,ff],2,.alt [(11,0)]⟩::⟨[tt,tt,tt,tt,tt,tt,tt,tt,tt,tt,tt,tt,tt,tt,ff],1,.alt [(14,0)]⟩::⟨[tt,tt,tt,tt,tt,tt,tt,tt,tt,tt,tt,tt,tt,tt,tt],0,.fin⟩::[]
set_option maxHeartbeats 8000000 in
theorem den_explain12 (L:LibC T) (r:Rgs) (f:Fil) (d:Int) (v:Vdt) (hr:r.Fit) (hf:f.Fit) (hok:OkG r) (hvd:v.day=d) (hv:v.hls.length<=1048576):
  Den Tryz.prog T 50 [.agg r.cs,.agg f.cs,.agg v.cs] (stps (refX r f d v)):=by
 have hcl:=hr.crs.1;have hdl:=hr.dps;have hrl:=hr.rls.1;have hG:=den_Gone (T:=T) r hr f.id r.crs.length r.dps.length (Nat.le_refl _) (Nat.le_refl _);have hE:=den_end12 (T:=T) v;have hC:=den_class12 (T:=T) r f d hr hf (goodL_of hok);have hR:=den_RulesRef L r f d hr hf hok.goodR (goodL_of hok);have hS:=den_Selected (T:=T) r hr f.id d;have hlen:=rulesF_len r f d;have hmem:∀q∈rulesF r f d,q∈r.rls:=fun q h=>rulesF_mem h;unfold refX;obtain ⟨g,hg⟩:∃g,goneR r f.id r.crs.length r.dps.length=g:=⟨_,rfl⟩;rw[show goneF r f=g from hg];rw[hg] at hG;obtain ⟨E,hEe⟩:∃E,endS v=E:=⟨_,rfl⟩;obtain ⟨c,hc⟩:∃c,clsS r f d=c:=⟨_,rfl⟩;obtain ⟨rs,hrs⟩:∃rs,rulesF r f d=rs:=⟨_,rfl⟩;rw[hEe] at hE ⊢;rw[hc] at hC ⊢;rw[hrs] at hR hlen hmem ⊢;obtain ⟨vk,vf,vd,vr,vu,vh⟩:=v;simp only at hvd hv ⊢;subst hvd;have htl:=timS_len (f:=f) (d:=vd) rs;refine den_of_body follows (fun args w=>Tryz.call50 args w) Tryz.func50 rfl 210 rfl ?_;by_cases ho:vd<f.opn
 ·rw[if_pos ho];refine runW (eq_true ho) ?_;refine call hE ?_;refine run ?_;exact fin rfl
 rw[if_neg ho];by_cases hk12:vk=1\/vk=2
 ·rw[if_pos hk12];rcases hk12 with rfl | rfl
  ·refine runW (eq_false ho) ?_;refine call hG ?_;refine run ?_;refine call hE ?_;refine run ?_;exact fin rfl
  ·refine runW (eq_false ho) ?_;refine call hG ?_;refine run ?_;refine call hE ?_;refine run ?_;exact fin rfl
 rw[if_neg hk12];have k1:¬vk=1:=fun e=>hk12 (.inl e);have k2:¬vk=2:=fun e=>hk12 (.inr e);refine runD (And.intro (eq_false ho) (And.intro (eq_false k1) (eq_false k2))) ?_;refine aw_graph (⟨[ff,ff,ff,ff,ff,ff,ff,ff],8,.one 3 0⟩::⟨[ff,ff,ff,tt,ff,ff,ff,ff],7,.alt [(0,1),(1,0),(2,2),(4,3)]⟩::⟨[ff,tt,ff,tt,ff,ff,ff,ff],6,.alt [(0,4),(2,8),(4,3)]⟩::⟨[tt,ff,ff,tt,ff,ff,ff,ff],6,.alt [(1,3),(2,4),(4,5)]⟩::⟨[ff,ff,tt,tt,ff,ff,ff,ff],6,.alt [(0,3),(1,6),(4,5)]⟩::⟨[ff,ff,ff,tt,tt,ff,ff,ff],6,.alt [(0,3),(1,0),(2,4)]⟩::⟨[ff,tt,ff,tt,tt,ff,ff,ff],5,.alt [(0,7),(2,5)]⟩::⟨[tt,tt,ff,tt,ff,ff,ff,ff],5,.alt [(2,5),(4,6)]⟩::⟨[tt,ff,tt,tt,ff,ff,ff,ff],5,.alt [(1,4),(4,6)]⟩::⟨[tt,ff,ff,tt,tt,ff,ff,ff],5,.alt [(1,4),(2,5)]⟩::⟨[ff,ff,tt,tt,tt,ff,ff,ff],5,.alt [(0,4),(1,1)]⟩::⟨[ff,tt,tt,tt,ff,ff,ff,ff],5,.alt [(0,1),(4,0)]⟩::⟨[ff,tt,tt,tt,tt,ff,ff,ff],4,.alt [(0,4),(5,3)]⟩::⟨[tt,tt,tt,tt,ff,ff,ff,ff],4,.alt [(4,3)]⟩::⟨[tt,tt,ff,tt,tt,ff,ff,ff],4,.alt [(2,2)]⟩::⟨[tt,ff,tt,tt,tt,ff,ff,ff],4,.alt [(1,1)]⟩::⟨[ff,tt,tt,tt,tt,tt,ff,ff],3,.alt [(0,1)]⟩::⟨[tt,tt,tt,tt,tt,ff,ff,ff],3,.alt [(5,0)]⟩::⟨[tt,tt,tt,tt,tt,tt,ff,ff],2,.alt [(6,0)]⟩::⟨[tt,tt,tt,tt,tt,tt,tt,ff],1,.alt [(7,0)]⟩::⟨[tt,tt,tt,tt,tt,tt,tt,tt],0,.fin⟩::[]) ?_
 refine graph_to (fun _:Unit=>True) ⟨[3,4,5,10],[3,4,5],[10],[]⟩ (fun _=>⟨210,[(3,.p 3 0),(4,.p 4 0),(5,.p 5 0),(10,.v (stps [openS f,c]))],[(3,.var r.cs),(4,.var f.cs),(5,.var (Vdt.cs ⟨vk,vf,vd,vr,vu,vh⟩))],[(54,[10])]⟩)
  (fun st st' hk h=>aw_keep _ hk h) (fun _ _=> ?cont) (fun K' hK=> ?gr)
 case gr=>
  refine runGraph True.intro ?_
  repeat' (with_reducible refine And.intro ?_ ?_)
  all_goals
   refine call hC ?_;refine runGraph True.intro ?_
   repeat' (with_reducible refine And.intro ?_ ?_)
   all_goals exact leafK hK () trivial
 refine run ?_;refine callO hR ?_;refine run ?_;obtain ⟨g1,hg1⟩:∃g1:Nat->List Stp,∀k,g1 k=openS f::c::(rs.take k).map ruleS:=⟨_,fun _=>rfl⟩
 refine loop ⟨[3,4,5,10,11,12],[3,4,5],[10],[]⟩ (fun k:Nat=>k<=rs.length) (fun k=>rs.length-k)
  (fun k=>⟨210,[(3,.p 3 0),(4,.p 4 0),(5,.p 5 0),(10,.v (stps (g1 k))),(11,.v (ruls rs)),(12,.v (vi k))],[(3,.var r.cs),(4,.var f.cs),(5,.var (Vdt.cs ⟨vk,vf,vd,vr,vu,vh⟩))],[(54,[10])]⟩) 0 (Nat.zero_le _) ?_ (by rw[hg1]; rfl)
 intro k hk;have hgl:(g1 k).length<=3000000:=by rw[hg1]; simp only[List.length_cons,List.length_map,List.length_take]; omega
 by_cases hlt:k<rs.length
 ·obtain ⟨q,hx,-,hm⟩:=drop_at hlt;have hts:(g1 k).map Stp.cs++[[vi 2,vi q.id,vi 0,vi 0,.str []]]=(g1 (k+1)).map Stp.cs:=by rw[hg1,hg1,take_snocR hx]; simp[ruleS]
  refine runW (And.intro hx hts) ?_;exact round (k+1) hlt (by omega)
 have hkl:k=rs.length:=by omega
 subst hkl;rw[hg1,List.take_length] at hgl ⊢;obtain ⟨A,hA⟩:∃A,openS f::c::rs.map ruleS=A:=⟨_,rfl⟩;have hrw:∀B:List Stp,openS f::c::(rs.map ruleS++B)=A++B:=fun B=>by rw[<- hA]; rfl
 rw[hA] at hgl ⊢;rw[hrw];have hapE:∀B:List Stp,B.map Stp.cs++[E.cs]=(B++[E]).map Stp.cs:=fun B=>by simp
 by_cases hk0:vk=0\/vk=3\/vk=4
 ·rw[if_pos hk0];rcases hk0 with rfl | rfl | rfl
  all_goals
   refine run ?_;refine call hE ?_;refine runW (hapE A) ?_;exact fin rfl
 rw[if_neg hk0];have k0:¬vk=0:=fun e=>hk0 (.inl e);have k3:¬vk=3:=fun e=>hk0 (.inr (.inl e));have k4:¬vk=4:=fun e=>hk0 (.inr (.inr e));refine runW (And.intro (eq_false k0) (And.intro (eq_false k3) (eq_false k4))) ?_;obtain ⟨g2,hg2⟩:∃g2:Nat->List Stp,∀k,g2 k=A++timS f vd (rs.take k):=⟨_,fun _=>rfl⟩
 refine loop ⟨[3,4,5,10,11,13],[3,4,5],[10],[]⟩ (fun k:Nat=>k<=rs.length/\∀q∈rs.take k,waitB f vd q=false) (fun k=>rs.length-k)
  (fun k=>⟨210,[(3,.p 3 0),(4,.p 4 0),(5,.p 5 0),(10,.v (stps (g2 k))),(11,.v (ruls rs)),(13,.v (vi k))],[(3,.var r.cs),(4,.var f.cs),(5,.var (Vdt.cs ⟨vk,vf,vd,vr,vu,vh⟩))],[(54,[10])]⟩) 0 ⟨Nat.zero_le _,by simp⟩ ?_ (by rw[hg2]; simp only[List.take_zero,timS,List.append_nil]; rfl)
 rintro k ⟨hk,hall⟩
 have hgl2:(g2 k).length<=8000000:=by
  have:=timS_len (f:=f) (d:=vd) (rs.take k);rw[hg2,List.length_append];rw[List.length_take] at this;omega
 by_cases hlt:k<rs.length
 ·obtain ⟨q,hx,-,hm⟩:=drop_at hlt;have hqf:=hr.rls.2 q (hmem q hm);have hTr:=den_TriggerRef (T:=T) f q.trg vd hf;cases ht:trig f q.trg vd with
  | none=>
   have hstop:=timS_stop hx hall ht;have hany:rs.any (waitB f vd)=true:=List.any_eq_true.2 ⟨q,hm,by unfold waitB; rw[ht]; rfl⟩;rw[trigV,ht] at hTr;rw[if_pos hany,hstop,<- List.append_assoc,<- hg2];refine runD hx ?_;refine aw_graph gr18 ?_;refine graph_to (fun _:Unit=>True) ⟨[3,4,5,10,11,13,15],[3,4,5],[10],[]⟩ (fun _=>⟨210,[(3,.p 3 0),(4,.p 4 0),(5,.p 5 0),(10,.v (stps (g2 k))),(11,.v (ruls rs)),(13,.v (vi k)),(15,.v (vb false))],[(3,.var r.cs),(4,.var f.cs),(5,.var (Vdt.cs ⟨vk,vf,vd,vr,vu,vh⟩))],[(54,[10])]⟩) (fun st st' hk h=>aw_keep _ hk h) (fun _ _=> ?cont2) (fun K' hK=> ?gr2)
   case gr2=>
    refine runGraph hx ?_
    repeat' (with_reducible refine And.intro ?_ ?_)
    all_goals
     refine call hTr ?_;refine runGraph hx ?_
     repeat' (with_reducible refine And.intro ?_ ?_)
     all_goals exact leafK hK () trivial
   refine run ?_;refine call hE ?_;refine runW (hapE (g2 k)) ?_;exact fin rfl
  | some t=>
   obtain ⟨a,b⟩:=t;have hsn:=timS_snoc hx hall ht
   obtain ⟨z,e,hdz,hz⟩:∃z e,dueV q a b= .tup [vi z,vi e]/\dueS q (a,b)=⟨4,q.id,0,z,[]⟩:=by
    unfold dueV dueS;cases dueR q a b with
    | none=>exact ⟨_,_,rfl,rfl⟩
    | some z=>exact ⟨_,_,rfl,rfl⟩
   rw[hz] at hsn;have hts:(g2 k).map Stp.cs++[[vi 3,vi q.id,vi a,vi b,.str []],[vi 4,vi q.id,vi 0,vi z,.str []]]=(g2 (k+1)).map Stp.cs:=by rw[hg2,hg2,hsn]; simp[trgS]
   rw[trigV,ht] at hTr;refine runD hx ?_;refine aw_graph gr18 ?_;refine graph_to (fun _:Unit=>True) ⟨[3,4,5,10,11,13,14,15],[3,4,5,14],[10],[]⟩ (fun _=>⟨210,[(3,.p 3 0),(4,.p 4 0),(5,.p 5 0),(10,.v (stps (g2 k))),(11,.v (ruls rs)),(13,.v (vi k)),(14,.p 14 0),(15,.v (vb true))],[(3,.var r.cs),(4,.var f.cs),(5,.var (Vdt.cs ⟨vk,vf,vd,vr,vu,vh⟩)),(14,.var [vi a,vi b])],[(54,[10])]⟩) (fun st st' hk h=>aw_keep _ hk h) (fun _ _=> ?cont3) (fun K' hK=> ?gr3)
   case gr3=>
    refine runGraph hx ?_
    repeat' (with_reducible refine And.intro ?_ ?_)
    all_goals
     refine call hTr ?_;refine runGraph hx ?_
     repeat' (with_reducible refine And.intro ?_ ?_)
     all_goals exact leafK hK () trivial
   refine runW hx ?_;refine call (den_DueRef q a b hqf) ?_;rw[hdz];refine runD hx ?_;refine aw_graph gr112 ?_;refine graph_to (fun _:Unit=>True) ⟨[3,4,5,10,11,13],[3,4,5],[10],[]⟩ (fun _=>⟨210,[(3,.p 3 0),(4,.p 4 0),(5,.p 5 0),(10,.v (stps (g2 (k+1)))),(11,.v (ruls rs)),(13,.v (vi k))],[(3,.var r.cs),(4,.var f.cs),(5,.var (Vdt.cs ⟨vk,vf,vd,vr,vu,vh⟩))],[(54,[10])]⟩) (fun st st' hk h=>aw_keep _ hk h) (fun _ _=> ?_) (fun K' hK=> ?_)
   ·refine run ?_;exact round (k+1) ⟨hlt,take_snoc hall hx (by unfold waitB; rw[ht]; rfl)⟩ (by omega)
   ·refine runGraph (And.intro hx hts) ?_
    repeat' (with_reducible refine And.intro ?_ ?_)
    all_goals exact leafK hK () trivial
 have hkl:k=rs.length:=by omega
 subst hkl;rw[List.take_length] at hall
 have hany:¬rs.any (waitB f vd)=true:=fun e=>by
  obtain ⟨q,hq,hw⟩:=List.any_eq_true.1 e;rw[hall q hq] at hw;cases hw
 rw[if_neg hany];rw[hg2,List.take_length] at hgl2 ⊢;obtain ⟨B,hB⟩:∃B,A++timS f vd rs=B:=⟨_,rfl⟩;have hrw2:∀Z:List Stp,A++(timS f vd rs++Z)=B++Z:=fun Z=>by rw[<- hB,List.append_assoc]
 rw[hrw2];rw[hB] at hgl2 ⊢;obtain ⟨g3,hg3⟩:∃g3:Nat->List Stp,∀k,g3 k=B++(vh.take k).map hldS:=⟨_,fun _=>rfl⟩;refine run ?_
 refine loop ⟨[3,4,5,10,18],[3,4,5],[10],[]⟩ (fun k:Nat=>k<=vh.length) (fun k=>vh.length-k)
  (fun k=>⟨210,[(3,.p 3 0),(4,.p 4 0),(5,.p 5 0),(10,.v (stps (g3 k))),(18,.v (vi k))],[(3,.var r.cs),(4,.var f.cs),(5,.var (Vdt.cs ⟨vk,vf,vd,vr,vu,vh⟩))],[(54,[10])]⟩) 0 (Nat.zero_le _) ?_ (by rw[hg3]; simp only[List.take_zero,List.map_nil,List.append_nil]; rfl)
 intro k hk;have hgl3:(g3 k).length<=12000000:=by rw[hg3]; simp only[List.length_append,List.length_map,List.length_take]; omega
 by_cases hlt:k<vh.length
 ·obtain ⟨q,hx,-,hm⟩:=drop_at hlt;have hts:(g3 k).map Stp.cs++[[vi 6,vi q,vi 0,vi 0,.str []]]=(g3 (k+1)).map Stp.cs:=by rw[hg3,hg3,take_one hx]; simp[hldS]
  refine runW (And.intro hx hts) ?_;exact round (k+1) hlt (by omega)
 have hkl:k=vh.length:=by omega
 subst hkl;rw[hg3,List.take_length] at hgl3 ⊢;obtain ⟨D,hD⟩:∃D,B++vh.map hldS=D:=⟨_,rfl⟩;have hrw3:∀Z:List Stp,B++(vh.map hldS++Z)=D++Z:=fun Z=>by rw[<- hD,List.append_assoc]
 rw[hrw3];rw[hD] at hgl3 ⊢;refine run ?_;refine call hS ?_;rcases selS_R r f vd with ⟨h1,h2⟩ | ⟨a,b,h1,h2⟩
 ·rw[h1,h2];have he:(if vk=8\/vk=9 then (Option.toList (none:Option Stp)) else [])=[]:=by split <;> rfl
  rw[he,List.nil_append];refine run ?_;refine call hE ?_;refine runW (hapE D) ?_;exact fin rfl
 rw[h1,h2];by_cases hk8:vk=8
 ·subst hk8;have hts:D.map Stp.cs++[[vi 5,vi a,vi b,vi 0,.str []]]=(D++([⟨5,a,b,0,[]⟩]:List Stp)).map Stp.cs:=by simp
  refine runW hts ?_;refine call hE ?_;refine runW (hapE (D++([⟨5,a,b,0,[]⟩]:List Stp))) ?_;refine fin ?_;simp
 by_cases hk9:vk=9
 ·subst hk9;have hts:D.map Stp.cs++[[vi 5,vi a,vi b,vi 0,.str []]]=(D++([⟨5,a,b,0,[]⟩]:List Stp)).map Stp.cs:=by simp
  refine runW hts ?_;refine call hE ?_;refine runW (hapE (D++([⟨5,a,b,0,[]⟩]:List Stp))) ?_;refine fin ?_;simp
 rw[if_neg (fun h=>h.elim hk8 hk9),List.nil_append];refine runW (And.intro (eq_false hk8) (eq_false hk9)) ?_;refine call hE ?_;refine runW (hapE D) ?_;exact fin rfl
end Go.Arc
set_option maxRecDepth 100000
namespace Go.Arc
open Go.Ab Go.RowKit Go.Proofs
variable {T : Lay}
theorem den_Explain12 (L:LibC T) (r:Rgs) (h:r.Fit) (id d:Int):Den Tryz.prog T 13 [.agg r.cs,vi id,vi d] (.tup [stps (explO r id d),vi (onE r id d)]):=by
 have hl:=h.fls.1;have hO:=den_OnRef L r h id d;by_cases h0:onE r id d=0
 ·obtain ⟨ha,-⟩:=onE_0 h0;obtain ⟨hc,hf⟩:=ask_ok ha;have hok:=okG_of hc;obtain ⟨k,hk,hlt,hx,-,-⟩:=find_fil hf;have hE:=den_explain12 L r (filA r id) d (vdt r (filA r id) d) h (filA_fit h hf) hok (vdt_day r _ d) (vdt_hbig h _ d);rw[refX_eq hok] at hE;rw[onV_0 h0,h0] at hO;rw[h0,explO,if_pos h0];obtain ⟨X,hX⟩:∃X,explS r (filA r id) d=X:=⟨_,rfl⟩;rw[hX] at hE ⊢;obtain ⟨v,hv⟩:∃v,vdt r (filA r id) d=v:=⟨_,rfl⟩;rw[hv] at hO hE;refine den_of_body follows (fun args w=>Tryz.call13 args w) Tryz.func13 rfl 31 rfl ?_;refine run ?_;refine call hO ?_;refine run ?_;refine call (den_FindFRef r.fls id hl) ?_;rw[hk];refine runW hx ?_;refine call hE ?_;refine run ?_;exact fin rfl
 ·rw[explO,if_neg h0];obtain ⟨v,hv⟩:∃v,onV r id d=v:=⟨_,rfl⟩;rw[hv] at hO;refine den_of_body follows (fun args w=>Tryz.call13 args w) Tryz.func13 rfl 31 rfl ?_;refine run ?_;refine call hO ?_;refine runW (eq_false h0) ?_;exact finW (wk_tups (.cons (.nil 5) (.cons (.refl _) .nil)))
theorem den_EvidenceExplains (L:LibT T) (r:Rgs) (id d:Int) (h:r.Fit):Den Tryz.prog T 3 [.agg r.cs,vi id,vi d] (vb true):=by
 have hE:=den_Explain (libC L) r h id d;have hR:=den_Explain12 (libC L) r h id d;have hS:=den_Same12 (T:=T) (explO r id d) (explO r id d) (explO_len r h id d) (explO_len r h id d);rw[diffS_same] at hS;rw[show (if onE r id d=0 then explS r (filA r id) d else [])=explO r id d from rfl] at hE;obtain ⟨X,hX⟩:∃X,explO r id d=X:=⟨_,rfl⟩;rw[hX] at hE hR hS;refine den_of_body follows (fun args w=>Tryz.call3 args w) Tryz.func3 rfl 38 rfl ?_;refine run ?_;refine call (den_awake12 L) ?_;refine run ?_;refine call (den_FewG r h) ?_;cases fewG r
 ·refine run ?_;exact fin rfl
 refine run ?_;refine call hE ?_;refine run ?_;refine call hR ?_;refine run ?_;refine call hS ?_;refine run ?_;exact fin rfl
end Go.Arc
