/- A part of this claim. -/
import Derived.Test.YtcmpmdgdchmojaaGreatDoorBaY
set_option maxRecDepth 100000
namespace Go.Arc
open Go.Ab Go.RowKit Go.Proofs
variable {T : Lay}
theorem waitB_no {f:Fil} {d:Int} {q:Rul} (h:trig f q.trg d=none):waitB f d q=true:=by unfold waitB; rw[h]; rfl
theorem waitB_yes {f:Fil} {d:Int} {q:Rul} {t:Int×Int} (h:trig f q.trg d=some t):waitB f d q=false:=by unfold waitB; rw[h]; rfl
def timV (r:Rgs) (f:Fil) (d:Int) (l:List Rul):Vdt:=match l.find? (waitB f d) with
 | some q=>⟨5,f.id,d,q.id,0,[]⟩
 | none=>if d<=(lateF f d l (-1,0)).1 then ⟨6,f.id,d,(lateF f d l (-1,0)).2,(lateF f d l (-1,0)).1,[]⟩ else if holding r.ofs r.pls r.hls f d≠[] then ⟨7,f.id,d,(lateF f d l (-1,0)).2,(lateF f d l (-1,0)).1,holding r.ofs r.pls r.hls f d⟩ else
  if l.any moveB=true\/selB r f d=true then ⟨9,f.id,d,(lateF f d l (-1,0)).2,(lateF f d l (-1,0)).1,[]⟩ else ⟨8,f.id,d,(lateF f d l (-1,0)).2,(lateF f d l (-1,0)).1,[]⟩
set_option maxHeartbeats 4000000 in
theorem den_timedRef (_L:LibC T) (r:Rgs) (f:Fil) (d:Int) (l:List Rul) (hr:r.Fit) (hf:f.Fit) (hok:OkG r) (hfm:f∈r.fls) (hd:d<=1048575) (h0:l≠[]) (hl:∀q∈l,q∈r.rls) (hlb:l.length<=1048576):
  Den Tryz.prog T 173 [.agg r.cs,.agg f.cs,vi d,ruls l,.agg (vcs 0 f.id d 0 0 (.val (.slice none 0 0)))] (.agg (timV r f d l).cs):=by
 have hid:∀q∈l,1<=q.id:=fun q hq=>(hok.rule (hl q hq)).2.1;refine den_of_body follows (fun args w=>Tryz.call173 args w) Tryz.func173 rfl 122 rfl ?_;refine run ?_
 refine loop ⟨[2,3,5,6,9,10,11,12],[5,6,9,10],[],[]⟩ (fun k:Nat=>k<=l.length/\∀q∈l.take k,∃t,trig f q.trg d=some t) (fun k=>l.length-k)
  (fun k=>⟨122,[(2,.v (vi d)),(3,.v (ruls l)),(5,.p 5 0),(6,.p 6 0),(9,.p 9 0),(10,.p 10 0),(11,.v (vb ((l.take k).any moveB))),(12,.v (vi k))],
   [(5,.var r.cs),(6,.var f.cs),(9,.var (vcs 0 f.id d (accT f d l k).2 (accT f d l k).1 (.val (.slice none 0 0)))),(10,.var (vcs 0 0 0 0 0 (.val (.slice none 0 0))))],[]⟩) 0 ⟨Nat.zero_le _,by simp⟩ ?_
 rintro k ⟨hk,hall⟩
 have hdu:∀q∈l.take k,∃t,dueF f d q=some t/\0<=t:=fun q hq=>by
  obtain ⟨⟨a,b⟩,ht⟩:=hall q hq;obtain ⟨t,-,h2,h3⟩:=hok.due hfm (hl q (List.mem_of_mem_take hq)) hd ht;exact ⟨t,h2,h3⟩
 by_cases hlt:k<l.length
 ·obtain ⟨x,hx,-,hm⟩:=drop_at hlt;cases htr:trig f x.trg d with
  | none=>
   have hw:timV r f d l=⟨5,f.id,d,x.id,0,[]⟩:=by
    unfold timV;rw[find_at' (fun q hq=>by obtain ⟨t,ht⟩:=hall q hq; exact waitB_yes ht) hx (waitB_no htr)]
   rw[hw];obtain ⟨R,D,hac⟩:∃R D,accT f d l k=(D,R):=⟨_,_,rfl⟩;rw[hac];refine runD hx ?_;refine aw_graph [⟨[ff,ff,ff,ff,ff,ff,ff,ff,ff,ff,ff,ff,ff,ff],14,.one 1 0⟩,⟨[ff,tt,ff,ff,ff,ff,ff,ff,ff,ff,ff,ff,ff,ff],13,.one 2 0⟩,⟨[ff,tt,tt,ff,ff,ff,ff,ff,ff,ff,ff,ff,ff,ff],12,.one 6 0⟩,⟨[ff,tt,tt,ff,ff,ff,tt,ff,ff,ff,ff,ff,ff,ff],11,.alt [(0,1),(3,0),(11,2)]⟩,⟨[ff,tt,tt,tt,ff,ff,tt,ff,ff,ff,ff,ff,ff,ff],10,.one 4 3⟩,⟨[tt,tt,tt,ff,ff,ff,tt,ff,ff,ff,ff,ff,ff,ff],10,.alt [(3,1),(11,3)]⟩,⟨[ff,tt,tt,ff,ff,ff,tt,ff,ff,ff,ff,tt,ff,ff],10,.alt [(0,2),(3,3)]⟩,⟨[tt,tt,tt,tt,ff,ff,tt,ff,ff,ff,ff,ff,ff,ff],9,.one 4 3⟩,⟨[ff,tt,tt,tt,tt,ff,tt,ff,ff,ff,ff,ff,ff,ff],9,.alt [(0,2),(5,3),(11,5)]⟩,⟨[tt,tt,tt,ff,ff,ff,tt,ff,ff,ff,ff,tt,ff,ff],9,.alt [(3,3)]⟩,⟨[ff,tt,tt,tt,ff,ff,tt,ff,ff,ff,ff,tt,ff,ff],9,.one 4 3⟩,⟨[tt,tt,tt,tt,tt,ff,tt,ff,ff,ff,ff,ff,ff,ff],8,.alt [(5,3),(11,5)]⟩,⟨[ff,tt,tt,tt,tt,tt,tt,ff,ff,ff,ff,ff,ff,ff],8,.alt [(0,2),(11,3)]⟩,⟨[tt,tt,tt,tt,ff,ff,tt,ff,ff,ff,ff,tt,ff,ff],8,.one 4 3⟩,⟨[ff,tt,tt,tt,tt,ff,tt,ff,ff,ff,ff,tt,ff,ff],8,.alt [(0,2),(5,1)]⟩,⟨[tt,tt,tt,tt,tt,tt,tt,ff,ff,ff,ff,ff,ff,ff],7,.alt [(7,3),(11,2)]⟩,⟨[ff,tt,tt,tt,tt,tt,tt,ff,ff,ff,ff,tt,ff,ff],7,.alt [(0,1)]⟩,⟨[tt,tt,tt,tt,tt,ff,tt,ff,ff,ff,ff,tt,ff,ff],7,.alt [(5,0)]⟩,⟨[tt,tt,tt,tt,tt,tt,tt,ff,ff,ff,ff,tt,ff,ff],6,.alt [(7,2)]⟩,⟨[tt,tt,tt,tt,tt,tt,tt,tt,ff,ff,ff,ff,ff,ff],6,.one 8 0⟩,⟨[tt,tt,tt,tt,tt,tt,tt,tt,tt,ff,ff,ff,ff,ff],5,.alt [(9,3),(10,1),(11,2)]⟩,⟨[tt,tt,tt,tt,tt,tt,tt,tt,ff,ff,ff,tt,ff,ff],5,.one 8 1⟩,⟨[tt,tt,tt,tt,tt,tt,tt,tt,tt,ff,tt,ff,ff,ff],4,.alt [(9,3),(11,2)]⟩,⟨[tt,tt,tt,tt,tt,tt,tt,tt,tt,ff,ff,tt,ff,ff],4,.alt [(9,3),(10,1)]⟩,⟨[tt,tt,tt,tt,tt,tt,tt,tt,tt,tt,ff,ff,ff,ff],4,.alt [(10,1),(11,2)]⟩,⟨[tt,tt,tt,tt,tt,tt,tt,tt,tt,ff,tt,tt,ff,ff],3,.alt [(9,3)]⟩,⟨[tt,tt,tt,tt,tt,tt,tt,tt,tt,tt,tt,ff,ff,ff],3,.alt [(11,2)]⟩,⟨[tt,tt,tt,tt,tt,tt,tt,tt,tt,tt,ff,tt,ff,ff],3,.alt [(10,1),(12,0)]⟩,⟨[tt,tt,tt,tt,tt,tt,tt,tt,tt,tt,ff,tt,tt,ff],2,.alt [(10,1)]⟩,⟨[tt,tt,tt,tt,tt,tt,tt,tt,tt,tt,tt,tt,ff,ff],2,.alt [(12,0)]⟩,⟨[tt,tt,tt,tt,tt,tt,tt,tt,tt,tt,tt,tt,tt,ff],1,.alt [(13,0)]⟩,⟨[tt,tt,tt,tt,tt,tt,tt,tt,tt,tt,tt,tt,tt,tt],0,.fin⟩] ?_
   refine graph_to (fun _:Unit=>True) ⟨[2,3,5,6,9,10,11,12,14],[5,6,9,10,13],[],[]⟩ (fun _=>⟨122,[(2,.v (vi d)),(3,.v (ruls l)),(5,.p 5 0),(6,.p 6 0),(9,.p 9 0),(10,.p 10 0),(11,.v (vb ((l.take k).any moveB))),(12,.v (vi k)),(14,.v (vb false))],
    [(5,.var r.cs),(6,.var f.cs),(9,.var (vcs 0 f.id d R D (.val (.slice none 0 0)))),(10,.var (vcs 0 0 0 0 0 (.val (.slice none 0 0)))),(13,.var [vi 0,vi 0])],[]⟩) (fun st st' hk h=>aw_keep _ hk h) (fun _ _=> ?_) (fun K' hK=> ?_)
   ·refine runD trivial ?_;refine aw_tree ((.one 0 (.one 1 (.one 5 (.alt 2 (.one 3 (.alt 4 (.alt 6 (.one 7 (.alt 8 (.one 9 (.alt 10 .done .nil)) .nil)) .nil) (.alt 6 (.alt 4 (.one 7 (.alt 8 (.one 9 (.alt 10 .done .nil)) .nil)) .nil) .nil))) (.alt 6 (.alt 2 (.one 3 (.alt 4 (.one 7 (.alt 8 (.one 9 (.alt 10 .done .nil)) .nil)) .nil)) .nil) .nil)))))) ?_;refine runTree hx ?_;refine run ?_;exact finW (wk_vcs _ _ _ _ _)
   ·refine runGraph hx ?_
    repeat' (with_reducible refine And.intro ?_ ?_)
    all_goals
     refine call (den_TriggerRef f x.trg d hf) ?_;rw[trigV,htr];refine runGraph trivial ?_
     repeat' (with_reducible refine And.intro ?_ ?_)
     all_goals exact leafK hK () trivial
  | some t=>
   obtain ⟨a,b⟩:=t;obtain ⟨t,hdt,hdf,ht0⟩:=hok.due hfm (hl x hm) hd htr;have hst:=accT_step hid hdu hx hdf ht0;have hany:(l.take (k+1)).any moveB=((l.take k).any moveB || moveB x):=by rw[take_snocR hx,List.any_append]; simp
   have hall':=take_snoc (q:=fun q:Rul=>∃t,trig f q.trg d=some t) hall hx ⟨_,htr⟩;obtain ⟨mv,hmv⟩:∃mv,(l.take k).any moveB=mv:=⟨_,rfl⟩;rw[hmv] at hany ⊢;obtain ⟨⟨D,R⟩,hac⟩:∃y,accT f d l k=y:=⟨_,rfl⟩;obtain ⟨⟨D',R'⟩,hac'⟩:∃y,accT f d l (k+1)=y:=⟨_,rfl⟩;rw[hac,hac'] at hst;simp only[Prod.mk.injEq] at hst;rw[hac];refine runD hx ?_;refine aw_graph [⟨[ff,ff,ff,ff,ff,ff,ff,ff,ff,ff,ff,ff,ff,ff],14,.one 1 0⟩,⟨[ff,tt,ff,ff,ff,ff,ff,ff,ff,ff,ff,ff,ff,ff],13,.one 2 0⟩,⟨[ff,tt,tt,ff,ff,ff,ff,ff,ff,ff,ff,ff,ff,ff],12,.one 6 0⟩,⟨[ff,tt,tt,ff,ff,ff,tt,ff,ff,ff,ff,ff,ff,ff],11,.alt [(0,1),(3,0),(11,2)]⟩,⟨[ff,tt,tt,tt,ff,ff,tt,ff,ff,ff,ff,ff,ff,ff],10,.one 4 3⟩,⟨[tt,tt,tt,ff,ff,ff,tt,ff,ff,ff,ff,ff,ff,ff],10,.alt [(3,1),(11,3)]⟩,⟨[ff,tt,tt,ff,ff,ff,tt,ff,ff,ff,ff,tt,ff,ff],10,.alt [(0,2),(3,3)]⟩,⟨[tt,tt,tt,tt,ff,ff,tt,ff,ff,ff,ff,ff,ff,ff],9,.one 4 3⟩,⟨[ff,tt,tt,tt,tt,ff,tt,ff,ff,ff,ff,ff,ff,ff],9,.alt [(0,2),(5,3),(11,5)]⟩,⟨[tt,tt,tt,ff,ff,ff,tt,ff,ff,ff,ff,tt,ff,ff],9,.alt [(3,3)]⟩,⟨[ff,tt,tt,tt,ff,ff,tt,ff,ff,ff,ff,tt,ff,ff],9,.one 4 3⟩,⟨[tt,tt,tt,tt,tt,ff,tt,ff,ff,ff,ff,ff,ff,ff],8,.alt [(5,3),(11,5)]⟩,⟨[ff,tt,tt,tt,tt,tt,tt,ff,ff,ff,ff,ff,ff,ff],8,.alt [(0,2),(11,3)]⟩,⟨[tt,tt,tt,tt,ff,ff,tt,ff,ff,ff,ff,tt,ff,ff],8,.one 4 3⟩,⟨[ff,tt,tt,tt,tt,ff,tt,ff,ff,ff,ff,tt,ff,ff],8,.alt [(0,2),(5,1)]⟩,⟨[tt,tt,tt,tt,tt,tt,tt,ff,ff,ff,ff,ff,ff,ff],7,.alt [(7,3),(11,2)]⟩,⟨[ff,tt,tt,tt,tt,tt,tt,ff,ff,ff,ff,tt,ff,ff],7,.alt [(0,1)]⟩,⟨[tt,tt,tt,tt,tt,ff,tt,ff,ff,ff,ff,tt,ff,ff],7,.alt [(5,0)]⟩,⟨[tt,tt,tt,tt,tt,tt,tt,ff,ff,ff,ff,tt,ff,ff],6,.alt [(7,2)]⟩,⟨[tt,tt,tt,tt,tt,tt,tt,tt,ff,ff,ff,ff,ff,ff],6,.one 8 0⟩,⟨[tt,tt,tt,tt,tt,tt,tt,tt,tt,ff,ff,ff,ff,ff],5,.alt [(9,3),(10,1),(11,2)]⟩,⟨[tt,tt,tt,tt,tt,tt,tt,tt,ff,ff,ff,tt,ff,ff],5,.one 8 1⟩,⟨[tt,tt,tt,tt,tt,tt,tt,tt,tt,ff,tt,ff,ff,ff],4,.alt [(9,3),(11,2)]⟩,⟨[tt,tt,tt,tt,tt,tt,tt,tt,tt,ff,ff,tt,ff,ff],4,.alt [(9,3),(10,1)]⟩,⟨[tt,tt,tt,tt,tt,tt,tt,tt,tt,tt,ff,ff,ff,ff],4,.alt [(10,1),(11,2)]⟩,⟨[tt,tt,tt,tt,tt,tt,tt,tt,tt,ff,tt,tt,ff,ff],3,.alt [(9,3)]⟩,⟨[tt,tt,tt,tt,tt,tt,tt,tt,tt,tt,tt,ff,ff,ff],3,.alt [(11,2)]⟩,⟨[tt,tt,tt,tt,tt,tt,tt,tt,tt,tt,ff,tt,ff,ff],3,.alt [(10,1),(12,0)]⟩,⟨[tt,tt,tt,tt,tt,tt,tt,tt,tt,tt,ff,tt,tt,ff],2,.alt [(10,1)]⟩,⟨[tt,tt,tt,tt,tt,tt,tt,tt,tt,tt,tt,tt,ff,ff],2,.alt [(12,0)]⟩,⟨[tt,tt,tt,tt,tt,tt,tt,tt,tt,tt,tt,tt,tt,ff],1,.alt [(13,0)]⟩,⟨[tt,tt,tt,tt,tt,tt,tt,tt,tt,tt,tt,tt,tt,tt],0,.fin⟩] ?_
   refine graph_to (fun _:Unit=>True) ⟨[2,3,5,6,9,10,11,12,14,13],[5,6,9,10,13],[],[]⟩ (fun _=>⟨122,[(2,.v (vi d)),(3,.v (ruls l)),(5,.p 5 0),(6,.p 6 0),(9,.p 9 0),(10,.p 10 0),(11,.v (vb mv)),(12,.v (vi k)),(14,.v (vb true)),(13,.p 13 0)],
    [(5,.var r.cs),(6,.var f.cs),(9,.var (vcs 0 f.id d R D (.val (.slice none 0 0)))),(10,.var (vcs 0 0 0 0 0 (.val (.slice none 0 0)))),(13,.var [vi a,vi b])],[]⟩) (fun st st' hk h=>aw_keep _ hk h) (fun _ _=> ?_) (fun K' hK=> ?_)
   ·refine runW hx ?_;refine call (den_DueRef x a b (hr.rls.2 x (hl x hm))) ?_;rw[dueV,hdt];have hmvx:moveB x=decide (x.act=2):=rfl
    have done:∀ {st:St},keepS ⟨[2,3,5,6,9,10,11,12],[5,6,9,10],[],[]⟩ st=some ⟨122,[(2,.v (vi d)),(3,.v (ruls l)),(5,.p 5 0),(6,.p 6 0),(9,.p 9 0),(10,.p 10 0),(11,.v (vb (mv || moveB x))),(12,.v (vi (k+1:Nat)))],
      [(5,.var r.cs),(6,.var f.cs),(9,.var (vcs 0 f.id d R' D' (.val (.slice none 0 0)))),(10,.var (vcs 0 0 0 0 0 (.val (.slice none 0 0))))],[]⟩->keepS ⟨[2,3,5,6,9,10,11,12],[5,6,9,10],[],[]⟩ st=some ⟨122,[(2,.v (vi d)),(3,.v (ruls l)),(5,.p 5 0),(6,.p 6 0),(9,.p 9 0),(10,.p 10 0),(11,.v (vb ((l.take (k+1)).any moveB))),(12,.v (vi (k+1:Nat)))],
      [(5,.var r.cs),(6,.var f.cs),(9,.var (vcs 0 f.id d (accT f d l (k+1)).2 (accT f d l (k+1)).1 (.val (.slice none 0 0)))),(10,.var (vcs 0 0 0 0 0 (.val (.slice none 0 0))))],[]⟩:=fun {st} h=>by
     rw[hac',hany];exact h
    rcases hst with ⟨z0,z1,z2⟩ | ⟨z0,z1,z2,z3⟩ | ⟨z0,z1,z2,z3⟩
    ·subst z1 z2;refine runW (And.intro hx z0) ?_;cases mv
     ·by_cases hm2:x.act=2
      ·refine runW (And.intro hx hm2) ?_;exact round (k+1) ⟨hlt,hall'⟩ (by omega) (done (by rw[hmvx,hm2]; rfl))
      ·refine runW (And.intro hx (eq_false hm2)) ?_;exact round (k+1) ⟨hlt,hall'⟩ (by omega) (done (by rw[hmvx,decide_eq_false hm2]; rfl))
     ·refine runW hx ?_;exact round (k+1) ⟨hlt,hall'⟩ (by omega) (done rfl)
    ·subst z2 z3;refine runW (And.intro hx (And.intro (eq_false z0) (eq_true z1))) ?_;cases mv
     ·by_cases hm2:x.act=2
      ·refine runW (And.intro hx hm2) ?_;exact round (k+1) ⟨hlt,hall'⟩ (by omega) (done (by rw[hmvx,hm2]; rfl))
      ·refine runW (And.intro hx (eq_false hm2)) ?_;exact round (k+1) ⟨hlt,hall'⟩ (by omega) (done (by rw[hmvx,decide_eq_false hm2]; rfl))
     ·refine runW hx ?_;exact round (k+1) ⟨hlt,hall'⟩ (by omega) (done rfl)
    ·subst z2 z3;refine runW (And.intro hx (And.intro (eq_false z0) (eq_false z1))) ?_;cases mv
     ·by_cases hm2:x.act=2
      ·refine runW (And.intro hx hm2) ?_;exact round (k+1) ⟨hlt,hall'⟩ (by omega) (done (by rw[hmvx,hm2]; rfl))
      ·refine runW (And.intro hx (eq_false hm2)) ?_;exact round (k+1) ⟨hlt,hall'⟩ (by omega) (done (by rw[hmvx,decide_eq_false hm2]; rfl))
     ·refine runW hx ?_;exact round (k+1) ⟨hlt,hall'⟩ (by omega) (done rfl)
   ·refine runGraph hx ?_
    repeat' (with_reducible refine And.intro ?_ ?_)
    all_goals
     refine call (den_TriggerRef f x.trg d hf) ?_;rw[trigV,htr];refine runGraph trivial ?_
     repeat' (with_reducible refine And.intro ?_ ?_)
     all_goals exact leafK hK () trivial
 ·have hkl:k=l.length:=by omega
  subst hkl;rw[List.take_length] at hall hdu ⊢;have hlp:=List.length_pos_iff.2 h0;have hacc:accT f d l l.length=lateF f d l (-1,0):=by unfold accT; rw[if_neg (by omega),List.take_length]
  rw[hacc];have hw:l.find? (waitB f d)=none:=find_no' fun q hq=>by obtain ⟨t,ht⟩:=hall q hq; exact waitB_yes ht
  unfold timV;rw[hw];simp only;have hsb:=selR_b r f d;obtain ⟨⟨D,R⟩,hac⟩:∃y,lateF f d l (-1,0)=y:=⟨_,rfl⟩;rw[hac];obtain ⟨mv,hmv⟩:∃mv,l.any moveB=mv:=⟨_,rfl⟩;rw[hmv];by_cases hdl:d<=D
  ·rw[if_pos hdl];refine runW (eq_true hdl) ?_;exact finW (wk_vcs _ _ _ _ _)
  rw[if_neg hdl];refine runW (eq_false hdl) ?_;refine callO (den_HoldingRef r.ofs r.pls r.hls f d hr.ofs hr.pls hr.hls hf) ?_;by_cases hh:holding r.ofs r.pls r.hls f d=[]
  ·rw[if_neg (fun e=>e hh),hh];refine run ?_;refine call (den_Selected r hr f.id d) ?_;rw[hsb];cases mv
   ·cases hs:selB r f d
    ·rw[if_neg (by rintro (e | e) <;> cases e)];refine run ?_;exact finW (wk_vcs _ _ _ _ _)
    ·rw[if_pos (.inr rfl)];refine run ?_;exact finW (wk_vcs _ _ _ _ _)
   ·rw[if_pos (.inl rfl)];refine run ?_;exact finW (wk_vcs _ _ _ _ _)
  ·rw[if_pos hh]
   have hpos:(0:Int)<(holding r.ofs r.pls r.hls f d).length:=by
    have:=List.length_pos_iff.2 hh;omega
   obtain ⟨hs,hhs⟩:∃hs,holding r.ofs r.pls r.hls f d=hs:=⟨_,rfl⟩;rw[hhs] at hpos ⊢;refine runW (eq_true hpos) ?_;exact fin rfl
end Go.Arc
