/- A part of this claim. -/
import Derived.Test.YtnmclbgpndpedaaGreatDoorW138
import Derived.Test.YtnmclbgpndpedaaGreatDoorW137
set_option maxRecDepth 100000
namespace Go.Arc
open Go.Ab Go.RowKit Go.Proofs Tryz
variable {T : Lay}
def apvRows (r:Rgs) (pre:List Apv) (q:Option Apv) (a:Apv) (p:Prp):List (Bool×Int):=
 [(!(decide (p.day<=a.day) && decide (a.day<=1048575)),2),(jkg q a,5),(decide (p.wdr<=a.day),11),(!jds r.cks a.clk a.day,7),(decide (a.clk=p.clk),22),(pre.any (isApv a),6)]
theorem apvRows_ok (r:Rgs) (pre:List Apv) (q:Option Apv) (a:Apv) (p:Prp):fstB (apvRows r pre q a p)=apvE r pre q a p:=by
 unfold apvE apvRows;simp only[fstB];by_cases h1:a.day<p.day\/1048575<a.day
 ·rw[if_pos h1,if_pos (by simp; omega)]
 rw[if_neg h1,if_neg (by simp; omega)];by_cases h2:jkg q a=true
 ·rw[if_pos h2,if_pos h2]
 rw[if_neg h2,if_neg h2];by_cases h3:p.wdr<=a.day
 ·rw[if_pos h3,if_pos (decide_eq_true h3)]
 rw[if_neg h3,if_neg (by simp; omega)];cases h4:jds r.cks a.clk a.day
 ·rfl
 simp only[Bool.not_true,Bool.false_eq_true,reduceCtorEq,if_false];by_cases h5:a.clk=p.clk
 ·rw[if_pos h5,if_pos (decide_eq_true h5)]
 rw[if_neg h5,if_neg (by simp[h5])]
theorem den_apv1 (b a:Apv):Den prog T 83 [.agg b.cs,.row a.cs] (vb (isApv a b)):=by
 refine ae follows (fun args w=>call83 args w) func83 rfl 16 rfl ?_;unfold isApv;by_cases h1:b.prp=a.prp
 ·refine runW (eq_true h1) ?_;refine fin (ak ?_);simp
 ·refine runW (eq_false h1) ?_;refine fin (ak ?_);simp
abbrev gr134:List Gent:=⟨bz 25 0,25,.one 0 0⟩::⟨bz 25 1,24,.ld 1 0⟩::⟨bz 25 3,23,.one 2 0⟩::⟨bz 25 7,22,.one 3 0⟩::⟨bz 25 15,21,.ld 4 0⟩::⟨bz 25 31,20,.one 5 0⟩::⟨bz 25 63,19,.ld 6 0⟩::⟨bz 25 127,18,.one 7 0⟩::⟨bz 25 255,17,.one 8 0⟩::⟨bz 25 511,16,.one 9 0⟩::⟨bz 25 1023,15,.one 10 0⟩::⟨bz 25 2047,14,.ld 11 0⟩::⟨bz 25 4095,13,.ld 12 0⟩::⟨bz 25 8191,12,.one 13 0⟩::⟨bz 25 16383,11,.ld 14 0⟩::⟨bz 25 32767,10,.one 15 0⟩::⟨bz 25 65535,9,.one 16 0⟩::⟨bz 25 131071,8,.one 17 0⟩::⟨bz 25 262143,7,.ld 18 0⟩::⟨bz 25 524287,6,.alt [(19,1),(20,2),(21,0)]⟩::⟨bz 25 2621439,5,.alt [(19,4),(20,2)]⟩::⟨bz 25 1048575,5,.alt [(20,2),(21,3)]⟩::⟨bz 25 1572863,5,.alt [(19,1),(21,0)]⟩::⟨bz 25 3670015,4,.alt [(19,2)]⟩::⟨bz 25 2097151,4,.alt [(21,1)]⟩::⟨bz 25 3145727,4,.alt [(20,0)]⟩::⟨bz 25 4194303,3,.alt [(22,0)]⟩::⟨bz 25 8388607,2,.alt [(23,0)]⟩::⟨bz 25 16777215,1,.alt [(24,0)]⟩::⟨bz 25 33554431,0,.fin⟩::[]
set_option maxHeartbeats 16000000 in
theorem den_approvalD (r:Rgs) (h:r.Fit) (i:Nat) (hi:i<r.aps.length):Den prog T 32 [.agg r.cs,vi i] (vi (jcc r i)):=by
 have hl:=h.aps;have hpl:=h.pps.1;obtain ⟨a,hc,-,hm⟩:=aj hi;obtain ⟨q,hq,-,-⟩:=aj (l:=r.aps) (k:=i-1) (by omega);have hfind:=jm2 (T:=T) r h a.prp;have ht:(r.aps.map Apv.cs).take i=(r.aps.take i).map Apv.cs:=by rw[List.map_take]
 refine ae follows (fun args w=>call32 args w) func32 rfl 82 rfl ?_;refine runD (ai hc hq) ?_;refine aw_frz 2 ?_;refine jd9 (st':=⟨82,[(1,.v (vi i)),(2,.p 2 0)],[(2,.con r.cs)],[]⟩) ⟨[1,2],[2],[],[]⟩ rfl ?_;refine ct gr134 ?_;refine jk4 (fun _:Unit=>True) ⟨[1,2,5,6,7],[2,5,6],[],[]⟩ (fun _=>⟨82,[(1,.v (vi i)),(2,.p 2 0),(5,.p 5 0),(6,.p 6 0),(7,.v (vi (jbf r.pps a.prp)))],[(2,.con r.cs),(5,.var a.cs),(6,.var q.cs)],[]⟩) (fun st st' hk h=>jd9 _ hk h) ?_ (fun K' hK=> ?_)
 rotate_left
 ·refine av (ai hc (ai hq (ac i))) ?_
  try simp only[and_assoc]
  apply viaA
  ·have hX:=fun k kn m h=>call (k:=k) (kn:=kn) (m:=m) hfind h
   repeat' (first | with_reducible apply And.imp | exact hX _ _ _)
  refine av (ai hc (ai hq (ac i))) ?_
  try simp only[and_self,and_self_left]
  repeat' (with_reducible refine ai ?_ ?_)
  all_goals exact leafK hK () trivial
 intro _ _;rcases je7 (ca a.prp) r.pps with ⟨h1,h2⟩ | ⟨k,p,h1,hk,hx,hpm,h2⟩
 ·have he:jcc r i=7:=by unfold jcc; rw[hc]; simp only; rw[h2]
  rw[he];have h1:jbf r.pps a.prp= -1:=h1;rw[h1];refine run ?_;exact fin rfl
 have he:jcc r i=fstB (apvRows r (r.aps.take i) (bg r.aps i) a p):=by
  rw[apvRows_ok];unfold jcc;rw[hc];simp only;rw[h2]
 rw[he];have h1:jbf r.pps a.prp=(k:Int):=h1;rw[h1];have hA:=den_anyApv (T:=T) (r.aps.take i) 83 [.row a.cs] (isApv a) (by rw[List.length_take]; omega) fun b _=>den_apv1 b a;have hC:=jrg (T:=T) r h a.clk a.day;have hIn:=jc2 (T:=T) a.day p.day 1048575
 have hF:∀b1 b2 b3 b4 b5 b6,Den prog T 66 [.slice 1 [wRow b1 2,wRow b2 5,wRow b3 11,wRow b4 7,wRow b5 22,wRow b6 6]] (vi (fstB [(b1,2),(b2,5),(b3,11),(b4,7),(b5,22),(b6,6)])):=fun b1 b2 b3 b4 b5 b6=>
  jlq _ _ (.cons (jaf _ _) (.cons (jaf _ _) (.cons (jaf _ _) (.cons (jaf _ _) (.cons (jaf _ _) (.cons (jaf _ _) .nil)))))) (by show (6:Nat)<=1048576; decide)
 unfold apvRows
 have hp:(¬ 0<(i:Int)/\jkg (bg r.aps i) a=false)\/(0<(i:Int)/\jkg (bg r.aps i) a=decide (a.day<q.day)):=by
  by_cases h0:i=0
  ·left; subst h0; exact ⟨by decide,rfl⟩
  ·right;refine ⟨by omega,?_⟩;unfold bg;rw[if_neg h0,hq];rfl
 refine runD hx ?_;refine jio (h':=[(8,.var p.cs),(2,.con r.cs),(5,.con a.cs),(6,.var q.cs)]) (by rfl) rfl (by kernel_rfl) (by rfl) (by kernel_rfl) ?_;rcases hp with ⟨h0,hpv⟩ | ⟨h0,hpv⟩ <;> rw[hpv] <;>
 ·refine runW (ai hx ht) ?_;refine call hIn ?_;refine runW ht ?_;refine call (ag _ 2) ?_;refine runW ht ?_;refine call (ag _ 5) ?_;refine runW ht ?_;refine call (ag _ 11) ?_;refine runW ht ?_;refine call hC ?_;refine runW ht ?_;refine call (ag _ 7) ?_;refine runW ht ?_;refine call (ag _ 22) ?_;refine runW ht ?_;refine call hA ?_;refine runW ht ?_;refine call (ag _ 6) ?_;refine runW ht ?_;refine call (hF _ _ _ _ _ _) ?_;refine run ?_;exact fin rfl
theorem den_cert1 (L:LibT T) (r:Rgs) (h:r.Fit) (i:Nat) (hi:i<r.crs.length):Den prog T 85 [.row r.cs,.row [vi i]] (rowV (!jat r.crs i,14)):=by
 refine ae follows (fun args w=>call85 args w) func85 rfl 9 rfl ?_;refine run ?_;refine call (den_linked L r.crs i h.crs hi) ?_;refine run ?_;exact finC1 (.refl _)
set_option maxHeartbeats 4000000 in
theorem jrw (L:LibT T) (r:Rgs) (h:r.Fit) (i:Nat) (hi:i<r.crs.length):Den prog T 33 [.agg r.cs,vi i] (vi (jbp r i)):=by
 have hl:=h.crs.1;have hpl:=h.pps.1;obtain ⟨c,hc,-,hm⟩:=aj hi;have hfc:=(h.crs.2 c hm).1;refine ae follows (fun args w=>call33 args w) func33 rfl 32 rfl ?_;refine runW hc ?_;refine call (jm2 r h c.prp) ?_;rcases je7 (ca c.prp) r.pps with ⟨h1,h2⟩ | ⟨k,p,h1,hk,hx,hpm,h2⟩
 ·have he:jbp r i=7:=by unfold jbp; rw[hc]; simp only; rw[h2]
  rw[he];have h1:jbf r.pps c.prp= -1:=h1;rw[h1];refine run ?_;exact fin rfl
 have he:jbp r i=fstB [(!decide (c.fls=p.fls),10),(!jat r.crs i,14)]:=by
  unfold jbp;rw[hc];simp only;rw[h2];simp only[fstB];by_cases h1:c.fls=p.fls
  ·simp[h1]
  ·simp[h1]
 rw[he];have h1:jbf r.pps c.prp=(k:Int):=h1;rw[h1]
 have hF:∀b,Den prog T 66 [.slice 1 [wRow b 10,[.func 85 [.row r.cs,.row [vi i]]]]] (vi (fstB [(b,10),(!jat r.crs i,14)])):=fun b=>
  jlq _ _ (.cons (jaf _ _) (.cons (den_cert1 L r h i hi) .nil)) (by show (2:Nat)<=1048576; decide)
 refine runW hx ?_;refine call (den_eqInts c.fls p.fls hfc) ?_;refine run ?_;refine call (ag _ 10) ?_;refine run ?_;refine call (hF _) ?_;refine run ?_;exact fin rfl
theorem jnr (r:Rgs) (n:Nat) (f:FuncId) (cap:List V) (g:Nat->Int) (hn:n<=1048576) (hg:∀i,i<n->Den prog T f (.agg r.cs::vi i::cap) (vi (g i))):Den prog T 34 [.agg r.cs,vi n,.func f cap] (vi (chk n n g).2):=by
 refine ae follows (fun args w=>call34 args w) func34 rfl 21 rfl ?_;refine run ?_
 refine loop ⟨[2,3,9,10],[3],[],[]⟩ (fun k:Nat=>k<=n/\∀i,i<k->g i=0) (fun k=>n-k)
  (fun k=>⟨21,[(2,.v (.func f cap)),(3,.p 3 0),(9,.v (vi n)),(10,.v (vi k))],[(3,.var r.cs)],[]⟩) 0 ⟨Nat.zero_le _,fun i hi=>absurd hi (Nat.not_lt_zero i)⟩ ?_
 rintro k ⟨hk,hall⟩;by_cases hlt:k<n
 ·refine run ?_;refine call (hg k hlt) ?_;by_cases hz:g k=0
  ·refine runW hz ?_;refine round (k+1) ⟨by omega,fun i hi=> ?_⟩ (by omega);by_cases e:i=k
   ·rw[e]; exact hz
   ·exact hall i (by omega)
  ·refine runW (eq_false hz) ?_;refine fin (al ?_);rw[jld (Nat.lt_irrefl n) hlt hall hz]
 ·refine run ?_;refine fin (al ?_);rw[jij (Nat.lt_irrefl n) fun i hi=>hall i (by omega)]
theorem jlc {lim n:Nat} {f:Nat->Int} (h:¬lim<n):(chk lim n f).2=(chk n n f).2:=by unfold chk; rw[if_neg h,if_neg (Nat.lt_irrefl n)]
theorem fstE_drop {l:List Int} {k:Nat} {x:Int} (h:l[k]? = some x):fstE (l.drop k)=if x≠0 then x else fstE (l.drop (k+1)):=by
 obtain ⟨hlt,rfl⟩:=gsi.1 h;rw[List.drop_eq_getElem_cons hlt];rfl
abbrev lstV (n m:Int) (f:FuncId):List V:=[vi n,vi m,.func f []]
set_option maxHeartbeats 8000000 in
theorem jd3 (L:LibT T) (r:Rgs) (h:r.Fit):Den prog T 11 [.agg r.cs] (vi (bh r)):=by
 have LC:=libC L;have hck:=h.cks.1;have hpp:=h.pps.1;have hap:=h.aps;have hcr:=h.crs.1;refine ae follows (fun args w=>call11 args w) func11 rfl 54 rfl ?_;refine run ?_;refine call (den_CheckG LC r h) ?_;unfold bh;by_cases hg:checkG r=0
 case neg=>
  have he:fstE (checkG r::chkN r)=checkG r:=by show (if checkG r≠0 then _ else _)=_; rw[if_pos hg]
  rw[he];refine runW (eq_false hg) ?_;exact fin rfl
 have he:fstE (checkG r::chkN r)=fstE (chkN r):=by show (if checkG r≠0 then _ else _)=_; rw[if_neg (fun e=>e hg)]
 rw[he];refine runW hg ?_;obtain ⟨LL,hLL⟩:∃l:List (List V),[lstV r.cks.length 32 30,lstV r.pps.length 1024 31,lstV r.aps.length 1024 32,lstV r.crs.length r.crs.length 33]=l:=⟨_,rfl⟩;have l0:LL[0]? = some (lstV r.cks.length 32 30):=by rw[<- hLL]; rfl
 have l1:LL[1]? = some (lstV r.pps.length 1024 31):=by rw[<- hLL]; rfl
 have l2:LL[2]? = some (lstV r.aps.length 1024 32):=by rw[<- hLL]; rfl
 have l3:LL[3]? = some (lstV r.crs.length r.crs.length 33):=by rw[<- hLL]; rfl
 have e0:=jnr (T:=T) r r.cks.length 30 [] (jdh r.cks) hck fun i hi=>den_clerkD LC r h i hi;have e1:=jnr (T:=T) r r.pps.length 31 [] (jdd r) hpp fun i hi=>den_proposalD r h i hi;have e2:=jnr (T:=T) r r.aps.length 32 [] (jcc r) hap fun i hi=>den_approvalD r h i hi;have e3:=jnr (T:=T) r r.crs.length 33 [] (jbp r) hcr fun i hi=>jrw L r h i hi
 refine loop ⟨[1,33,34,35],[1],[],[]⟩ (fun k:Nat=>k<=4/\fstE (chkN r)=fstE ((chkN r).drop k)) (fun k=>4-k)
  (fun k=>⟨54,[(1,.p 1 0),(33,.v (.slice 3 LL)),(34,.v (vi 4)),(35,.v (vi k))],[(1,.var r.cs)],[]⟩) 0 ⟨Nat.zero_le _,rfl⟩ ?_ ?_
 ·rintro k ⟨hk,hall⟩
  have next:∀ {x:Int},(chkN r)[k]? = some x->x=0->fstE (chkN r)=fstE ((chkN r).drop (k+1)):=fun {x} hx hz=>by
   rw[hall,fstE_drop hx,if_neg (fun e=>e hz)]
  have out:∀ {x y:Int},(chkN r)[k]? = some x->x=y->y≠0->(vi y:V)=vi (fstE (chkN r)):=fun {x y} hx hxy hz=>by
   subst hxy;rw[hall,fstE_drop hx,if_pos hz]
  have hcs:k=0\/k=1\/k=2\/k=3\/k=4:=by omega
  rcases hcs with rfl | rfl | rfl | rfl | rfl
  ·by_cases hm:32<r.cks.length
   ·refine runW l0 ?_;exact fin (out (x:=(chk 32 r.cks.length (jdh r.cks)).2) rfl (by rw[jgc hm]) (by decide))
   ·refine runW l0 ?_;refine call e0 ?_;by_cases hz:(chk r.cks.length r.cks.length (jdh r.cks)).2=0
    ·refine runW hz ?_;exact round 1 ⟨by omega,next (x:=(chk 32 r.cks.length (jdh r.cks)).2) rfl (by rw[jlc hm]; exact hz)⟩ (by omega)
    ·refine runW (eq_false hz) ?_;exact fin (out (x:=(chk 32 r.cks.length (jdh r.cks)).2) rfl (jlc hm) hz)
  ·by_cases hm:1024<r.pps.length
   ·refine runW l1 ?_;exact fin (out (x:=(chk 1024 r.pps.length (jdd r)).2) rfl (by rw[jgc hm]) (by decide))
   ·refine runW l1 ?_;refine call e1 ?_;by_cases hz:(chk r.pps.length r.pps.length (jdd r)).2=0
    ·refine runW hz ?_;exact round 2 ⟨by omega,next (x:=(chk 1024 r.pps.length (jdd r)).2) rfl (by rw[jlc hm]; exact hz)⟩ (by omega)
    ·refine runW (eq_false hz) ?_;exact fin (out (x:=(chk 1024 r.pps.length (jdd r)).2) rfl (jlc hm) hz)
  ·by_cases hm:1024<r.aps.length
   ·refine runW l2 ?_;exact fin (out (x:=(chk 1024 r.aps.length (jcc r)).2) rfl (by rw[jgc hm]) (by decide))
   ·refine runW l2 ?_;refine call e2 ?_;by_cases hz:(chk r.aps.length r.aps.length (jcc r)).2=0
    ·refine runW hz ?_;exact round 3 ⟨by omega,next (x:=(chk 1024 r.aps.length (jcc r)).2) rfl (by rw[jlc hm]; exact hz)⟩ (by omega)
    ·refine runW (eq_false hz) ?_;exact fin (out (x:=(chk 1024 r.aps.length (jcc r)).2) rfl (jlc hm) hz)
  ·refine runW l3 ?_;refine call e3 ?_;by_cases hz:(chk r.crs.length r.crs.length (jbp r)).2=0
   ·refine runW hz ?_;exact round 4 ⟨by omega,next (x:=(chk r.crs.length r.crs.length (jbp r)).2) rfl hz⟩ (by omega)
   ·refine runW (eq_false hz) ?_;exact fin (out (x:=(chk r.crs.length r.crs.length (jbp r)).2) rfl rfl hz)
  ·refine run ?_;refine fin (al ?_);rw[hall];rfl
 ·rw[<- hLL];rfl
def PostC (res:Rgs) (ks:List (Nat×Blk)) (b:Blk) (v:V):Prop:=ks=[(999000,.var res.cs)]/\(∃cs,b= .con cs)/\v= .tup []
theorem jma {res:Rgs} {ks:List (Nat×Blk)} {b:Blk} {v:V} (h:PostC res ks b v):okZ ks=true/\Ab.look 999050 ks=none:=by
 obtain ⟨rfl,-,-⟩:=h;exact ⟨rfl,rfl⟩
theorem finVc {P:Program} {res:Rgs} {st:St} {i:Nat} {cs:List V} (h1:Ab.look 999000 st.h=some (.var res.cs)) (h2:Ab.look i st.h=some (.con cs)) (hi:i ∉ [999000]:=by decide):fpostV P [] (PostC res) .nm st:=by
 refine ⟨[(999000,.var res.cs)],.con cs,.tup [],⟨rfl,⟨cs,rfl⟩,rfl⟩,?_,⟨i,.con cs,h2,?_,hi⟩,.tup [],rfl,.refl _⟩
 ·intro x hx;rw[List.mem_singleton.1 hx];exact ⟨_,h1,WkB.self _ _ _⟩
 ·have:=WkB.con (ex:=[]) (Wks.refl cs);rw[List.append_nil] at this;exact this
def cs_q (r:Rgs) (s:Option (Nat×Nat)):List V:=[ofcs r.ofs,au r.pls,fils r.fls,ruls r.rls,hlds r.hls,clks r.cks,sels r.sls,sOpt r.pps.length s,apvs r.aps,crts r.crs,deps r.dps,vi r.chg]
def row_q (r:Rgs) (s:Option (Nat×Nat)):Option Blk:=s.map fun x=> .var (r.pps.map Prp.cs).flatten (some x.1) (some (42,5,x.2))
theorem jr1 (r:Rgs) (h:r.Fit):DenU prog T 113 [.agg r.cs] (fun ro v=>∃s,okB r.pps.length s/\ro=row_q r s/\v= .agg (cs_q r s)):=by
 refine jov r h _ ?_;rintro y ⟨hO,hP,hF,hU,hD,hC,hS,hQ,hA,hK,hM⟩ M F0 w0 F ρ a w S;obtain ⟨F,S⟩:=ce (j:=8) S hA rfl (by rw[bb (cs:=Apv.cs) (z:=3) (fun _=>rfl)]; exact Nat.le_refl _) (af (ab (q:=176) _) (af (ab (q:=92) _) (af (ab (q:=95) _) (af (ab (q:=98) _) (af (ab (q:=11) _) (af (ab (q:=14) _) (af (ab (q:=17) _) (af (ab (q:=104) _) (af (ab (q:=107) _) (ab (q:=110) _))))))))));rw[bu (cs:=Apv.cs) (z:=3) (fun _=>rfl)] at S
 replace S:SimS prog T M F0 w0 F ρ ⟨180,[(2,.p 2 0)],(2,Blk.var [sOpt r.ofs.length y.sO,sOpt r.pls.length y.sP,sOpt r.fls.length y.sF,sOpt r.rls.length y.sU,sOpt r.hls.length y.sD,sOpt r.cks.length y.sC,sOpt r.sls.length y.sS,sOpt r.pps.length y.sQ,apvs r.aps,sOpt r.crs.length y.sK,sOpt r.dps.length y.sM,vi r.chg])::((rowB 176 (r.dps.map Dep.cs).flatten 105 2 y.sM)++((rowB 92 (r.rls.map Rul.cs).flatten 120 8 y.sU)++((rowB 95 (r.hls.map Hld.cs).flatten 122 7 y.sD)++((rowB 98 (r.cks.map Clk.cs).flatten 56 5 y.sC)++((rowB 11 (r.ofs.map Ofc.cs).flatten 112 5 y.sO)++((rowB 14 (r.pls.map Plan.cs).flatten 118 5 y.sP)++((rowB 17 (r.fls.map Fil.cs).flatten 86 8 y.sF)++((rowB 104 (r.sls.map Sel.cs).flatten 134 3 y.sS)++((rowB 107 (r.pps.map Prp.cs).flatten 42 5 y.sQ)++(rowB 110 (r.crs.map Crt.cs).flatten 60 6 y.sK)))))))))),[]⟩ a w:=S
 obtain ⟨F,S⟩:=ce (j:=10) S hM rfl (by rw[bb (cs:=Dep.cs) (z:=2) (fun _=>rfl)]; exact Nat.le_refl _) (af (ab (q:=92) _) (af (ab (q:=95) _) (af (ab (q:=98) _) (af (ab (q:=11) _) (af (ab (q:=14) _) (af (ab (q:=17) _) (af (ab (q:=104) _) (af (ab (q:=107) _) (ab (q:=110) _)))))))));rw[bu (cs:=Dep.cs) (z:=2) (fun _=>rfl)] at S
 replace S:SimS prog T M F0 w0 F ρ ⟨180,[(2,.p 2 0)],(2,Blk.var [sOpt r.ofs.length y.sO,sOpt r.pls.length y.sP,sOpt r.fls.length y.sF,sOpt r.rls.length y.sU,sOpt r.hls.length y.sD,sOpt r.cks.length y.sC,sOpt r.sls.length y.sS,sOpt r.pps.length y.sQ,apvs r.aps,sOpt r.crs.length y.sK,deps r.dps,vi r.chg])::((rowB 92 (r.rls.map Rul.cs).flatten 120 8 y.sU)++((rowB 95 (r.hls.map Hld.cs).flatten 122 7 y.sD)++((rowB 98 (r.cks.map Clk.cs).flatten 56 5 y.sC)++((rowB 11 (r.ofs.map Ofc.cs).flatten 112 5 y.sO)++((rowB 14 (r.pls.map Plan.cs).flatten 118 5 y.sP)++((rowB 17 (r.fls.map Fil.cs).flatten 86 8 y.sF)++((rowB 104 (r.sls.map Sel.cs).flatten 134 3 y.sS)++((rowB 107 (r.pps.map Prp.cs).flatten 42 5 y.sQ)++(rowB 110 (r.crs.map Crt.cs).flatten 60 6 y.sK))))))))),[]⟩ a w:=S
 obtain ⟨F,S⟩:=ce (j:=3) S hU rfl (by rw[bb (cs:=Rul.cs) (z:=8) (fun _=>rfl)]; exact Nat.le_refl _) (af (ab (q:=95) _) (af (ab (q:=98) _) (af (ab (q:=11) _) (af (ab (q:=14) _) (af (ab (q:=17) _) (af (ab (q:=104) _) (af (ab (q:=107) _) (ab (q:=110) _))))))));rw[bu (cs:=Rul.cs) (z:=8) (fun _=>rfl)] at S
 replace S:SimS prog T M F0 w0 F ρ ⟨180,[(2,.p 2 0)],(2,Blk.var [sOpt r.ofs.length y.sO,sOpt r.pls.length y.sP,sOpt r.fls.length y.sF,ruls r.rls,sOpt r.hls.length y.sD,sOpt r.cks.length y.sC,sOpt r.sls.length y.sS,sOpt r.pps.length y.sQ,apvs r.aps,sOpt r.crs.length y.sK,deps r.dps,vi r.chg])::((rowB 95 (r.hls.map Hld.cs).flatten 122 7 y.sD)++((rowB 98 (r.cks.map Clk.cs).flatten 56 5 y.sC)++((rowB 11 (r.ofs.map Ofc.cs).flatten 112 5 y.sO)++((rowB 14 (r.pls.map Plan.cs).flatten 118 5 y.sP)++((rowB 17 (r.fls.map Fil.cs).flatten 86 8 y.sF)++((rowB 104 (r.sls.map Sel.cs).flatten 134 3 y.sS)++((rowB 107 (r.pps.map Prp.cs).flatten 42 5 y.sQ)++(rowB 110 (r.crs.map Crt.cs).flatten 60 6 y.sK)))))))),[]⟩ a w:=S
 obtain ⟨F,S⟩:=ce (j:=4) S hD rfl (by rw[bb (cs:=Hld.cs) (z:=7) (fun _=>rfl)]; exact Nat.le_refl _) (af (ab (q:=98) _) (af (ab (q:=11) _) (af (ab (q:=14) _) (af (ab (q:=17) _) (af (ab (q:=104) _) (af (ab (q:=107) _) (ab (q:=110) _)))))));rw[bu (cs:=Hld.cs) (z:=7) (fun _=>rfl)] at S
 replace S:SimS prog T M F0 w0 F ρ ⟨180,[(2,.p 2 0)],(2,Blk.var [sOpt r.ofs.length y.sO,sOpt r.pls.length y.sP,sOpt r.fls.length y.sF,ruls r.rls,hlds r.hls,sOpt r.cks.length y.sC,sOpt r.sls.length y.sS,sOpt r.pps.length y.sQ,apvs r.aps,sOpt r.crs.length y.sK,deps r.dps,vi r.chg])::((rowB 98 (r.cks.map Clk.cs).flatten 56 5 y.sC)++((rowB 11 (r.ofs.map Ofc.cs).flatten 112 5 y.sO)++((rowB 14 (r.pls.map Plan.cs).flatten 118 5 y.sP)++((rowB 17 (r.fls.map Fil.cs).flatten 86 8 y.sF)++((rowB 104 (r.sls.map Sel.cs).flatten 134 3 y.sS)++((rowB 107 (r.pps.map Prp.cs).flatten 42 5 y.sQ)++(rowB 110 (r.crs.map Crt.cs).flatten 60 6 y.sK))))))),[]⟩ a w:=S
 obtain ⟨F,S⟩:=ce (j:=5) S hC rfl (by rw[bb (cs:=Clk.cs) (z:=5) (fun _=>rfl)]; exact Nat.le_refl _) (af (ab (q:=11) _) (af (ab (q:=14) _) (af (ab (q:=17) _) (af (ab (q:=104) _) (af (ab (q:=107) _) (ab (q:=110) _))))));rw[bu (cs:=Clk.cs) (z:=5) (fun _=>rfl)] at S
 replace S:SimS prog T M F0 w0 F ρ ⟨180,[(2,.p 2 0)],(2,Blk.var [sOpt r.ofs.length y.sO,sOpt r.pls.length y.sP,sOpt r.fls.length y.sF,ruls r.rls,hlds r.hls,clks r.cks,sOpt r.sls.length y.sS,sOpt r.pps.length y.sQ,apvs r.aps,sOpt r.crs.length y.sK,deps r.dps,vi r.chg])::((rowB 11 (r.ofs.map Ofc.cs).flatten 112 5 y.sO)++((rowB 14 (r.pls.map Plan.cs).flatten 118 5 y.sP)++((rowB 17 (r.fls.map Fil.cs).flatten 86 8 y.sF)++((rowB 104 (r.sls.map Sel.cs).flatten 134 3 y.sS)++((rowB 107 (r.pps.map Prp.cs).flatten 42 5 y.sQ)++(rowB 110 (r.crs.map Crt.cs).flatten 60 6 y.sK)))))),[]⟩ a w:=S
 obtain ⟨F,S⟩:=ce (j:=0) S hO rfl (by rw[bb (cs:=Ofc.cs) (z:=5) (fun _=>rfl)]; exact Nat.le_refl _) (af (ab (q:=14) _) (af (ab (q:=17) _) (af (ab (q:=104) _) (af (ab (q:=107) _) (ab (q:=110) _)))));rw[bu (cs:=Ofc.cs) (z:=5) (fun _=>rfl)] at S
 replace S:SimS prog T M F0 w0 F ρ ⟨180,[(2,.p 2 0)],(2,Blk.var [ofcs r.ofs,sOpt r.pls.length y.sP,sOpt r.fls.length y.sF,ruls r.rls,hlds r.hls,clks r.cks,sOpt r.sls.length y.sS,sOpt r.pps.length y.sQ,apvs r.aps,sOpt r.crs.length y.sK,deps r.dps,vi r.chg])::((rowB 14 (r.pls.map Plan.cs).flatten 118 5 y.sP)++((rowB 17 (r.fls.map Fil.cs).flatten 86 8 y.sF)++((rowB 104 (r.sls.map Sel.cs).flatten 134 3 y.sS)++((rowB 107 (r.pps.map Prp.cs).flatten 42 5 y.sQ)++(rowB 110 (r.crs.map Crt.cs).flatten 60 6 y.sK))))),[]⟩ a w:=S
 obtain ⟨F,S⟩:=ce (j:=1) S hP rfl (by rw[bb (cs:=Plan.cs) (z:=5) (fun _=>rfl)]; exact Nat.le_refl _) (af (ab (q:=17) _) (af (ab (q:=104) _) (af (ab (q:=107) _) (ab (q:=110) _))));rw[bu (cs:=Plan.cs) (z:=5) (fun _=>rfl)] at S
 replace S:SimS prog T M F0 w0 F ρ ⟨180,[(2,.p 2 0)],(2,Blk.var [ofcs r.ofs,au r.pls,sOpt r.fls.length y.sF,ruls r.rls,hlds r.hls,clks r.cks,sOpt r.sls.length y.sS,sOpt r.pps.length y.sQ,apvs r.aps,sOpt r.crs.length y.sK,deps r.dps,vi r.chg])::((rowB 17 (r.fls.map Fil.cs).flatten 86 8 y.sF)++((rowB 104 (r.sls.map Sel.cs).flatten 134 3 y.sS)++((rowB 107 (r.pps.map Prp.cs).flatten 42 5 y.sQ)++(rowB 110 (r.crs.map Crt.cs).flatten 60 6 y.sK)))),[]⟩ a w:=S
 obtain ⟨F,S⟩:=ce (j:=2) S hF rfl (by rw[bb (cs:=Fil.cs) (z:=8) (fun _=>rfl)]; exact Nat.le_refl _) (af (ab (q:=104) _) (af (ab (q:=107) _) (ab (q:=110) _)));rw[bu (cs:=Fil.cs) (z:=8) (fun _=>rfl)] at S
 replace S:SimS prog T M F0 w0 F ρ ⟨180,[(2,.p 2 0)],(2,Blk.var [ofcs r.ofs,au r.pls,fils r.fls,ruls r.rls,hlds r.hls,clks r.cks,sOpt r.sls.length y.sS,sOpt r.pps.length y.sQ,apvs r.aps,sOpt r.crs.length y.sK,deps r.dps,vi r.chg])::((rowB 104 (r.sls.map Sel.cs).flatten 134 3 y.sS)++((rowB 107 (r.pps.map Prp.cs).flatten 42 5 y.sQ)++(rowB 110 (r.crs.map Crt.cs).flatten 60 6 y.sK))),[]⟩ a w:=S
 obtain ⟨F,S⟩:=ce (j:=6) S hS rfl (by rw[bb (cs:=Sel.cs) (z:=3) (fun _=>rfl)]; exact Nat.le_refl _) (af (ab (q:=107) _) (ab (q:=110) _));rw[bu (cs:=Sel.cs) (z:=3) (fun _=>rfl)] at S
 replace S:SimS prog T M F0 w0 F ρ ⟨180,[(2,.p 2 0)],(2,Blk.var [ofcs r.ofs,au r.pls,fils r.fls,ruls r.rls,hlds r.hls,clks r.cks,sels r.sls,sOpt r.pps.length y.sQ,apvs r.aps,sOpt r.crs.length y.sK,deps r.dps,vi r.chg])::((rowB 107 (r.pps.map Prp.cs).flatten 42 5 y.sQ)++(rowB 110 (r.crs.map Crt.cs).flatten 60 6 y.sK)),[]⟩ a w:=S
 have S:=sim_rot (h1:=[(2,_)]) S (ab _) (ab (q:=110) _);simp only[List.cons_append,List.nil_append] at S;obtain ⟨F,S⟩:=ce (j:=9) S hK rfl (by rw[bb (cs:=Crt.cs) (z:=6) (fun _=>rfl)]; exact Nat.le_refl _) (ab (q:=107) _);rw[bu (cs:=Crt.cs) (z:=6) (fun _=>rfl)] at S
 replace S:SimS prog T M F0 w0 F ρ ⟨180,[(2,.p 2 0)],(2,Blk.var [ofcs r.ofs,au r.pls,fils r.fls,ruls r.rls,hlds r.hls,clks r.cks,sels r.sls,sOpt r.pps.length y.sQ,apvs r.aps,crts r.crs,deps r.dps,vi r.chg])::(rowB 107 (r.pps.map Prp.cs).flatten 42 5 y.sQ),[]⟩ a w:=S
 refine ⟨F,ρ,_,S,fun i=>(cs_q r y.sQ).getD i (vi 0),rfl,?_⟩;cases hs:y.sQ with
 | none=>rw[hs] at hQ; exact .inl ⟨none,hQ,rfl,rfl⟩
 | some z=>rw[hs] at hQ; exact .inr ⟨107,_,z.1,by rfl,rfl,some z,hQ,rfl,rfl⟩
def cs_a (r:Rgs) (s:Option (Nat×Nat)):List V:=[ofcs r.ofs,au r.pls,fils r.fls,ruls r.rls,hlds r.hls,clks r.cks,sels r.sls,prps r.pps,sOpt r.aps.length s,crts r.crs,deps r.dps,vi r.chg]
def row_a (r:Rgs) (s:Option (Nat×Nat)):Option Blk:=s.map fun x=> .var (r.aps.map Apv.cs).flatten (some x.1) (some (51,3,x.2))
theorem denU_clone_a (r:Rgs) (h:r.Fit):DenU prog T 113 [.agg r.cs] (fun ro v=>∃s,okB r.aps.length s/\ro=row_a r s/\v= .agg (cs_a r s)):=by
 refine jov r h _ ?_;rintro y ⟨hO,hP,hF,hU,hD,hC,hS,hQ,hA,hK,hM⟩ M F0 w0 F ρ a w S;have S:=sim_rot (h1:=[(2,_)]) S (ab _) (af (ab (q:=176) _) (af (ab (q:=92) _) (af (ab (q:=95) _) (af (ab (q:=98) _) (af (ab (q:=11) _) (af (ab (q:=14) _) (af (ab (q:=17) _) (af (ab (q:=104) _) (af (ab (q:=107) _) (ab (q:=110) _))))))))));simp only[List.append_assoc,List.cons_append,List.nil_append] at S;obtain ⟨F,S⟩:=ce (j:=10) S hM rfl (by rw[bb (cs:=Dep.cs) (z:=2) (fun _=>rfl)]; exact Nat.le_refl _) (af (ab (q:=92) _) (af (ab (q:=95) _) (af (ab (q:=98) _) (af (ab (q:=11) _) (af (ab (q:=14) _) (af (ab (q:=17) _) (af (ab (q:=104) _) (af (ab (q:=107) _) (af (ab (q:=110) _) (ab (q:=173) _))))))))));rw[bu (cs:=Dep.cs) (z:=2) (fun _=>rfl)] at S
 replace S:SimS prog T M F0 w0 F ρ ⟨180,[(2,.p 2 0)],(2,Blk.var [sOpt r.ofs.length y.sO,sOpt r.pls.length y.sP,sOpt r.fls.length y.sF,sOpt r.rls.length y.sU,sOpt r.hls.length y.sD,sOpt r.cks.length y.sC,sOpt r.sls.length y.sS,sOpt r.pps.length y.sQ,sOpt r.aps.length y.sA,sOpt r.crs.length y.sK,deps r.dps,vi r.chg])::((rowB 92 (r.rls.map Rul.cs).flatten 120 8 y.sU)++((rowB 95 (r.hls.map Hld.cs).flatten 122 7 y.sD)++((rowB 98 (r.cks.map Clk.cs).flatten 56 5 y.sC)++((rowB 11 (r.ofs.map Ofc.cs).flatten 112 5 y.sO)++((rowB 14 (r.pls.map Plan.cs).flatten 118 5 y.sP)++((rowB 17 (r.fls.map Fil.cs).flatten 86 8 y.sF)++((rowB 104 (r.sls.map Sel.cs).flatten 134 3 y.sS)++((rowB 107 (r.pps.map Prp.cs).flatten 42 5 y.sQ)++((rowB 110 (r.crs.map Crt.cs).flatten 60 6 y.sK)++(rowB 173 (r.aps.map Apv.cs).flatten 51 3 y.sA)))))))))),[]⟩ a w:=S
 obtain ⟨F,S⟩:=ce (j:=3) S hU rfl (by rw[bb (cs:=Rul.cs) (z:=8) (fun _=>rfl)]; exact Nat.le_refl _) (af (ab (q:=95) _) (af (ab (q:=98) _) (af (ab (q:=11) _) (af (ab (q:=14) _) (af (ab (q:=17) _) (af (ab (q:=104) _) (af (ab (q:=107) _) (af (ab (q:=110) _) (ab (q:=173) _)))))))));rw[bu (cs:=Rul.cs) (z:=8) (fun _=>rfl)] at S
 replace S:SimS prog T M F0 w0 F ρ ⟨180,[(2,.p 2 0)],(2,Blk.var [sOpt r.ofs.length y.sO,sOpt r.pls.length y.sP,sOpt r.fls.length y.sF,ruls r.rls,sOpt r.hls.length y.sD,sOpt r.cks.length y.sC,sOpt r.sls.length y.sS,sOpt r.pps.length y.sQ,sOpt r.aps.length y.sA,sOpt r.crs.length y.sK,deps r.dps,vi r.chg])::((rowB 95 (r.hls.map Hld.cs).flatten 122 7 y.sD)++((rowB 98 (r.cks.map Clk.cs).flatten 56 5 y.sC)++((rowB 11 (r.ofs.map Ofc.cs).flatten 112 5 y.sO)++((rowB 14 (r.pls.map Plan.cs).flatten 118 5 y.sP)++((rowB 17 (r.fls.map Fil.cs).flatten 86 8 y.sF)++((rowB 104 (r.sls.map Sel.cs).flatten 134 3 y.sS)++((rowB 107 (r.pps.map Prp.cs).flatten 42 5 y.sQ)++((rowB 110 (r.crs.map Crt.cs).flatten 60 6 y.sK)++(rowB 173 (r.aps.map Apv.cs).flatten 51 3 y.sA))))))))),[]⟩ a w:=S
 obtain ⟨F,S⟩:=ce (j:=4) S hD rfl (by rw[bb (cs:=Hld.cs) (z:=7) (fun _=>rfl)]; exact Nat.le_refl _) (af (ab (q:=98) _) (af (ab (q:=11) _) (af (ab (q:=14) _) (af (ab (q:=17) _) (af (ab (q:=104) _) (af (ab (q:=107) _) (af (ab (q:=110) _) (ab (q:=173) _))))))));rw[bu (cs:=Hld.cs) (z:=7) (fun _=>rfl)] at S
 replace S:SimS prog T M F0 w0 F ρ ⟨180,[(2,.p 2 0)],(2,Blk.var [sOpt r.ofs.length y.sO,sOpt r.pls.length y.sP,sOpt r.fls.length y.sF,ruls r.rls,hlds r.hls,sOpt r.cks.length y.sC,sOpt r.sls.length y.sS,sOpt r.pps.length y.sQ,sOpt r.aps.length y.sA,sOpt r.crs.length y.sK,deps r.dps,vi r.chg])::((rowB 98 (r.cks.map Clk.cs).flatten 56 5 y.sC)++((rowB 11 (r.ofs.map Ofc.cs).flatten 112 5 y.sO)++((rowB 14 (r.pls.map Plan.cs).flatten 118 5 y.sP)++((rowB 17 (r.fls.map Fil.cs).flatten 86 8 y.sF)++((rowB 104 (r.sls.map Sel.cs).flatten 134 3 y.sS)++((rowB 107 (r.pps.map Prp.cs).flatten 42 5 y.sQ)++((rowB 110 (r.crs.map Crt.cs).flatten 60 6 y.sK)++(rowB 173 (r.aps.map Apv.cs).flatten 51 3 y.sA)))))))),[]⟩ a w:=S
 obtain ⟨F,S⟩:=ce (j:=5) S hC rfl (by rw[bb (cs:=Clk.cs) (z:=5) (fun _=>rfl)]; exact Nat.le_refl _) (af (ab (q:=11) _) (af (ab (q:=14) _) (af (ab (q:=17) _) (af (ab (q:=104) _) (af (ab (q:=107) _) (af (ab (q:=110) _) (ab (q:=173) _)))))));rw[bu (cs:=Clk.cs) (z:=5) (fun _=>rfl)] at S
 replace S:SimS prog T M F0 w0 F ρ ⟨180,[(2,.p 2 0)],(2,Blk.var [sOpt r.ofs.length y.sO,sOpt r.pls.length y.sP,sOpt r.fls.length y.sF,ruls r.rls,hlds r.hls,clks r.cks,sOpt r.sls.length y.sS,sOpt r.pps.length y.sQ,sOpt r.aps.length y.sA,sOpt r.crs.length y.sK,deps r.dps,vi r.chg])::((rowB 11 (r.ofs.map Ofc.cs).flatten 112 5 y.sO)++((rowB 14 (r.pls.map Plan.cs).flatten 118 5 y.sP)++((rowB 17 (r.fls.map Fil.cs).flatten 86 8 y.sF)++((rowB 104 (r.sls.map Sel.cs).flatten 134 3 y.sS)++((rowB 107 (r.pps.map Prp.cs).flatten 42 5 y.sQ)++((rowB 110 (r.crs.map Crt.cs).flatten 60 6 y.sK)++(rowB 173 (r.aps.map Apv.cs).flatten 51 3 y.sA))))))),[]⟩ a w:=S
 obtain ⟨F,S⟩:=ce (j:=0) S hO rfl (by rw[bb (cs:=Ofc.cs) (z:=5) (fun _=>rfl)]; exact Nat.le_refl _) (af (ab (q:=14) _) (af (ab (q:=17) _) (af (ab (q:=104) _) (af (ab (q:=107) _) (af (ab (q:=110) _) (ab (q:=173) _))))));rw[bu (cs:=Ofc.cs) (z:=5) (fun _=>rfl)] at S
 replace S:SimS prog T M F0 w0 F ρ ⟨180,[(2,.p 2 0)],(2,Blk.var [ofcs r.ofs,sOpt r.pls.length y.sP,sOpt r.fls.length y.sF,ruls r.rls,hlds r.hls,clks r.cks,sOpt r.sls.length y.sS,sOpt r.pps.length y.sQ,sOpt r.aps.length y.sA,sOpt r.crs.length y.sK,deps r.dps,vi r.chg])::((rowB 14 (r.pls.map Plan.cs).flatten 118 5 y.sP)++((rowB 17 (r.fls.map Fil.cs).flatten 86 8 y.sF)++((rowB 104 (r.sls.map Sel.cs).flatten 134 3 y.sS)++((rowB 107 (r.pps.map Prp.cs).flatten 42 5 y.sQ)++((rowB 110 (r.crs.map Crt.cs).flatten 60 6 y.sK)++(rowB 173 (r.aps.map Apv.cs).flatten 51 3 y.sA)))))),[]⟩ a w:=S
 obtain ⟨F,S⟩:=ce (j:=1) S hP rfl (by rw[bb (cs:=Plan.cs) (z:=5) (fun _=>rfl)]; exact Nat.le_refl _) (af (ab (q:=17) _) (af (ab (q:=104) _) (af (ab (q:=107) _) (af (ab (q:=110) _) (ab (q:=173) _)))));rw[bu (cs:=Plan.cs) (z:=5) (fun _=>rfl)] at S
 replace S:SimS prog T M F0 w0 F ρ ⟨180,[(2,.p 2 0)],(2,Blk.var [ofcs r.ofs,au r.pls,sOpt r.fls.length y.sF,ruls r.rls,hlds r.hls,clks r.cks,sOpt r.sls.length y.sS,sOpt r.pps.length y.sQ,sOpt r.aps.length y.sA,sOpt r.crs.length y.sK,deps r.dps,vi r.chg])::((rowB 17 (r.fls.map Fil.cs).flatten 86 8 y.sF)++((rowB 104 (r.sls.map Sel.cs).flatten 134 3 y.sS)++((rowB 107 (r.pps.map Prp.cs).flatten 42 5 y.sQ)++((rowB 110 (r.crs.map Crt.cs).flatten 60 6 y.sK)++(rowB 173 (r.aps.map Apv.cs).flatten 51 3 y.sA))))),[]⟩ a w:=S
 obtain ⟨F,S⟩:=ce (j:=2) S hF rfl (by rw[bb (cs:=Fil.cs) (z:=8) (fun _=>rfl)]; exact Nat.le_refl _) (af (ab (q:=104) _) (af (ab (q:=107) _) (af (ab (q:=110) _) (ab (q:=173) _))));rw[bu (cs:=Fil.cs) (z:=8) (fun _=>rfl)] at S
 replace S:SimS prog T M F0 w0 F ρ ⟨180,[(2,.p 2 0)],(2,Blk.var [ofcs r.ofs,au r.pls,fils r.fls,ruls r.rls,hlds r.hls,clks r.cks,sOpt r.sls.length y.sS,sOpt r.pps.length y.sQ,sOpt r.aps.length y.sA,sOpt r.crs.length y.sK,deps r.dps,vi r.chg])::((rowB 104 (r.sls.map Sel.cs).flatten 134 3 y.sS)++((rowB 107 (r.pps.map Prp.cs).flatten 42 5 y.sQ)++((rowB 110 (r.crs.map Crt.cs).flatten 60 6 y.sK)++(rowB 173 (r.aps.map Apv.cs).flatten 51 3 y.sA)))),[]⟩ a w:=S
 obtain ⟨F,S⟩:=ce (j:=6) S hS rfl (by rw[bb (cs:=Sel.cs) (z:=3) (fun _=>rfl)]; exact Nat.le_refl _) (af (ab (q:=107) _) (af (ab (q:=110) _) (ab (q:=173) _)));rw[bu (cs:=Sel.cs) (z:=3) (fun _=>rfl)] at S
 replace S:SimS prog T M F0 w0 F ρ ⟨180,[(2,.p 2 0)],(2,Blk.var [ofcs r.ofs,au r.pls,fils r.fls,ruls r.rls,hlds r.hls,clks r.cks,sels r.sls,sOpt r.pps.length y.sQ,sOpt r.aps.length y.sA,sOpt r.crs.length y.sK,deps r.dps,vi r.chg])::((rowB 107 (r.pps.map Prp.cs).flatten 42 5 y.sQ)++((rowB 110 (r.crs.map Crt.cs).flatten 60 6 y.sK)++(rowB 173 (r.aps.map Apv.cs).flatten 51 3 y.sA))),[]⟩ a w:=S
 obtain ⟨F,S⟩:=ce (j:=7) S hQ rfl (by rw[bb (cs:=Prp.cs) (z:=5) (fun _=>rfl)]; exact Nat.le_refl _) (af (ab (q:=110) _) (ab (q:=173) _));rw[bu (cs:=Prp.cs) (z:=5) (fun _=>rfl)] at S
 replace S:SimS prog T M F0 w0 F ρ ⟨180,[(2,.p 2 0)],(2,Blk.var [ofcs r.ofs,au r.pls,fils r.fls,ruls r.rls,hlds r.hls,clks r.cks,sels r.sls,prps r.pps,sOpt r.aps.length y.sA,sOpt r.crs.length y.sK,deps r.dps,vi r.chg])::((rowB 110 (r.crs.map Crt.cs).flatten 60 6 y.sK)++(rowB 173 (r.aps.map Apv.cs).flatten 51 3 y.sA)),[]⟩ a w:=S
 obtain ⟨F,S⟩:=ce (j:=9) S hK rfl (by rw[bb (cs:=Crt.cs) (z:=6) (fun _=>rfl)]; exact Nat.le_refl _) (ab (q:=173) _);rw[bu (cs:=Crt.cs) (z:=6) (fun _=>rfl)] at S
 replace S:SimS prog T M F0 w0 F ρ ⟨180,[(2,.p 2 0)],(2,Blk.var [ofcs r.ofs,au r.pls,fils r.fls,ruls r.rls,hlds r.hls,clks r.cks,sels r.sls,prps r.pps,sOpt r.aps.length y.sA,crts r.crs,deps r.dps,vi r.chg])::(rowB 173 (r.aps.map Apv.cs).flatten 51 3 y.sA),[]⟩ a w:=S
 refine ⟨F,ρ,_,S,fun i=>(cs_a r y.sA).getD i (vi 0),rfl,?_⟩;cases hs:y.sA with
 | none=>rw[hs] at hA; exact .inl ⟨none,hA,rfl,rfl⟩
 | some z=>rw[hs] at hA; exact .inr ⟨173,_,z.1,by rfl,rfl,some z,hA,rfl,rfl⟩
def cs_k (r:Rgs) (s:Option (Nat×Nat)):List V:=[ofcs r.ofs,au r.pls,fils r.fls,ruls r.rls,hlds r.hls,clks r.cks,sels r.sls,prps r.pps,apvs r.aps,sOpt r.crs.length s,deps r.dps,vi r.chg]
def row_k (r:Rgs) (s:Option (Nat×Nat)):Option Blk:=s.map fun x=> .var (r.crs.map Crt.cs).flatten (some x.1) (some (60,6,x.2))
theorem denU_clone_k (r:Rgs) (h:r.Fit):DenU prog T 113 [.agg r.cs] (fun ro v=>∃s,okB r.crs.length s/\ro=row_k r s/\v= .agg (cs_k r s)):=by
 refine jov r h _ ?_;rintro y ⟨hO,hP,hF,hU,hD,hC,hS,hQ,hA,hK,hM⟩ M F0 w0 F ρ a w S;obtain ⟨F,S⟩:=ce (j:=8) S hA rfl (by rw[bb (cs:=Apv.cs) (z:=3) (fun _=>rfl)]; exact Nat.le_refl _) (af (ab (q:=176) _) (af (ab (q:=92) _) (af (ab (q:=95) _) (af (ab (q:=98) _) (af (ab (q:=11) _) (af (ab (q:=14) _) (af (ab (q:=17) _) (af (ab (q:=104) _) (af (ab (q:=107) _) (ab (q:=110) _))))))))));rw[bu (cs:=Apv.cs) (z:=3) (fun _=>rfl)] at S
 replace S:SimS prog T M F0 w0 F ρ ⟨180,[(2,.p 2 0)],(2,Blk.var [sOpt r.ofs.length y.sO,sOpt r.pls.length y.sP,sOpt r.fls.length y.sF,sOpt r.rls.length y.sU,sOpt r.hls.length y.sD,sOpt r.cks.length y.sC,sOpt r.sls.length y.sS,sOpt r.pps.length y.sQ,apvs r.aps,sOpt r.crs.length y.sK,sOpt r.dps.length y.sM,vi r.chg])::((rowB 176 (r.dps.map Dep.cs).flatten 105 2 y.sM)++((rowB 92 (r.rls.map Rul.cs).flatten 120 8 y.sU)++((rowB 95 (r.hls.map Hld.cs).flatten 122 7 y.sD)++((rowB 98 (r.cks.map Clk.cs).flatten 56 5 y.sC)++((rowB 11 (r.ofs.map Ofc.cs).flatten 112 5 y.sO)++((rowB 14 (r.pls.map Plan.cs).flatten 118 5 y.sP)++((rowB 17 (r.fls.map Fil.cs).flatten 86 8 y.sF)++((rowB 104 (r.sls.map Sel.cs).flatten 134 3 y.sS)++((rowB 107 (r.pps.map Prp.cs).flatten 42 5 y.sQ)++(rowB 110 (r.crs.map Crt.cs).flatten 60 6 y.sK)))))))))),[]⟩ a w:=S
 obtain ⟨F,S⟩:=ce (j:=10) S hM rfl (by rw[bb (cs:=Dep.cs) (z:=2) (fun _=>rfl)]; exact Nat.le_refl _) (af (ab (q:=92) _) (af (ab (q:=95) _) (af (ab (q:=98) _) (af (ab (q:=11) _) (af (ab (q:=14) _) (af (ab (q:=17) _) (af (ab (q:=104) _) (af (ab (q:=107) _) (ab (q:=110) _)))))))));rw[bu (cs:=Dep.cs) (z:=2) (fun _=>rfl)] at S
 replace S:SimS prog T M F0 w0 F ρ ⟨180,[(2,.p 2 0)],(2,Blk.var [sOpt r.ofs.length y.sO,sOpt r.pls.length y.sP,sOpt r.fls.length y.sF,sOpt r.rls.length y.sU,sOpt r.hls.length y.sD,sOpt r.cks.length y.sC,sOpt r.sls.length y.sS,sOpt r.pps.length y.sQ,apvs r.aps,sOpt r.crs.length y.sK,deps r.dps,vi r.chg])::((rowB 92 (r.rls.map Rul.cs).flatten 120 8 y.sU)++((rowB 95 (r.hls.map Hld.cs).flatten 122 7 y.sD)++((rowB 98 (r.cks.map Clk.cs).flatten 56 5 y.sC)++((rowB 11 (r.ofs.map Ofc.cs).flatten 112 5 y.sO)++((rowB 14 (r.pls.map Plan.cs).flatten 118 5 y.sP)++((rowB 17 (r.fls.map Fil.cs).flatten 86 8 y.sF)++((rowB 104 (r.sls.map Sel.cs).flatten 134 3 y.sS)++((rowB 107 (r.pps.map Prp.cs).flatten 42 5 y.sQ)++(rowB 110 (r.crs.map Crt.cs).flatten 60 6 y.sK))))))))),[]⟩ a w:=S
 obtain ⟨F,S⟩:=ce (j:=3) S hU rfl (by rw[bb (cs:=Rul.cs) (z:=8) (fun _=>rfl)]; exact Nat.le_refl _) (af (ab (q:=95) _) (af (ab (q:=98) _) (af (ab (q:=11) _) (af (ab (q:=14) _) (af (ab (q:=17) _) (af (ab (q:=104) _) (af (ab (q:=107) _) (ab (q:=110) _))))))));rw[bu (cs:=Rul.cs) (z:=8) (fun _=>rfl)] at S
 replace S:SimS prog T M F0 w0 F ρ ⟨180,[(2,.p 2 0)],(2,Blk.var [sOpt r.ofs.length y.sO,sOpt r.pls.length y.sP,sOpt r.fls.length y.sF,ruls r.rls,sOpt r.hls.length y.sD,sOpt r.cks.length y.sC,sOpt r.sls.length y.sS,sOpt r.pps.length y.sQ,apvs r.aps,sOpt r.crs.length y.sK,deps r.dps,vi r.chg])::((rowB 95 (r.hls.map Hld.cs).flatten 122 7 y.sD)++((rowB 98 (r.cks.map Clk.cs).flatten 56 5 y.sC)++((rowB 11 (r.ofs.map Ofc.cs).flatten 112 5 y.sO)++((rowB 14 (r.pls.map Plan.cs).flatten 118 5 y.sP)++((rowB 17 (r.fls.map Fil.cs).flatten 86 8 y.sF)++((rowB 104 (r.sls.map Sel.cs).flatten 134 3 y.sS)++((rowB 107 (r.pps.map Prp.cs).flatten 42 5 y.sQ)++(rowB 110 (r.crs.map Crt.cs).flatten 60 6 y.sK)))))))),[]⟩ a w:=S
 obtain ⟨F,S⟩:=ce (j:=4) S hD rfl (by rw[bb (cs:=Hld.cs) (z:=7) (fun _=>rfl)]; exact Nat.le_refl _) (af (ab (q:=98) _) (af (ab (q:=11) _) (af (ab (q:=14) _) (af (ab (q:=17) _) (af (ab (q:=104) _) (af (ab (q:=107) _) (ab (q:=110) _)))))));rw[bu (cs:=Hld.cs) (z:=7) (fun _=>rfl)] at S
 replace S:SimS prog T M F0 w0 F ρ ⟨180,[(2,.p 2 0)],(2,Blk.var [sOpt r.ofs.length y.sO,sOpt r.pls.length y.sP,sOpt r.fls.length y.sF,ruls r.rls,hlds r.hls,sOpt r.cks.length y.sC,sOpt r.sls.length y.sS,sOpt r.pps.length y.sQ,apvs r.aps,sOpt r.crs.length y.sK,deps r.dps,vi r.chg])::((rowB 98 (r.cks.map Clk.cs).flatten 56 5 y.sC)++((rowB 11 (r.ofs.map Ofc.cs).flatten 112 5 y.sO)++((rowB 14 (r.pls.map Plan.cs).flatten 118 5 y.sP)++((rowB 17 (r.fls.map Fil.cs).flatten 86 8 y.sF)++((rowB 104 (r.sls.map Sel.cs).flatten 134 3 y.sS)++((rowB 107 (r.pps.map Prp.cs).flatten 42 5 y.sQ)++(rowB 110 (r.crs.map Crt.cs).flatten 60 6 y.sK))))))),[]⟩ a w:=S
 obtain ⟨F,S⟩:=ce (j:=5) S hC rfl (by rw[bb (cs:=Clk.cs) (z:=5) (fun _=>rfl)]; exact Nat.le_refl _) (af (ab (q:=11) _) (af (ab (q:=14) _) (af (ab (q:=17) _) (af (ab (q:=104) _) (af (ab (q:=107) _) (ab (q:=110) _))))));rw[bu (cs:=Clk.cs) (z:=5) (fun _=>rfl)] at S
 replace S:SimS prog T M F0 w0 F ρ ⟨180,[(2,.p 2 0)],(2,Blk.var [sOpt r.ofs.length y.sO,sOpt r.pls.length y.sP,sOpt r.fls.length y.sF,ruls r.rls,hlds r.hls,clks r.cks,sOpt r.sls.length y.sS,sOpt r.pps.length y.sQ,apvs r.aps,sOpt r.crs.length y.sK,deps r.dps,vi r.chg])::((rowB 11 (r.ofs.map Ofc.cs).flatten 112 5 y.sO)++((rowB 14 (r.pls.map Plan.cs).flatten 118 5 y.sP)++((rowB 17 (r.fls.map Fil.cs).flatten 86 8 y.sF)++((rowB 104 (r.sls.map Sel.cs).flatten 134 3 y.sS)++((rowB 107 (r.pps.map Prp.cs).flatten 42 5 y.sQ)++(rowB 110 (r.crs.map Crt.cs).flatten 60 6 y.sK)))))),[]⟩ a w:=S
 obtain ⟨F,S⟩:=ce (j:=0) S hO rfl (by rw[bb (cs:=Ofc.cs) (z:=5) (fun _=>rfl)]; exact Nat.le_refl _) (af (ab (q:=14) _) (af (ab (q:=17) _) (af (ab (q:=104) _) (af (ab (q:=107) _) (ab (q:=110) _)))));rw[bu (cs:=Ofc.cs) (z:=5) (fun _=>rfl)] at S
 replace S:SimS prog T M F0 w0 F ρ ⟨180,[(2,.p 2 0)],(2,Blk.var [ofcs r.ofs,sOpt r.pls.length y.sP,sOpt r.fls.length y.sF,ruls r.rls,hlds r.hls,clks r.cks,sOpt r.sls.length y.sS,sOpt r.pps.length y.sQ,apvs r.aps,sOpt r.crs.length y.sK,deps r.dps,vi r.chg])::((rowB 14 (r.pls.map Plan.cs).flatten 118 5 y.sP)++((rowB 17 (r.fls.map Fil.cs).flatten 86 8 y.sF)++((rowB 104 (r.sls.map Sel.cs).flatten 134 3 y.sS)++((rowB 107 (r.pps.map Prp.cs).flatten 42 5 y.sQ)++(rowB 110 (r.crs.map Crt.cs).flatten 60 6 y.sK))))),[]⟩ a w:=S
 obtain ⟨F,S⟩:=ce (j:=1) S hP rfl (by rw[bb (cs:=Plan.cs) (z:=5) (fun _=>rfl)]; exact Nat.le_refl _) (af (ab (q:=17) _) (af (ab (q:=104) _) (af (ab (q:=107) _) (ab (q:=110) _))));rw[bu (cs:=Plan.cs) (z:=5) (fun _=>rfl)] at S
 replace S:SimS prog T M F0 w0 F ρ ⟨180,[(2,.p 2 0)],(2,Blk.var [ofcs r.ofs,au r.pls,sOpt r.fls.length y.sF,ruls r.rls,hlds r.hls,clks r.cks,sOpt r.sls.length y.sS,sOpt r.pps.length y.sQ,apvs r.aps,sOpt r.crs.length y.sK,deps r.dps,vi r.chg])::((rowB 17 (r.fls.map Fil.cs).flatten 86 8 y.sF)++((rowB 104 (r.sls.map Sel.cs).flatten 134 3 y.sS)++((rowB 107 (r.pps.map Prp.cs).flatten 42 5 y.sQ)++(rowB 110 (r.crs.map Crt.cs).flatten 60 6 y.sK)))),[]⟩ a w:=S
 obtain ⟨F,S⟩:=ce (j:=2) S hF rfl (by rw[bb (cs:=Fil.cs) (z:=8) (fun _=>rfl)]; exact Nat.le_refl _) (af (ab (q:=104) _) (af (ab (q:=107) _) (ab (q:=110) _)));rw[bu (cs:=Fil.cs) (z:=8) (fun _=>rfl)] at S
 replace S:SimS prog T M F0 w0 F ρ ⟨180,[(2,.p 2 0)],(2,Blk.var [ofcs r.ofs,au r.pls,fils r.fls,ruls r.rls,hlds r.hls,clks r.cks,sOpt r.sls.length y.sS,sOpt r.pps.length y.sQ,apvs r.aps,sOpt r.crs.length y.sK,deps r.dps,vi r.chg])::((rowB 104 (r.sls.map Sel.cs).flatten 134 3 y.sS)++((rowB 107 (r.pps.map Prp.cs).flatten 42 5 y.sQ)++(rowB 110 (r.crs.map Crt.cs).flatten 60 6 y.sK))),[]⟩ a w:=S
 obtain ⟨F,S⟩:=ce (j:=6) S hS rfl (by rw[bb (cs:=Sel.cs) (z:=3) (fun _=>rfl)]; exact Nat.le_refl _) (af (ab (q:=107) _) (ab (q:=110) _));rw[bu (cs:=Sel.cs) (z:=3) (fun _=>rfl)] at S
 replace S:SimS prog T M F0 w0 F ρ ⟨180,[(2,.p 2 0)],(2,Blk.var [ofcs r.ofs,au r.pls,fils r.fls,ruls r.rls,hlds r.hls,clks r.cks,sels r.sls,sOpt r.pps.length y.sQ,apvs r.aps,sOpt r.crs.length y.sK,deps r.dps,vi r.chg])::((rowB 107 (r.pps.map Prp.cs).flatten 42 5 y.sQ)++(rowB 110 (r.crs.map Crt.cs).flatten 60 6 y.sK)),[]⟩ a w:=S
 obtain ⟨F,S⟩:=ce (j:=7) S hQ rfl (by rw[bb (cs:=Prp.cs) (z:=5) (fun _=>rfl)]; exact Nat.le_refl _) (ab (q:=110) _);rw[bu (cs:=Prp.cs) (z:=5) (fun _=>rfl)] at S
 replace S:SimS prog T M F0 w0 F ρ ⟨180,[(2,.p 2 0)],(2,Blk.var [ofcs r.ofs,au r.pls,fils r.fls,ruls r.rls,hlds r.hls,clks r.cks,sels r.sls,prps r.pps,apvs r.aps,sOpt r.crs.length y.sK,deps r.dps,vi r.chg])::(rowB 110 (r.crs.map Crt.cs).flatten 60 6 y.sK),[]⟩ a w:=S
 refine ⟨F,ρ,_,S,fun i=>(cs_k r y.sK).getD i (vi 0),rfl,?_⟩;cases hs:y.sK with
 | none=>rw[hs] at hK; exact .inl ⟨none,hK,rfl,rfl⟩
 | some z=>rw[hs] at hK; exact .inr ⟨110,_,z.1,by rfl,rfl,some z,hK,rfl,rfl⟩
abbrev gr140q:List Gent:=⟨bz 11 0,11,.one 0 0⟩::⟨bz 11 1,10,.one 1 0⟩::⟨bz 11 3,9,.ld 5 0⟩::⟨bz 11 35,8,.alt [(2,1),(6,0)]⟩::⟨bz 11 99,7,.alt [(2,1)]⟩::⟨bz 11 39,7,.one 3 1⟩::⟨bz 11 103,6,.one 3 2⟩::⟨bz 11 47,6,.alt [(4,0),(6,1)]⟩::⟨bz 11 63,5,.alt [(6,1)]⟩::⟨bz 11 111,5,.alt [(4,0)]⟩::⟨bz 11 127,4,.alt [(7,0)]⟩::⟨bz 11 255,3,.alt [(8,0)]⟩::⟨bz 11 511,2,.one 9 0⟩::⟨bz 11 1023,1,.alt [(10,0)]⟩::⟨bz 11 2047,0,.fin⟩::[]
set_option maxHeartbeats 8000000 in
theorem denV_q (r:Rgs) (p:Prp) (s:Option (Nat×Nat)) (hs:okB r.pps.length s) (hb:r.pps.length<=1048576):DenV prog T 47 [(999000,.var (cs_q r s))] 999050 (row_q r s) [.p 999000 0,.v (.row (Prp.cs p))] (PostC (morP r p)):=by
 have post:∀(r:Rgs) (p:Prp),∀(M:Nat->Prop) (F0:Frz) (w0:World) (F:Frz) (ρ:Nat->Nat) (st:St) (a:Act) (w:World) (e:AX),SimS prog T M F0 w0 F ρ st a w->endX prog T .nm (fun x:Nat×Nat=>r.pps.length+1<=x.2/\x.2<=maxLen) (fun x:Nat×Nat=>⟨13,[],[(10,Blk.var ((r.pps++[p]).map Prp.cs).flatten (some x.1) (some (42,5,x.2))),(999000,Blk.var [ofcs r.ofs,au r.pls,fils r.fls,ruls r.rls,hlds r.hls,clks r.cks,sels r.sls,.val (.slice (some ⟨x.1,0,none⟩) (r.pps.length+1) x.2),apvs r.aps,crts r.crs,deps r.dps,vi r.chg])],[]⟩) e st->∃F' ρ' st',SimS prog T M F0 w0 F' ρ' st' a w/\fpostV prog [] (PostC (morP r p)) e st':=by
  rintro r p M F0 w0 F ρ st a w e X ⟨rfl,x,⟨hx1,hx2⟩,hs⟩;obtain ⟨F',X⟩:=jmf (k:=10) (id:=999000) (j:=7) (n:=r.pps.length+1) (size:=5) (hs _ _ _ _ _ _ _ X) rfl rfl (by decide) rfl hx1 hx2 (by rw[bb (cs:=Prp.cs) (z:=5) (fun _=>rfl),List.length_append]; exact Nat.le_refl _);have hch:=bu (cs:=Prp.cs) (z:=5) (fun _=>rfl) (r.pps++[p]);rw[List.length_append] at hch;simp only[fcSt] at X;rw[show cv 0 (r.pps.length+1) 5 ((r.pps++[p]).map Prp.cs).flatten=(r.pps++[p]).map Prp.cs from hch] at X;exact ⟨F',ρ,_,X,finVc (i:=10) rfl rfl⟩
 rcases s with _ | ⟨b,c⟩
 ·have hz:r.pps=[]:=List.eq_nil_of_length_eq_zero hs;have hz1:r.pps.length+1=1:=by rw[hz]; rfl
  refine jjm follows (fun args w=>call47 args w) func47 rfl 13 rfl rfl ?_ (fun _ _ _ h=>jma h);have hrow0:([]:List V)++[Prp.cs p].flatten=((r.pps++[p]).map Prp.cs).flatten:=by rw[hz]; rfl
  ·show aw _ _ _ (St.mk 13 [(0,.p 999000 0),(1,.v (.row (Prp.cs p)))] [(999000,.var [ofcs r.ofs,au r.pls,fils r.fls,ruls r.rls,hlds r.hls,clks r.cks,sels r.sls,.val (.slice none 0 0),apvs r.aps,crts r.crs,deps r.dps,vi r.chg])] []) _
   refine jd8 (jjb .nm (fun x:Nat×Nat=>r.pps.length+1<=x.2/\x.2<=maxLen) (fun x:Nat×Nat=>⟨13,[],[(10,Blk.var ((r.pps++[p]).map Prp.cs).flatten (some x.1) (some (42,5,x.2))),(999000,Blk.var [ofcs r.ofs,au r.pls,fils r.fls,ruls r.rls,hlds r.hls,clks r.cks,sels r.sls,.val (.slice (some ⟨x.1,0,none⟩) (r.pps.length+1) x.2),apvs r.aps,crts r.crs,deps r.dps,vi r.chg])],[]⟩) ?_) (post r p);intro E hE;refine runD ao ?_;refine ct gr140q ?_;refine jay ao ?_
   try simp only[and_self,and_self_left,and_self_right,bp,bw]
   refine jbc ?_;unfold appR;refine jay ao ?_;intro r' cap' hnm h1 h2;rw[hrow0];refine jay ao ?_;refine ⟨rfl,?_⟩;refine hE (r',cap') _ ⟨by rw[hz]; exact h1,h2⟩ ?_;exact be [] [] rfl rfl rfl (fun _ _ e=>by rw[hz1] at e; exact e) rfl
 ·obtain ⟨hc1,hc2⟩:r.pps.length<=c/\c<=maxLen:=hs;have hw:=bb (cs:=Prp.cs) (z:=5) (fun _=>rfl) r.pps;have hrow:(r.pps.map Prp.cs).flatten++[Prp.cs p].flatten=((r.pps++[p]).map Prp.cs).flatten:=by rw[List.map_append,List.flatten_append]; rfl
  refine jjm follows (fun args w=>call47 args w) func47 rfl 13 rfl rfl ?_ (fun _ _ _ h=>jma h)
  ·show aw _ _ _ (St.mk 13 [(0,.p 999000 0),(1,.v (.row (Prp.cs p)))] [(999000,.var [ofcs r.ofs,au r.pls,fils r.fls,ruls r.rls,hlds r.hls,clks r.cks,sels r.sls,.val (.slice (some ⟨b,0,none⟩) r.pps.length c),apvs r.aps,crts r.crs,deps r.dps,vi r.chg]),(999050,.var (r.pps.map Prp.cs).flatten (some b) (some (42,5,c)))] []) _
   refine jd8 (jjb .nm (fun x:Nat×Nat=>r.pps.length+1<=x.2/\x.2<=maxLen) (fun x:Nat×Nat=>⟨13,[],[(10,Blk.var ((r.pps++[p]).map Prp.cs).flatten (some x.1) (some (42,5,x.2))),(999000,Blk.var [ofcs r.ofs,au r.pls,fils r.fls,ruls r.rls,hlds r.hls,clks r.cks,sels r.sls,.val (.slice (some ⟨x.1,0,none⟩) (r.pps.length+1) x.2),apvs r.aps,crts r.crs,deps r.dps,vi r.chg])],[]⟩) ?_) (post r p);intro E hE;refine runD (ai hw ao) ?_;refine ct gr140q ?_;refine jay (ai hw ao) ?_
   try simp only[and_self,and_self_left,and_self_right,bp,bw]
   refine jbc ?_;unfold appR;refine jay (ai hw ao) ?_;refine ⟨hc1,⟨Nat.le_trans hb (by decide),by have:r.pps.length<=1048576:=hb; omega⟩,.inr trivial,?_⟩;intro r' cap' hnm h1 h2;rw[hrow];refine jay (ai hw ao) ?_;refine ⟨rfl,?_⟩;refine hE (r',cap') _ ⟨h1,h2⟩ ?_;exact be [] [] rfl rfl rfl (fun _ _ e=>e) rfl
abbrev gr140a:List Gent:=⟨bz 11 0,11,.one 0 0⟩::⟨bz 11 1,10,.one 1 0⟩::⟨bz 11 3,9,.ld 5 0⟩::⟨bz 11 35,8,.alt [(2,1),(6,0)]⟩::⟨bz 11 99,7,.alt [(2,1)]⟩::⟨bz 11 39,7,.one 3 1⟩::⟨bz 11 103,6,.one 3 2⟩::⟨bz 11 47,6,.alt [(4,0),(6,1)]⟩::⟨bz 11 63,5,.alt [(6,1)]⟩::⟨bz 11 111,5,.alt [(4,0)]⟩::⟨bz 11 127,4,.alt [(7,0)]⟩::⟨bz 11 255,3,.alt [(8,0)]⟩::⟨bz 11 511,2,.one 9 0⟩::⟨bz 11 1023,1,.alt [(10,0)]⟩::⟨bz 11 2047,0,.fin⟩::[]
set_option maxHeartbeats 8000000 in
theorem denV_a (r:Rgs) (v:Apv) (s:Option (Nat×Nat)) (hs:okB r.aps.length s) (hb:r.aps.length<=1048576):DenV prog T 48 [(999000,.var (cs_a r s))] 999050 (row_a r s) [.p 999000 0,.v (.row (Apv.cs v))] (PostC (morA r v)):=by
 have post:∀(r:Rgs) (v:Apv),∀(M:Nat->Prop) (F0:Frz) (w0:World) (F:Frz) (ρ:Nat->Nat) (st:St) (a:Act) (w:World) (e:AX),SimS prog T M F0 w0 F ρ st a w->endX prog T .nm (fun x:Nat×Nat=>r.aps.length+1<=x.2/\x.2<=maxLen) (fun x:Nat×Nat=>⟨13,[],[(10,Blk.var ((r.aps++[v]).map Apv.cs).flatten (some x.1) (some (51,3,x.2))),(999000,Blk.var [ofcs r.ofs,au r.pls,fils r.fls,ruls r.rls,hlds r.hls,clks r.cks,sels r.sls,prps r.pps,.val (.slice (some ⟨x.1,0,none⟩) (r.aps.length+1) x.2),crts r.crs,deps r.dps,vi r.chg])],[]⟩) e st->∃F' ρ' st',SimS prog T M F0 w0 F' ρ' st' a w/\fpostV prog [] (PostC (morA r v)) e st':=by
  rintro r v M F0 w0 F ρ st a w e X ⟨rfl,x,⟨hx1,hx2⟩,hs⟩;obtain ⟨F',X⟩:=jmf (k:=10) (id:=999000) (j:=8) (n:=r.aps.length+1) (size:=3) (hs _ _ _ _ _ _ _ X) rfl rfl (by decide) rfl hx1 hx2 (by rw[bb (cs:=Apv.cs) (z:=3) (fun _=>rfl),List.length_append]; exact Nat.le_refl _);have hch:=bu (cs:=Apv.cs) (z:=3) (fun _=>rfl) (r.aps++[v]);rw[List.length_append] at hch;simp only[fcSt] at X;rw[show cv 0 (r.aps.length+1) 3 ((r.aps++[v]).map Apv.cs).flatten=(r.aps++[v]).map Apv.cs from hch] at X;exact ⟨F',ρ,_,X,finVc (i:=10) rfl rfl⟩
 rcases s with _ | ⟨b,c⟩
 ·have hz:r.aps=[]:=List.eq_nil_of_length_eq_zero hs;have hz1:r.aps.length+1=1:=by rw[hz]; rfl
  refine jjm follows (fun args w=>call48 args w) func48 rfl 13 rfl rfl ?_ (fun _ _ _ h=>jma h);have hrow0:([]:List V)++[Apv.cs v].flatten=((r.aps++[v]).map Apv.cs).flatten:=by rw[hz]; rfl
  ·show aw _ _ _ (St.mk 13 [(0,.p 999000 0),(1,.v (.row (Apv.cs v)))] [(999000,.var [ofcs r.ofs,au r.pls,fils r.fls,ruls r.rls,hlds r.hls,clks r.cks,sels r.sls,prps r.pps,.val (.slice none 0 0),crts r.crs,deps r.dps,vi r.chg])] []) _
   refine jd8 (jjb .nm (fun x:Nat×Nat=>r.aps.length+1<=x.2/\x.2<=maxLen) (fun x:Nat×Nat=>⟨13,[],[(10,Blk.var ((r.aps++[v]).map Apv.cs).flatten (some x.1) (some (51,3,x.2))),(999000,Blk.var [ofcs r.ofs,au r.pls,fils r.fls,ruls r.rls,hlds r.hls,clks r.cks,sels r.sls,prps r.pps,.val (.slice (some ⟨x.1,0,none⟩) (r.aps.length+1) x.2),crts r.crs,deps r.dps,vi r.chg])],[]⟩) ?_) (post r v);intro E hE;refine runD ao ?_;refine ct gr140a ?_;refine jay ao ?_
   try simp only[and_self,and_self_left,and_self_right,bp,bw]
   refine jbc ?_;unfold appR;refine jay ao ?_;intro r' cap' hnm h1 h2;rw[hrow0];refine jay ao ?_;refine ⟨rfl,?_⟩;refine hE (r',cap') _ ⟨by rw[hz]; exact h1,h2⟩ ?_;exact be [] [] rfl rfl rfl (fun _ _ e=>by rw[hz1] at e; exact e) rfl
 ·obtain ⟨hc1,hc2⟩:r.aps.length<=c/\c<=maxLen:=hs;have hw:=bb (cs:=Apv.cs) (z:=3) (fun _=>rfl) r.aps;have hrow:(r.aps.map Apv.cs).flatten++[Apv.cs v].flatten=((r.aps++[v]).map Apv.cs).flatten:=by rw[List.map_append,List.flatten_append]; rfl
  refine jjm follows (fun args w=>call48 args w) func48 rfl 13 rfl rfl ?_ (fun _ _ _ h=>jma h)
  ·show aw _ _ _ (St.mk 13 [(0,.p 999000 0),(1,.v (.row (Apv.cs v)))] [(999000,.var [ofcs r.ofs,au r.pls,fils r.fls,ruls r.rls,hlds r.hls,clks r.cks,sels r.sls,prps r.pps,.val (.slice (some ⟨b,0,none⟩) r.aps.length c),crts r.crs,deps r.dps,vi r.chg]),(999050,.var (r.aps.map Apv.cs).flatten (some b) (some (51,3,c)))] []) _
   refine jd8 (jjb .nm (fun x:Nat×Nat=>r.aps.length+1<=x.2/\x.2<=maxLen) (fun x:Nat×Nat=>⟨13,[],[(10,Blk.var ((r.aps++[v]).map Apv.cs).flatten (some x.1) (some (51,3,x.2))),(999000,Blk.var [ofcs r.ofs,au r.pls,fils r.fls,ruls r.rls,hlds r.hls,clks r.cks,sels r.sls,prps r.pps,.val (.slice (some ⟨x.1,0,none⟩) (r.aps.length+1) x.2),crts r.crs,deps r.dps,vi r.chg])],[]⟩) ?_) (post r v);intro E hE;refine runD (ai hw ao) ?_;refine ct gr140a ?_;refine jay (ai hw ao) ?_
   try simp only[and_self,and_self_left,and_self_right,bp,bw]
   refine jbc ?_;unfold appR;refine jay (ai hw ao) ?_;refine ⟨hc1,⟨Nat.le_trans hb (by decide),by have:r.aps.length<=1048576:=hb; omega⟩,.inr trivial,?_⟩;intro r' cap' hnm h1 h2;rw[hrow];refine jay (ai hw ao) ?_;refine ⟨rfl,?_⟩;refine hE (r',cap') _ ⟨h1,h2⟩ ?_;exact be [] [] rfl rfl rfl (fun _ _ e=>e) rfl
abbrev jeb:List V:=[.val (.slice none 0 0),.val (.slice none 0 0),.val (.slice none 0 0),.val (.slice none 0 0),.val (.slice none 0 0),.val (.slice none 0 0),.val (.slice none 0 0),.val (.slice none 0 0),.val (.slice none 0 0),.val (.slice none 0 0),.val (.slice none 0 0),vi 0]
theorem wk_zeroC:Wk (.agg jeb) (.agg c8.cs):= .agg rfl (fun c hc=>by
  have:∀c∈c8.cs,c.one=true:=by
   intro c hc;simp only[Rgs.cs,List.mem_cons,List.not_mem_nil,or_false] at hc;rcases hc with rfl | rfl | rfl | rfl | rfl | rfl | rfl | rfl | rfl | rfl | rfl | rfl <;> rfl
  exact this c hc) fun j v u e1 e2=>by
 match j with
 | 0=>cases e1; cases e2; exact .nil _
 | 1=>cases e1; cases e2; exact .nil _
 | 2=>cases e1; cases e2; exact .nil _
 | 3=>cases e1; cases e2; exact .nil _
 | 4=>cases e1; cases e2; exact .nil _
 | 5=>cases e1; cases e2; exact .nil _
 | 6=>cases e1; cases e2; exact .nil _
 | 7=>cases e1; cases e2; exact .nil _
 | 8=>cases e1; cases e2; exact .nil _
 | 9=>cases e1; cases e2; exact .nil _
 | 10=>cases e1; cases e2; exact .nil _
 | 11=>cases e1; cases e2; exact .refl _
 | j+12=>cases e1
theorem jc4 (e:Int):Wk (.tup [.agg jeb,vi e]) (.tup [.agg c8.cs,vi e]):= .t2 wk_zeroC (.refl _)
theorem argsM_v {κ:List (Nat×Nat)} {h:List (Nat×Blk)} : ∀l:List V,ArgsM κ h (l.map .v) (l.map .v)
 | []=> .nil
 | x::r=> .cons (.v x) (argsM_v r)
set_option maxHeartbeats 4000000 in
theorem joh (L:LibT T) (r res:Rgs) (_h:r.Fit) (hres:res.Fit) (f:FuncId) (cap:List V) (PC:Option Blk->V->Prop) (hC:DenU prog T 113 [.agg r.cs] PC)
  (hV:∀ro v,PC ro v->∃g:Nat->V,v= .agg [g 0,g 1,g 2,g 3,g 4,g 5,g 6,g 7,g 8,g 9,g 10,vi r.chg]/\(∀i,(g i).one=true)/\(∀b,ro=some b->b.isCon=false/\∃p,b.nm=some p)/\
   DenV prog T f [(999000,.var [g 0,g 1,g 2,g 3,g 4,g 5,g 6,g 7,g 8,g 9,g 10,vi r.chg])] 999050 ro (.p 999000 0::cap.map .v) (PostC res)):
  Den prog T 44 [.agg r.cs,.func f cap] (.tup [.agg (chgd res).1.cs,vi (chgd res).2]):=by
 have hck:=jd3 L res hres;refine ae follows (fun args w=>call44 args w) func44 rfl 19 rfl ?_;refine run ?_;refine jd1 (callU 9 hC ?_ ?_)
 ·intro rr hP;obtain ⟨g,rfl,hg,-,hD⟩:=hV none rr hP;refine runW hg ?_;refine callV ⟨[(999000,6)],999050,10,_,_,_,_,hD,.cons (.p rfl) (argsM_v cap),rfl,rfl,?_,(fun _=>rfl),(by show (10:Nat)<19; decide),?_⟩
  ·intro x hx;simp only[rowL,List.append_nil,List.mem_singleton] at hx;subst hx;exact ⟨6,_,rfl,rfl,rfl,.inl rfl,rfl⟩
  rintro ks b v ⟨rfl,⟨cs,rfl⟩,rfl⟩;refine ⟨rfl,fun _=> ?_⟩;simp only[az,setb,lk,an,jb0,jcp,jcu,jcv,jco,Nat.reduceEqDiff,↓reduceIte,Blk.wn,Blk.nm,remK,ci,jcn,cond_false];refine run ?_;refine call hck ?_;by_cases hz:bh res=0
  ·refine runW hz ?_;have e:chgd res=(res,0):=by unfold chgd; rw[if_neg (fun h=>h hz)]
   rw[e];exact fin rfl
  ·refine runW (eq_false hz) ?_;have e:chgd res=(c8,bh res):=by unfold chgd; rw[if_pos hz]
   rw[e];exact finW (jc4 _)
 ·intro b rr hP hnm;obtain ⟨g,rfl,hg,hb,hD⟩:=hV _ rr hP;obtain ⟨hcon,p,hp⟩:=hb b rfl;refine runW hg ?_;refine callV ⟨[(999000,6)],999050,9,_,some b,_,_,hD,.cons (.p rfl) (argsM_v cap),rfl,rfl,?_,(fun h=>nomatch h),(by show (9:Nat)<19; decide),?_⟩
  ·intro x hx;simp only[rowL,List.cons_append,List.nil_append,List.mem_cons,List.not_mem_nil,or_false] at hx;rcases hx with rfl | rfl
   ·exact ⟨6,_,rfl,rfl,rfl,.inl rfl,rfl⟩
   ·exact ⟨9,b,rfl,rfl,rfl,.inr rfl,hcon⟩
  rintro ks b2 v ⟨rfl,⟨cs,rfl⟩,rfl⟩;refine ⟨rfl,fun _=> ?_⟩;simp only[az,setb,lk,an,jb0,jcp,jcu,jcv,jco,Nat.reduceEqDiff,↓reduceIte,Blk.wn,Blk.nm,remK,ci,jcn,cond_false];refine run ?_;refine call hck ?_;by_cases hz:bh res=0
  ·refine runW hz ?_;have e:chgd res=(res,0):=by unfold chgd; rw[if_neg (fun h=>h hz)]
   rw[e];exact fin rfl
  ·refine runW (eq_false hz) ?_;have e:chgd res=(c8,bh res):=by unfold chgd; rw[if_pos hz]
   rw[e];exact finW (jc4 _)
theorem den_changed_q (L:LibT T) (r:Rgs) (h:r.Fit) (p:Prp) (hres:(morP r p).Fit):Den prog T 44 [.agg r.cs,.func 47 [.row (Prp.cs p)]] (.tup [.agg (chgd (morP r p)).1.cs,vi (chgd (morP r p)).2]):=by
 refine joh L r _ h hres _ _ _ (jr1 r h) ?_;rintro ro v ⟨s,hs,rfl,rfl⟩;refine ⟨fun i=>(cs_q r s).getD i (vi 0),rfl,fun i=> ?_,fun b hb=> ?_,denV_q r p s hs h.pps.1⟩
 ·match i with
  | 0 | 1 | 2 | 3 | 4 | 5 | 6 | 7 | 8 | 9 | 10 | 11=>first | rfl | (cases s <;> rfl)
  | i+12=>rfl
 ·cases s with
  | none=>cases hb
  | some z=>cases hb; exact ⟨rfl,_,rfl⟩
theorem den_changed_a (L:LibT T) (r:Rgs) (h:r.Fit) (v:Apv) (hres:(morA r v).Fit):Den prog T 44 [.agg r.cs,.func 48 [.row (Apv.cs v)]] (.tup [.agg (chgd (morA r v)).1.cs,vi (chgd (morA r v)).2]):=by
 refine joh L r _ h hres _ _ _ (denU_clone_a r h) ?_;rintro ro v ⟨s,hs,rfl,rfl⟩;refine ⟨fun i=>(cs_a r s).getD i (vi 0),rfl,fun i=> ?_,fun b hb=> ?_,denV_a r v s hs h.aps⟩
 ·match i with
  | 0 | 1 | 2 | 3 | 4 | 5 | 6 | 7 | 8 | 9 | 10 | 11=>first | rfl | (cases s <;> rfl)
  | i+12=>rfl
 ·cases s with
  | none=>cases hb
  | some z=>cases hb; exact ⟨rfl,_,rfl⟩
theorem fit_morP {r:Rgs} (h:r.Fit) {p:Prp} (hp:p.fls.length<=1048576) (hl:r.pps.length<1048576):(morP r p).Fit:=
  { ofs:=h.ofs,pls:=h.pls,fls:=h.fls,rls:=h.rls,hls:=h.hls,cks:=h.cks,sls:=h.sls,aps:=h.aps,crs:=h.crs,dps:=h.dps
    pps:=⟨by show (r.pps++[p]).length<=1048576; rw[List.length_append]; exact hl,fun q hq=>by
      rcases List.mem_append.1 hq with hq | hq
      · exact h.pps.2 q hq
      · rw[List.mem_singleton.1 hq]; exact hp⟩ }
theorem fit_morA {r:Rgs} (h:r.Fit) {a:Apv} (hl:r.aps.length<1048576):(morA r a).Fit:=
  { ofs:=h.ofs,pls:=h.pls,fls:=h.fls,rls:=h.rls,hls:=h.hls,cks:=h.cks,sls:=h.sls,pps:=h.pps,crs:=h.crs,dps:=h.dps
    aps:=by show (r.aps++[a]).length<=1048576; rw[List.length_append]; exact hl }
set_option maxHeartbeats 4000000 in
theorem den_Propose (L:LibT T) (r:Rgs) (h:r.Fit) (p:Prp) (hp:p.fls.length<=1048576) (hl:r.pps.length<1048576):Den prog T 18 [.agg r.cs,.agg p.cs] (.tup [.agg (propR r p).1.cs,vi (propR r p).2]):=by
 have hck:=jd3 L r h;have hch:=den_changed_q L r h p (fit_morP h hp hl);refine ae follows (fun args w=>call18 args w) func18 rfl 23 rfl ?_;unfold propR;refine run ?_;refine call hck ?_;by_cases hz:bh r=0
 ·rw[if_neg (fun e=>e hz)];refine runW hz ?_;by_cases hw:p.wdr=1048576
  ·rw[if_neg (fun e=>e hw)];refine runW hw ?_;refine call (jkm p.fls hp).den ?_;refine run ?_;refine call hch ?_;refine run ?_;exact fin rfl
  ·rw[if_pos hw];refine runW (eq_false hw) ?_;exact finW (jc4 _)
 ·rw[if_pos hz];refine runW (eq_false hz) ?_;exact finW (jc4 _)
set_option maxHeartbeats 4000000 in
theorem den_Approve (L:LibT T) (r:Rgs) (h:r.Fit) (a:Apv) (hl:r.aps.length<1048576):Den prog T 19 [.agg r.cs,.agg a.cs] (.tup [.agg (apprR r a).1.cs,vi (apprR r a).2]):=by
 have hck:=jd3 L r h;have hch:=den_changed_a L r h a (fit_morA h hl);refine ae follows (fun args w=>call19 args w) func19 rfl 15 rfl ?_;unfold apprR;refine run ?_;refine call hck ?_;by_cases hz:bh r=0
 ·rw[if_neg (fun e=>e hz)];refine runW hz ?_;refine call hch ?_;refine run ?_;exact fin rfl
 ·rw[if_pos hz];refine runW (eq_false hz) ?_;exact finW (jc4 _)
def PostC2 (res:Rgs) (u:Crt) (ks:List (Nat×Blk)) (b:Blk) (v:V):Prop:=ks=[(999000,.var res.cs),(999001,.var u.cs)]/\(∃cs,b= .con cs)/\v= .tup []
theorem postC2_ok {res:Rgs} {u:Crt} {ks:List (Nat×Blk)} {b:Blk} {v:V} (h:PostC2 res u ks b v):okZ ks=true/\Ab.look 999050 ks=none:=by
 obtain ⟨rfl,-,-⟩:=h;exact ⟨rfl,rfl⟩
theorem finVc2 {P:Program} {res:Rgs} {u:Crt} {st:St} {i:Nat} {cs:List V} (h1:Ab.look 999000 st.h=some (.var res.cs)) (h0:Ab.look 999001 st.h=some (.var u.cs)) (h2:Ab.look i st.h=some (.con cs)) (hi:i ∉ [999000,999001]:=by decide):fpostV P [] (PostC2 res u) .nm st:=by
 refine ⟨[(999000,.var res.cs),(999001,.var u.cs)],.con cs,.tup [],⟨rfl,⟨cs,rfl⟩,rfl⟩,?_,⟨i,.con cs,h2,?_,hi⟩,.tup [],rfl,.refl _⟩
 ·intro x hx;simp only[List.mem_cons,List.not_mem_nil,or_false] at hx;rcases hx with rfl | rfl
  ·exact ⟨_,h1,WkB.self _ _ _⟩
  ·exact ⟨_,h0,WkB.self _ _ _⟩
 ·have:=WkB.con (ex:=[]) (Wks.refl cs);rw[List.append_nil] at this;exact this
abbrev gr143:List Gent:=⟨bz 11 0,11,.one 0 0⟩::⟨bz 11 1,10,.one 1 0⟩::⟨bz 11 3,9,.alt [(2,1),(5,0)]⟩::⟨bz 11 35,8,.alt [(2,1),(6,3)]⟩::⟨bz 11 7,8,.one 3 1⟩::⟨bz 11 39,7,.one 3 4⟩::⟨bz 11 15,7,.alt [(4,1),(5,3)]⟩::⟨bz 11 99,7,.alt [(2,1)]⟩::⟨bz 11 31,6,.alt [(5,2)]⟩::⟨bz 11 103,6,.one 3 2⟩::⟨bz 11 47,6,.alt [(4,0),(6,1)]⟩::⟨bz 11 63,5,.alt [(6,1)]⟩::⟨bz 11 111,5,.alt [(4,0)]⟩::⟨bz 11 127,4,.alt [(7,0)]⟩::⟨bz 11 255,3,.alt [(8,0)]⟩::⟨bz 11 511,2,.one 9 0⟩::⟨bz 11 1023,1,.alt [(10,0)]⟩::⟨bz 11 2047,0,.fin⟩::[]
set_option maxHeartbeats 8000000 in
theorem denV_k2 (r:Rgs) (u:Crt) (s:Option (Nat×Nat)) (hs:okB r.crs.length s) (hb:r.crs.length<=1048576):DenV prog T 55 [(999000,.var (cs_k r s)),(999001,.var u.cs)] 999050 (row_k r s) [.p 999000 0,.p 999001 0] (PostC2 (morC r u) u):=by
 have post:∀(r:Rgs) (u:Crt),∀(M:Nat->Prop) (F0:Frz) (w0:World) (F:Frz) (ρ:Nat->Nat) (st:St) (a:Act) (w:World) (e:AX),SimS prog T M F0 w0 F ρ st a w->endX prog T .nm (fun x:Nat×Nat=>r.crs.length+1<=x.2/\x.2<=maxLen) (fun x:Nat×Nat=>⟨13,[],[(10,Blk.var ((r.crs++[u]).map Crt.cs).flatten (some x.1) (some (60,6,x.2))),(999000,Blk.var [ofcs r.ofs,au r.pls,fils r.fls,ruls r.rls,hlds r.hls,clks r.cks,sels r.sls,prps r.pps,apvs r.aps,.val (.slice (some ⟨x.1,0,none⟩) (r.crs.length+1) x.2),deps r.dps,vi r.chg]),(999001,Blk.var u.cs)],[]⟩) e st->∃F' ρ' st',SimS prog T M F0 w0 F' ρ' st' a w/\fpostV prog [] (PostC2 (morC r u) u) e st':=by
  rintro r u M F0 w0 F ρ st a w e X ⟨rfl,x,⟨hx1,hx2⟩,hs⟩;obtain ⟨F',X⟩:=jmf (k:=10) (id:=999000) (j:=9) (n:=r.crs.length+1) (size:=6) (hs _ _ _ _ _ _ _ X) rfl rfl (by decide) rfl hx1 hx2 (by rw[bb (cs:=Crt.cs) (z:=6) (fun _=>rfl),List.length_append]; exact Nat.le_refl _);have hch:=bu (cs:=Crt.cs) (z:=6) (fun _=>rfl) (r.crs++[u]);rw[List.length_append] at hch;simp only[fcSt] at X;rw[show cv 0 (r.crs.length+1) 6 ((r.crs++[u]).map Crt.cs).flatten=(r.crs++[u]).map Crt.cs from hch] at X;exact ⟨F',ρ,_,X,finVc2 (i:=10) rfl rfl rfl⟩
 rcases s with _ | ⟨b,c⟩
 ·have hz:r.crs=[]:=List.eq_nil_of_length_eq_zero hs;have hz1:r.crs.length+1=1:=by rw[hz]; rfl
  refine jjm follows (fun args w=>call55 args w) func55 rfl 13 rfl rfl ?_ (fun _ _ _ h=>postC2_ok h);have hrow0:([]:List V)++[Crt.cs u].flatten=((r.crs++[u]).map Crt.cs).flatten:=by rw[hz]; rfl
  ·show aw _ _ _ (St.mk 13 [(0,.p 999000 0),(1,.p 999001 0)] [(999000,.var [ofcs r.ofs,au r.pls,fils r.fls,ruls r.rls,hlds r.hls,clks r.cks,sels r.sls,prps r.pps,apvs r.aps,.val (.slice none 0 0),deps r.dps,vi r.chg]),(999001,.var u.cs)] []) _
   refine jd8 (jjb .nm (fun x:Nat×Nat=>r.crs.length+1<=x.2/\x.2<=maxLen) (fun x:Nat×Nat=>⟨13,[],[(10,Blk.var ((r.crs++[u]).map Crt.cs).flatten (some x.1) (some (60,6,x.2))),(999000,Blk.var [ofcs r.ofs,au r.pls,fils r.fls,ruls r.rls,hlds r.hls,clks r.cks,sels r.sls,prps r.pps,apvs r.aps,.val (.slice (some ⟨x.1,0,none⟩) (r.crs.length+1) x.2),deps r.dps,vi r.chg]),(999001,Blk.var u.cs)],[]⟩) ?_) (post r u);intro E hE;refine runD ao ?_;refine ct gr143 ?_;refine jay ao ?_
   try simp only[and_self,and_self_left,and_self_right,bp,bw]
   refine jbc ?_;unfold appR;refine jay ao ?_;intro r' cap' hnm h1 h2;rw[hrow0];refine jay ao ?_;refine ⟨rfl,?_⟩;refine hE (r',cap') _ ⟨by rw[hz]; exact h1,h2⟩ ?_;exact be [] [] rfl rfl rfl (fun _ _ e=>by rw[hz1] at e; exact e) rfl
 ·obtain ⟨hc1,hc2⟩:r.crs.length<=c/\c<=maxLen:=hs;have hw:=bb (cs:=Crt.cs) (z:=6) (fun _=>rfl) r.crs;have hrow:(r.crs.map Crt.cs).flatten++[Crt.cs u].flatten=((r.crs++[u]).map Crt.cs).flatten:=by rw[List.map_append,List.flatten_append]; rfl
  refine jjm follows (fun args w=>call55 args w) func55 rfl 13 rfl rfl ?_ (fun _ _ _ h=>postC2_ok h)
  ·show aw _ _ _ (St.mk 13 [(0,.p 999000 0),(1,.p 999001 0)] [(999000,.var [ofcs r.ofs,au r.pls,fils r.fls,ruls r.rls,hlds r.hls,clks r.cks,sels r.sls,prps r.pps,apvs r.aps,.val (.slice (some ⟨b,0,none⟩) r.crs.length c),deps r.dps,vi r.chg]),(999001,.var u.cs),(999050,.var (r.crs.map Crt.cs).flatten (some b) (some (60,6,c)))] []) _
   refine jd8 (jjb .nm (fun x:Nat×Nat=>r.crs.length+1<=x.2/\x.2<=maxLen) (fun x:Nat×Nat=>⟨13,[],[(10,Blk.var ((r.crs++[u]).map Crt.cs).flatten (some x.1) (some (60,6,x.2))),(999000,Blk.var [ofcs r.ofs,au r.pls,fils r.fls,ruls r.rls,hlds r.hls,clks r.cks,sels r.sls,prps r.pps,apvs r.aps,.val (.slice (some ⟨x.1,0,none⟩) (r.crs.length+1) x.2),deps r.dps,vi r.chg]),(999001,Blk.var u.cs)],[]⟩) ?_) (post r u);intro E hE;refine runD (ai hw ao) ?_;refine ct gr143 ?_;refine jay (ai hw ao) ?_
   try simp only[and_self,and_self_left,and_self_right,bp,bw]
   refine jbc ?_;unfold appR;refine jay (ai hw ao) ?_;refine ⟨hc1,⟨Nat.le_trans hb (by decide),by have:r.crs.length<=1048576:=hb; omega⟩,.inr trivial,?_⟩;intro r' cap' hnm h1 h2;rw[hrow];refine jay (ai hw ao) ?_;refine ⟨rfl,?_⟩;refine hE (r',cap') _ ⟨h1,h2⟩ ?_;exact be [] [] rfl rfl rfl (fun _ _ e=>e) rfl
set_option maxHeartbeats 4000000 in
theorem denS_changed_k (L:LibT T) (r:Rgs) (h:r.Fit) (u:Crt) (hres:(morC r u).Fit) (p0:Nat):
  DenS prog T 44 [(999000,.var u.cs (some p0))] [] [.v (.agg r.cs),.v (.func 55 [.val (.pointer (some ⟨p0,0,none⟩))])] [(999000,.var u.cs (some p0))] [] (.v (.tup [.agg (chgd (morC r u)).1.cs,vi (chgd (morC r u)).2])):=by
 have hck:=jd3 L (morC r u) hres;have hC:=denU_clone_k (T:=T) r h;refine jcj follows (fun args w=>call44 args w) func44 rfl 19 rfl rfl ?_;refine run ?_;refine jd1 (callU 9 hC ?_ ?_)
 ·rintro rr ⟨s,hs,hro,rfl⟩;have hs0:s=none:=by cases s with | none=>rfl | some z=>cases hro
  subst hs0;have hD:=denV_k2 (T:=T) r u none hs h.crs.1;unfold cs_k at hD ⊢;refine runW ao ?_;refine callV ⟨[(999000,6),(999001,999000)],999050,10,_,_,_,_,hD,.cons (.p rfl) (.cons (.pn rfl rfl) .nil),rfl,rfl,?_,(fun _=>rfl),(by show (10:Nat)<19; decide),?_⟩
  ·intro x hx;simp only[rowL,row_k,Option.map_none,List.append_nil,List.mem_cons,List.not_mem_nil,or_false] at hx;rcases hx with rfl | rfl
   ·exact ⟨6,_,rfl,rfl,rfl,.inl rfl,rfl⟩
   ·exact ⟨999000,_,rfl,rfl,rfl,.inl rfl,rfl⟩
  rintro ks b v ⟨rfl,⟨cs,rfl⟩,rfl⟩;refine ⟨rfl,fun _=> ?_⟩;simp only[az,setb,lk,an,jb0,jcp,jcu,jcv,jco,Nat.reduceEqDiff,↓reduceIte,Blk.wn,Blk.nm,remK,ci,jcn,cond_false];refine run ?_;refine call hck ?_;by_cases hz:bh (morC r u)=0
  ·refine runW hz ?_;have e:chgd (morC r u)=(morC r u,0):=by unfold chgd; rw[if_neg (fun h=>h hz)]
   rw[e];exact jek (.v (.refl _))
  ·refine runW (eq_false hz) ?_;have e:chgd (morC r u)=(c8,bh (morC r u)):=by unfold chgd; rw[if_pos hz]
   rw[e];exact jek (.v (jc4 _))
 ·rintro b rr ⟨s,hs,hro,rfl⟩ hnm;obtain ⟨z,rfl⟩:∃z,s=some z:=by cases s with | none=>cases hro | some z=>exact ⟨z,rfl⟩
  have hD:=denV_k2 (T:=T) r u (some z) hs h.crs.1;cases hro;unfold cs_k at hD ⊢;refine runW ao ?_;refine callV ⟨[(999000,6),(999001,999000)],999050,9,_,some _,_,_,hD,.cons (.p rfl) (.cons (.pn rfl rfl) .nil),rfl,rfl,?_,(fun h=>nomatch h),(by show (9:Nat)<19; decide),?_⟩
  ·intro x hx;simp only[rowL,List.cons_append,List.nil_append,List.mem_cons,List.not_mem_nil,or_false] at hx;rcases hx with rfl | rfl | rfl
   ·exact ⟨6,_,rfl,rfl,rfl,.inl rfl,rfl⟩
   ·exact ⟨999000,_,rfl,rfl,rfl,.inl rfl,rfl⟩
   ·exact ⟨9,_,rfl,rfl,rfl,.inr rfl,rfl⟩
  rintro ks b2 v ⟨rfl,⟨cs,rfl⟩,rfl⟩;refine ⟨rfl,fun _=> ?_⟩;simp only[az,setb,lk,an,jb0,jcp,jcu,jcv,jco,Nat.reduceEqDiff,↓reduceIte,Blk.wn,Blk.nm,remK,ci,jcn,cond_false];refine run ?_;refine call hck ?_;by_cases hz:bh (morC r u)=0
  ·refine runW hz ?_;have e:chgd (morC r u)=(morC r u,0):=by unfold chgd; rw[if_neg (fun h=>h hz)]
   rw[e];exact jek (.v (.refl _))
  ·refine runW (eq_false hz) ?_;have e:chgd (morC r u)=(c8,bh (morC r u)):=by unfold chgd; rw[if_pos hz]
   rw[e];exact jek (.v (jc4 _))
theorem den_arch1 (c:Clk) (a:Apv):Den prog T 123 [.agg c.cs,.row a.cs] (vb (archC a.clk c)):=by
 refine ae follows (fun args w=>call123 args w) func123 rfl 14 rfl ?_;unfold archC;by_cases h1:c.id=a.clk
 ·refine runW (eq_true h1) ?_;refine fin (ak ?_);simp
 ·refine runW (eq_false h1) ?_;refine fin (ak ?_);simp
abbrev apvL (r:Rgs) (n d:Int) (k:Nat):List Apv:=(r.aps.take k).filter (forA n d)
abbrev arcA (r:Rgs) (a:Apv):Bool:=r.cks.any (archC a.clk)
theorem apvL_in {r:Rgs} {n d:Int} {k:Nat} {a:Apv} (ha:r.aps[k]? = some a) (hf:forA n d a=true):apvL r n d (k+1)=apvL r n d k++[a]:=by
 unfold apvL;rw[jpq ha,List.filter_append,List.filter_cons_of_pos hf];rfl
theorem apvL_out {r:Rgs} {n d:Int} {k:Nat} {a:Apv} (ha:r.aps[k]? = some a) (hf:¬forA n d a=true):apvL r n d (k+1)=apvL r n d k:=by
 unfold apvL;rw[jpq ha,List.filter_append,List.filter_cons_of_neg hf];simp
theorem apvL_len (r:Rgs) (n d:Int) (k:Nat):(apvL r n d k).length<=k:=by
 have h1:=List.length_filter_le (forA n d) (r.aps.take k);have h2:(r.aps.take k).length<=k:=List.length_take_le _ _;exact Nat.le_trans h1 h2
set_option maxHeartbeats 4000000 in
theorem den_approvedD (r:Rgs) (h:r.Fit) (n d:Int):Den prog T 68 [.agg r.cs,vi n,vi d] (vb (apvB r n d)):=by
 have hl:=h.aps;have hA:∀a:Apv,Den prog T 122 [clks r.cks,.func 123 [.row a.cs]] (vb (arcA r a)):=fun a=>den_anyClk r.cks _ _ (archC a.clk) h.cks.1 fun c _=>den_arch1 c a;refine ae follows (fun args w=>call68 args w) func68 rfl 43 rfl ?_;refine run ?_
 refine loop ⟨[1,2,3,7,8,12,13,14],[3],[],[]⟩ (fun k:Nat=>k<=r.aps.length) (fun k=>r.aps.length-k)
  (fun k=>⟨43,[(1,.v (vi n)),(2,.v (vi d)),(3,.p 3 0),(7,.v (vi (apvL r n d k).length)),(8,.v (vb ((apvL r n d k).any (arcA r)))),(12,.v (apvs r.aps)),(13,.v (vi r.aps.length)),(14,.v (vi k))],[(3,.var r.cs)],[]⟩) 0 (Nat.zero_le _) ?_
 intro k hk;have hle:=apvL_len r n d k;by_cases hlt:k<r.aps.length
 ·obtain ⟨a,ha,-,-⟩:=aj hlt;have hin:=fun hf=>apvL_in (r:=r) (n:=n) (d:=d) ha hf;have hout:=fun hf=>apvL_out (r:=r) (n:=n) (d:=d) ha hf;obtain ⟨X,hX⟩:∃X,apvL r n d k=X:=⟨_,rfl⟩;rw[hX] at hle hin hout;by_cases h1:a.prp=n
  ·by_cases h2:d<a.day
   ·have hno:=hout (by unfold forA; simp; omega);refine runW (ai hX (ai ha (eq_true h1))) ?_;refine round (k+1) hlt (by omega) ?_;rw[hno];rfl
   ·have hyes:=hin (by unfold forA; simp; omega);have hyl:(apvL r n d (k+1)).length=X.length+1:=by rw[hyes,List.length_append]; rfl
    have hya:(apvL r n d (k+1)).any (arcA r)=(X.any (arcA r) || arcA r a):=by rw[hyes,List.any_append]; simp
    cases hX2:X.any (arcA r)
    ·refine runW (ai hX (ai ha (ai (eq_true h1) hX2))) ?_;refine call (hA a) ?_;refine run ?_;refine round (k+1) hlt (by omega) ?_;rw[hyl,hya,hX2,Bool.false_or];rfl
    ·refine runW (ai hX (ai ha (ai (eq_true h1) hX2))) ?_;refine round (k+1) hlt (by omega) ?_;rw[hyl,hya,hX2,Bool.true_or];rfl
  ·have hno:=hout (by unfold forA; simp[h1]);refine runW (ai hX (ai ha (eq_false h1))) ?_;refine round (k+1) hlt (by omega) ?_;rw[hno];rfl
 ·have hk:k=r.aps.length:=by omega
  subst hk;have he:apvL r n d r.aps.length=r.aps.filter (forA n d):=by unfold apvL; rw[List.take_length]
  have hB:apvB r n d=(decide (2<=(apvL r n d r.aps.length).length) && (apvL r n d r.aps.length).any (arcA r)):=by rw[he]; rfl
  rw[hB];obtain ⟨X,hX⟩:∃X,apvL r n d r.aps.length=X:=⟨_,rfl⟩;rw[hX] at hle ⊢;by_cases h2:2<=X.length
  ·refine runW hX ?_;refine fin (ak ?_);simp[h2]
  ·refine runW hX ?_;refine fin (ak ?_);simp[h2]
theorem den_ready11 (L:LibC T) (r:Rgs) (h:r.Fit) (f d:Int):Den prog T 71 [vi f,.row r.cs,.row [vi d]] (vb (jdp r d f)):=by
 have hO:=den_On L r h f d;unfold jdp;obtain ⟨v,hv⟩:∃v,onV r f d=v:=⟨_,rfl⟩;rw[hv] at hO ⊢;refine ae follows (fun args w=>call71 args w) func71 rfl 21 rfl ?_;refine run ?_;refine call hO ?_;by_cases h1:onE r f d=0
 ·rw[h1];refine run ?_;refine fin (ak ?_);simp
 ·refine runW (eq_false h1) ?_;refine fin (ak ?_);simp
theorem den_ready1 (L:LibC T) (r:Rgs) (h:r.Fit) (p:Prp) (hp:p.fls.length<=1048576) (d:Int):Den prog T 69 [.row p.cs,.row r.cs,.row [vi d]] (rowV (p.fls.any (jdp r d),21)):=by
 refine ae follows (fun args w=>call69 args w) func69 rfl 9 rfl ?_;refine run ?_;refine call (jlr p.fls _ _ (jdp r d) hp fun f _=>den_ready11 L r h f d) ?_;refine run ?_;exact finC1 (.refl _)
set_option maxHeartbeats 4000000 in
theorem den_readyD (L:LibC T) (r:Rgs) (h:r.Fit) (p:Prp) (hp:p.fls.length<=1048576) (d:Int):Den prog T 28 [.agg r.cs,.agg p.cs,vi d] (vi (jkf r p d)):=by
 have he:jkf r p d=fstB [(decide (d<p.day),5),(decide (p.wdr<=d) || jbh r.crs p.id,11),(!apvB r p.id d,22),(p.fls.any (jdp r d),21)]:=by
  unfold jkf;simp only[fstB];by_cases h1:d<p.day
  ·rw[if_pos h1,if_pos (decide_eq_true h1)]
  rw[if_neg h1,decide_eq_false h1];by_cases h2:p.wdr<=d\/jbh r.crs p.id=true
  ·rw[if_pos h2,(by simpa using h2:(decide (p.wdr<=d) || jbh r.crs p.id)=true)];rfl
  rw[if_neg h2,(by simpa using h2:(decide (p.wdr<=d) || jbh r.crs p.id)=false)];cases apvB r p.id d <;> rfl
 rw[he]
 have hF:∀b1 b2 b3,Den prog T 66 [.slice 1 [wRow b1 5,wRow b2 11,wRow b3 22,[.func 69 [.row p.cs,.row r.cs,.row [vi d]]]]] (vi (fstB [(b1,5),(b2,11),(b3,22),(p.fls.any (jdp r d),21)])):=fun b1 b2 b3=>
  jlq _ _ (.cons (jaf _ _) (.cons (jaf _ _) (.cons (jaf _ _) (.cons (den_ready1 L r h p hp d) .nil)))) (by show (4:Nat)<=1048576; decide)
 have hcd:=jqr (T:=T) r h p.id;have hap:=den_approvedD (T:=T) r h p.id d;refine ae follows (fun args w=>call28 args w) func28 rfl 33 rfl ?_;by_cases h1:p.wdr<=d
 ·rw[decide_eq_true h1,Bool.true_or];refine run ?_;refine call (ag _ 5) ?_;refine run ?_;refine call (ag _ 11) ?_;refine run ?_;refine call hap ?_;refine run ?_;refine call (ag _ 22) ?_;refine run ?_;refine call (hF _ _ _) ?_;refine run ?_;exact fin rfl
 ·rw[decide_eq_false h1,Bool.false_or];refine run ?_;refine call (ag _ 5) ?_;refine run ?_;refine call hcd ?_;refine run ?_;refine call (ag _ 11) ?_;refine run ?_;refine call hap ?_;refine run ?_;refine call (ag _ 22) ?_;refine run ?_;refine call (hF _ _ _) ?_;refine run ?_;exact fin rfl
set_option maxHeartbeats 4000000 in
theorem jou (L:LibT T) (r:Rgs) (h:r.Fit) (n d:Int):Den prog T 8 [.agg r.cs,vi n,vi d] (vi (jdc r n d)):=by
 have LC:=libC L;have hpl:=h.pps.1;refine ae follows (fun args w=>call8 args w) func8 rfl 30 rfl ?_;unfold jdc;refine run ?_;refine call (jm2 r h n) ?_;refine run ?_;refine call (jd3 L r h) ?_;by_cases hz:bh r=0
 case neg=>
  rw[if_pos hz];refine runW (eq_false hz) ?_;exact fin rfl
 rw[if_neg (fun e=>e hz)];rcases je7 (ca n) r.pps with ⟨h1,h2⟩ | ⟨k,p,h1,hk,hx,hpm,h2⟩
 ·rw[h2];have h1:jbf r.pps n= -1:=h1;rw[h1];refine runW hz ?_;exact fin rfl
 rw[h2];have h1:jbf r.pps n=(k:Int):=h1;rw[h1];refine runW hz ?_;refine call (jpg d) ?_;cases hd:dayG d
 ·refine run ?_;exact fin rfl
 ·rw[if_neg (by decide)];refine runW hx ?_;refine call (den_readyD LC r h p (h.pps.2 p hpm) d) ?_;refine run ?_;exact fin rfl
theorem fit_morC {r:Rgs} (h:r.Fit) {c:Crt} (hc:c.fls.length<=1048576/\c.bef.length<=1048576/\c.dig.length<=1048576) (hl:r.crs.length<1048576):(morC r c).Fit:=
  { ofs:=h.ofs,pls:=h.pls,fls:=h.fls,rls:=h.rls,hls:=h.hls,cks:=h.cks,sls:=h.sls,pps:=h.pps,aps:=h.aps,dps:=h.dps
    crs:=⟨by show (r.crs++[c]).length<=1048576; rw[List.length_append]; exact hl,fun q hq=>by
      rcases List.mem_append.1 hq with hq | hq
      · exact h.crs.2 q hq
      · rw[List.mem_singleton.1 hq]; exact hc⟩ }
abbrev zeroK:List V:=[vi 0,vi 0,vi 0,.val (.slice none 0 0),.str [],.str []]
theorem wk_zeroK:Wk (.agg zeroK) (.agg crtZ.cs):= .agg rfl (fun c hc=>by
  simp only[Crt.cs,List.mem_cons,List.not_mem_nil,or_false] at hc
  rcases hc with rfl | rfl | rfl | rfl | rfl | rfl <;> rfl) fun j v u e1 e2=>by
 match j with
 | 0=>cases e1; cases e2; exact .refl _
 | 1=>cases e1; cases e2; exact .refl _
 | 2=>cases e1; cases e2; exact .refl _
 | 3=>cases e1; cases e2; exact .nil _
 | 4=>cases e1; cases e2; exact .refl _
 | 5=>cases e1; cases e2; exact .refl _
 | j+6=>cases e1
theorem jm3 (e:Int):Wk (.tup [.agg jeb,.agg zeroK,vi e]) (.tup [.agg c8.cs,.agg crtZ.cs,vi e]):= .t3 wk_zeroC wk_zeroK (.refl _)
theorem jme (e:Int):Den prog T 49 [vi e] (.tup [.agg jeb,.agg zeroK,vi e]):=by
 refine ae follows (fun args w=>call49 args w) func49 rfl 8 rfl ?_;refine run ?_;exact fin rfl
theorem den_depB (l:List Int) (hl:l.length<=1048576) (x:Dep):Den prog T 51 [.agg x.cs,.row [ints l]] (vb (depB l x)):=by
 have hh:=jna (T:=T) l x.fil hl;refine ae follows (fun args w=>call51 args w) func51 rfl 8 rfl ?_;refine run ?_;refine call hh ?_;refine run ?_;refine fin (ak ?_);unfold depB hasI;congr 1
 funext y
 rw[decide_eq_decide];exact eq_comm
theorem aw_meetP {P:Program} {G:Prop} {c:Code} {Q:AX->St->Prop} (φ:Prop) (S:St) (h:(∀st,φ->Ab.Sub P T S st->aw P T c st Q)->G) (h2:φ->aw P T c S Q):G:=h fun _ hf hs=>aw_sub hs (h2 hf)
abbrev gr144a:List Gent:=⟨bz 14 0,14,.one 0 0⟩::⟨bz 14 1,13,.ld 1 0⟩::⟨bz 14 3,12,.ld 2 0⟩::⟨bz 14 7,11,.one 3 0⟩::⟨bz 14 15,10,.one 8 0⟩::⟨bz 14 271,9,.ld 9 0⟩::⟨bz 14 783,8,.alt [(4,0),(10,2),(11,1)]⟩::⟨bz 14 799,7,.one 5 3⟩::⟨bz 14 2831,7,.alt [(4,4),(10,3)]⟩::⟨bz 14 1807,7,.alt [(4,0),(11,2)]⟩::⟨bz 14 1823,6,.one 5 5⟩::⟨bz 14 831,6,.one 6 2⟩::⟨bz 14 3855,6,.alt [(4,2)]⟩::⟨bz 14 2847,6,.one 5 3⟩::⟨bz 14 895,5,.ld 7 4⟩::⟨bz 14 3871,5,.one 5 5⟩::⟨bz 14 1855,5,.one 6 3⟩::⟨bz 14 2879,5,.one 6 0⟩::⟨bz 14 2943,4,.ld 7 5⟩::⟨bz 14 1023,4,.alt [(10,3),(11,4)]⟩::⟨bz 14 1919,4,.ld 7 2⟩::⟨bz 14 3903,4,.one 6 0⟩::⟨bz 14 3967,3,.ld 7 3⟩::⟨bz 14 2047,3,.alt [(11,2)]⟩::⟨bz 14 3071,3,.alt [(10,1),(12,0)]⟩::⟨bz 14 7167,2,.alt [(10,1)]⟩::⟨bz 14 4095,2,.alt [(12,0)]⟩::⟨bz 14 8191,1,.alt [(13,0)]⟩::⟨bz 14 16383,0,.fin⟩::[]
abbrev gr144b:List Gent:=⟨bz 13 0,13,.one 0 0⟩::⟨bz 13 1,12,.one 1 0⟩::⟨bz 13 3,11,.one 2 0⟩::⟨bz 13 7,10,.one 3 0⟩::⟨bz 13 15,9,.ld 4 0⟩::⟨bz 13 31,8,.one 6 0⟩::⟨bz 13 95,7,.ld 7 0⟩::⟨bz 13 223,6,.one 8 0⟩::⟨bz 13 479,5,.alt [(5,1),(11,0)]⟩::⟨bz 13 2527,4,.alt [(5,1)]⟩::⟨bz 13 511,4,.alt [(9,1),(11,0)]⟩::⟨bz 13 2559,3,.alt [(9,1)]⟩::⟨bz 13 1023,3,.alt [(10,1),(11,0)]⟩::⟨bz 13 3071,2,.alt [(10,1)]⟩::⟨bz 13 2047,2,.alt [(11,0)]⟩::⟨bz 13 4095,1,.alt [(12,0)]⟩::⟨bz 13 8191,0,.fin⟩::[]
abbrev gr144c:List Gent:=⟨bz 5 0,5,.alt [(0,0),(1,1)]⟩::⟨bz 5 1,4,.alt [(1,1),(2,2)]⟩::⟨bz 5 2,4,.alt [(0,0)]⟩::⟨bz 5 3,3,.alt [(2,1)]⟩::⟨bz 5 5,3,.alt [(1,0)]⟩::⟨bz 5 7,2,.alt [(3,0)]⟩::⟨bz 5 15,1,.alt [(4,0)]⟩::⟨bz 5 31,0,.fin⟩::[]
set_option maxHeartbeats 16000000 in
theorem jrm (L:LibT T) (r:Rgs) (h:r.Fit) (n d:Int) (hcr:r.crs.length<1048576):Den prog T 20 [.agg r.cs,vi n,vi d] (.tup [.agg (desP r n d).1.cs,.agg (desP r n d).2.1.cs,vi (desP r n d).2.2]):=by
 have hrd:=jou L r h n d;have hcl:=h.crs.1;refine ae follows (fun args w=>call20 args w) func20 rfl 113 rfl ?_;refine run ?_;refine call hrd ?_;by_cases hz:jdc r n d=0
 ·obtain ⟨p,hR⟩:=jp6.1 hz;have hfp:=hR.fp;rcases je7 (ca n) r.pps with ⟨-,h2⟩ | ⟨k,p',h1,hk,hx,hpm,h2⟩
  ·rw[h2] at hfp; cases hfp
  obtain rfl:p'=p:=by rw[h2] at hfp; exact Option.some.inj hfp
  have hfd:=jm2 (T:=T) r h n;rw[show jbf r.pps n=(k:Int) from h1] at hfd;have hfl:=h.pps.2 p' hpm;have hpl:=h.pps.1;refine runD hz ?_;refine aw_frz 3 ?_;refine jd9 (st':=⟨113,[(1,.v (vi n)),(2,.v (vi d)),(3,.p 3 0),(6,.p 6 0),(7,.p 7 0),(8,.v (vi 0)),(9,.v (.func 49 []))],[(7,.var zeroK),(6,.var jeb),(3,.con r.cs)],[]⟩) ⟨[1,2,3,6,7,8,9],[7,6,3],[],[]⟩ rfl ?_;refine jea .nm (fun _:Unit=>True) (fun _=>⟨113,[(1,.v (vi n)),(2,.v (vi d)),(3,.p 3 0),(6,.p 6 0),(7,.p 7 0),(8,.v (vi 0)),(9,.v (.func 49 [])),(11,.p 11 0),(12,.v (vi r.crs.length))],[(11,.var [ints p'.fls]),(7,.var zeroK),(6,.var jeb),(3,.con r.cs)],[]⟩) ?_ ?_
  ·intro E hE;refine ct gr144a ?_;refine av hx ?_
   try simp only[bp,and_assoc]
   apply viaA
   ·have hX:=fun k kn m h0=>call (T:=T) (k:=k) (kn:=kn) (m:=m) hfd h0
    repeat' (first | with_reducible apply And.imp | exact hX _ _ _)
   refine av hx ?_
   try simp only[and_self,and_self_left,and_self_right,bp,bw]
   repeat' (with_reducible refine ai ?_ ?_)
   all_goals refine hE () _ trivial ?_
   all_goals exact be [3,6,7,11] [1,2,3,6,7,8,9,11,12] rfl rfl rfl (fun _ _ e=>e) rfl
  intro _ _
  show aw _ _ _ ⟨113,[(1,.v (vi n)),(2,.v (vi d)),(3,.p 3 0),(6,.p 6 0),(7,.p 7 0),(8,.v (vi 0)),(9,.v (.func 49 [])),(11,.p 11 0),(12,.v (vi r.crs.length))],[(11,.var [ints p'.fls]),(7,.var zeroK),(6,.var jeb),(3,.con r.cs)],[]⟩ _
  have hlate:(¬ 0<(r.crs.length:Int)/\lateC (bg r.crs r.crs.length) d=false)\/(0<(r.crs.length:Int)/\∃q,r.crs[r.crs.length-1]? = some q/\lateC (bg r.crs r.crs.length) d=decide (d<q.day)):=by
   unfold bg;by_cases h0:r.crs.length=0
   ·left;rw[if_pos h0];exact ⟨by omega,rfl⟩
   ·right;rw[if_neg h0];obtain ⟨q,hq,-,-⟩:=aj (l:=r.crs) (k:=r.crs.length-1) (by omega);rw[hq];exact ⟨by omega,q,rfl,rfl⟩
  have hE0:desE r n d=if lateC (bg r.crs r.crs.length) d=true then 5 else if r.dps.any (depB p'.fls)=true then 6 else 0:=by
   unfold desE;rw[if_neg (fun e=>e hz),hfp]
  have hfail:∀e,desE r n d=e->e≠0->desP r n d=(c8,crtZ,e):=fun e h1 h2=>by
   unfold desP;rw[if_pos (by rw[h1]; exact h2),h1]
  apply aw_meetP (lateC (bg r.crs r.crs.length) d=false) ⟨113,[(1,.v (vi n)),(2,.v (vi d)),(3,.p 3 0),(6,.p 6 0),(7,.p 7 0),(8,.v (vi 0)),(9,.v (.func 49 [])),(11,.p 11 0),(12,.v (vi r.crs.length))],[(11,.var [ints p'.fls]),(7,.var zeroK),(6,.var jeb),(3,.con r.cs)],[]⟩
  ·intro tail;rcases hlate with ⟨h0,hl⟩ | ⟨h0,q,hq,hl⟩
   ·refine runMk (eq_false h0) ?_;refine tail _ hl ?_;exact be [3,6,7,11] [1,2,3,6,7,8,9,11,12] rfl rfl rfl (fun _ _ e=>e) rfl
   ·by_cases hdq:d<q.day
    ·rw[hfail 5 (by rw[hE0,hl,decide_eq_true hdq]; rfl) (by decide)];refine runW (ai hq hdq) ?_;refine call (jme _) ?_;refine run ?_;exact finW (jm3 _)
    ·refine runMk (ai hq (eq_false hdq)) ?_;refine tail _ (by rw[hl,decide_eq_false hdq]) ?_;exact be [3,6,7,11] [1,2,3,6,7,8,9,11,12] rfl rfl rfl (fun _ _ e=>e) rfl
  intro hl;have hE:desE r n d=if r.dps.any (depB p'.fls)=true then 6 else 0:=by rw[hE0,if_neg (by rw[hl]; decide)]
  have hdepC:=den_anyDep (T:=T) r.dps 51 [.row [ints p'.fls]] (depB p'.fls) h.dps (fun e _=>den_depB p'.fls hfl e);refine run ?_;refine call hdepC ?_;by_cases hdep:r.dps.any (depB p'.fls)=true
  ·rw[hfail 6 (by rw[hE,if_pos hdep]) (by decide)];refine runW hdep ?_;refine call (jme _) ?_;refine run ?_;exact finW (jm3 _)
  rw[if_neg hdep] at hE;have hfls:=jq4 hfp
  have hP:desP r n d=if crtB (newC r n d p'.fls)=false then (c8,crtZ,1) else
    if bh (morC r (newD r n d p'.fls))≠0 then (c8,crtZ,bh (morC r (newD r n d p'.fls))) else (morC r (newD r n d p'.fls),newD r n d p'.fls,0):=by
   unfold desP;rw[if_neg (fun e=>e hE),hfls]
  have hbl:(befC r.crs r.crs.length).length=32:=befC_len hR.ok;have hcp:=(jkm (T:=T) p'.fls hfl).den;have hbf:=jri L r.crs r.crs.length hcl (Nat.le_refl _);refine runD (Bool.eq_false_iff.2 hdep) ?_;refine jea .nm (fun _:Unit=>True) (fun _=>⟨113,[(1,.v (vi n)),(2,.v (vi d)),(3,.p 3 0),(6,.p 6 0),(7,.p 7 0),(8,.v (vi 0)),(9,.v (.func 49 [])),(13,.p 13 0)],[(13,.var (newC r n d p'.fls).cs),(11,.con [ints p'.fls]),(7,.var zeroK),(6,.var jeb),(3,.con r.cs)],[]⟩) ?_ ?_
  ·intro E hE1;refine ct gr144b ?_;refine av trivial ?_
   try simp only[and_self,and_self_left,and_self_right,bp,bw,and_assoc]
   apply viaA
   ·have hX:=fun k kn m h0=>call (T:=T) (k:=k) (kn:=kn) (m:=m) hcp h0
    repeat' (first | with_reducible apply And.imp | exact hX _ _ _)
   refine av trivial ?_
   try simp only[and_self_right]
   apply viaA
   ·have hX:=fun k kn m h0=>call (T:=T) (k:=k) (kn:=kn) (m:=m) hbf h0
    repeat' (first | with_reducible apply And.imp | exact hX _ _ _)
   refine av trivial ?_
   try simp only[and_self,and_self_left,and_self_right,bp,bw]
   repeat' (with_reducible refine ai ?_ ?_)
   all_goals refine hE1 () _ trivial ?_
   all_goals exact be [3,6,7,11,13] [1,2,3,6,7,8,9,13] rfl rfl rfl (fun _ _ e=>e) rfl
  intro _ _
  show aw _ _ _ ⟨113,[(1,.v (vi n)),(2,.v (vi d)),(3,.p 3 0),(6,.p 6 0),(7,.p 7 0),(8,.v (vi 0)),(9,.v (.func 49 [])),(13,.p 13 0)],[(13,.var (newC r n d p'.fls).cs),(11,.con [ints p'.fls]),(7,.var zeroK),(6,.var jeb),(3,.con r.cs)],[]⟩ _
  refine aw_name 13 ?_;intro b _;refine jd9 (st':=⟨113,[(1,.v (vi n)),(2,.v (vi d)),(3,.p 3 0),(6,.p 6 0),(7,.p 7 0),(8,.v (vi 0)),(9,.v (.func 49 [])),(13,.p 13 0)],[(13,.var (newC r n d p'.fls).cs (some b)),(7,.var zeroK),(6,.var jeb),(3,.con r.cs)],[]⟩) ⟨[1,2,3,6,7,8,9,13],[13,7,6,3],[],[]⟩ rfl ?_;have hdg:=jrl L (newC r n d p'.fls) hfl (by show (befC r.crs r.crs.length).length<=1048576; omega);refine run ?_;refine call hdg ?_;by_cases hcb:crtB (newC r n d p'.fls)=true
  ·have hdv:digV (newC r n d p'.fls)= .tup [.str (sumD (crtT (newC r n d p'.fls))),vi 0]:=digV_ok ((joa _).1 hcb);rw[hdv];have hD:=denS_changed_k L r h (newD r n d p'.fls) (fit_morC h ⟨hfl,by show (befC r.crs r.crs.length).length<=1048576; omega,by show (sumD _).length<=1048576; rw[jm5]; decide⟩ hcr) b;rw[if_neg (by rw[hcb]; decide)] at hP;refine runW trivial ?_;refine jd1 (callS [(999000,13)] hD (.cons (.v _) (.cons (.v _) .nil)) ?_ ?_)
   ·intro x hx;simp only[List.mem_singleton] at hx;subst hx;exact ⟨13,_,rfl,rfl,rfl,.inr rfl,rfl⟩
   by_cases hc14:bh (morC r (newD r n d p'.fls))=0
   ·rw[if_neg (fun e=>e hc14)] at hP;have e:chgd (morC r (newD r n d p'.fls))=(morC r (newD r n d p'.fls),0):=by unfold chgd; rw[if_neg (fun h=>h hc14)]
    rw[e,hP];refine runW trivial ?_;refine call hcp ?_;refine runD trivial ?_;refine jea .nm (fun _:Unit=>True) (fun _=>⟨113,[(6,.p 6 0),(7,.p 7 0),(8,.v (vi 0))],[(7,.var (newD r n d p'.fls).cs),(6,.var (morC r (newD r n d p'.fls)).cs)],[]⟩) ?_ ?_
    ·intro E hE1;refine ct gr144c ?_;refine av trivial ?_
     try simp only[and_self,and_self_left,and_self_right,bp,bw]
     repeat' (with_reducible refine ai ?_ ?_)
     all_goals refine hE1 () _ trivial ?_
     all_goals exact be [6,7] [6,7,8] rfl rfl rfl (fun i k e=>by
      rw[ah,ah] at e;split at e
      ·rename_i he; subst he; exact e
      split at e
      ·rename_i he; subst he; exact e
      ·cases e) rfl
    intro _ _
    show aw _ _ _ ⟨113,[(6,.p 6 0),(7,.p 7 0),(8,.v (vi 0))],[(7,.var (newD r n d p'.fls).cs),(6,.var (morC r (newD r n d p'.fls)).cs)],[]⟩ _
    refine run ?_;exact fin rfl
   ·rw[if_pos hc14] at hP;have e:chgd (morC r (newD r n d p'.fls))=(c8,bh (morC r (newD r n d p'.fls))):=by unfold chgd; rw[if_pos hc14]
    rw[e,hP];refine runW (eq_false hc14) ?_;refine call (jme _) ?_;refine run ?_;exact finW (jm3 _)
  ·have hdv:digV (newC r n d p'.fls)= .tup [.str [],vi 1]:=jhh (fun h=>hcb ((joa _).2 h));rw[hdv];rw[if_pos (Bool.eq_false_iff.2 hcb)] at hP;rw[hP];refine run ?_;refine call (jme _) ?_;refine run ?_;exact finW (jm3 _)
 ·have he:desP r n d=(c8,crtZ,jdc r n d):=by unfold desP desE; rw[if_pos hz,if_pos hz]
  rw[he];refine runW (eq_false hz) ?_;refine call (jme _) ?_;refine run ?_;exact finW (jm3 _)
def ex14:Rgs:=⟨[⟨1,[65],0,1048576,[]⟩],[⟨1,0,1048576,[⟨[49],[84]⟩,⟨[49,46,49],[84]⟩],[]⟩],[⟨7,1,5,10,[49,46,49],[84],0,[]⟩],[⟨3,[49],[99,108,111,115,101,100],0,false,1,0,1048576⟩],[⟨2,1,7,[],[82],12,20⟩],
 [⟨1,1,[65],0,1048576⟩,⟨2,1,[66],0,1048576⟩,⟨3,2,[67],0,1048576⟩],[],[⟨1,11,1,[7],1048576⟩],[⟨1,11,2⟩,⟨1,20,3⟩],[],[],0⟩
theorem ex14_des:desE ex14 1 20=0:=by decide +kernel
theorem ex14_chk:bh ex14=0:=by decide +kernel
theorem ex14_rdy:jdc ex14 1 19=22:=by decide +kernel
inductive WkS (size:Nat):List (List V)->List (List V)->Prop
 | nil:WkS size [] []
 | cons {a b:List V} {l m:List (List V)} (h:Wks a b) (hs:b.length=size) (ho:(b.all fun v=>v.one)=true) (t:WkS size l m):WkS size (a::l) (b::m)
theorem WkS.wk {size:Nat} {l m:List (List V)} (h:WkS size l m):Wk (.slice size l) (.slice size m):=by
  have hl:l.length=m.length:=by induction h with | nil=>rfl | cons _ _ _ _ ih=>simp[ih]
  refine Wk.slice hl (fun e he=> ?_) (fun e he c hc=> ?_) ?_
  · clear hl
    induction h with
    | nil=>cases he
    | cons _ hs _ _ ih => rcases List.mem_cons.1 he with rfl | he; · exact hs
                          · exact ih he
  · clear hl
    induction h with
    | nil=>cases he
    | cons _ _ ho _ ih => rcases List.mem_cons.1 he with rfl | he; · exact List.all_eq_true.1 ho c hc
                          · exact ih he
  · clear hl
    induction h with
    | nil=>intro i j e u v c h1; simp at h1
    | cons hw _ _ _ ih=>
      intro i j e u v c h1 h2 h3 h4;cases i with
      | zero=>
        simp only[List.getElem?_cons_zero,Option.some.injEq] at h1 h2;subst h1 h2;obtain ⟨v',q1,q2⟩:=hw.get h4;rw[h3] at q1;cases q1;exact q2
      | succ i=>exact ih i j e u v c (by simpa using h1) (by simpa using h2) h3 h4
theorem ex14_fit:ex14.Fit:=by
 refine ⟨⟨by decide,fun o ho=> ?_⟩,⟨by decide,fun p hp=> ?_⟩,⟨by decide,fun f hf=> ?_⟩,⟨by decide,fun q hq=> ?_⟩,⟨by decide,fun q hq=> ?_⟩,⟨by decide,fun q hq=> ?_⟩,⟨by decide,fun q hq=>(by cases hq)⟩,⟨by decide,fun q hq=> ?_⟩,by decide,⟨by decide,fun q hq=>(by cases hq)⟩,by decide⟩
 ·simp only[ex14,List.mem_cons,List.not_mem_nil,or_false] at ho;subst ho;exact ⟨by decide,by decide⟩
 ·simp only[ex14,List.mem_cons,List.not_mem_nil,or_false] at hp;subst hp;refine ⟨by decide,by decide,fun c hc=> ?_,fun c hc=>(by cases hc)⟩;simp only[List.mem_cons,List.not_mem_nil,or_false] at hc;rcases hc with rfl | rfl <;> exact ⟨by decide,by decide⟩
 ·simp only[ex14,List.mem_cons,List.not_mem_nil,or_false] at hf;subst hf;exact ⟨by decide,by decide,by decide,fun n hn=>(by cases hn)⟩
 ·simp only[ex14,List.mem_cons,List.not_mem_nil,or_false] at hq;subst hq;exact ⟨by decide,by decide⟩
 ·simp only[ex14,List.mem_cons,List.not_mem_nil,or_false] at hq;subst hq;exact ⟨by decide,by decide⟩
 ·simp only[ex14,List.mem_cons,List.not_mem_nil,or_false] at hq;rcases hq with rfl | rfl | rfl <;> decide
 ·simp only[ex14,List.mem_cons,List.not_mem_nil,or_false] at hq;subst hq;decide
theorem den_example14:Den prog T 21 [] (.agg ex14.cs):=by
 refine ae follows (fun args w=>call21 args w) func21 rfl 34 rfl ?_;refine run ?_;refine finW (wk_aggs ?_ rfl);refine .cons (WkS.wk (.cons ?_ rfl rfl .nil)) (.cons (WkS.wk (.cons ?_ rfl rfl .nil)) (.cons (WkS.wk (.cons ?_ rfl rfl .nil)) (.cons (.refl _) (.cons (.refl _) (.cons (.refl _) ?_)))))
 all_goals repeat (first | exact .nil | refine .cons (.refl _) ?_ | refine .cons (.nil _) ?_)
def ex14T:Str:=[99,101,114,116,105,102,105,99,97,116,101,32,49,32,112,114,111,112,111,115,97,108,32,49,32,100,97,121,32,50,48,32,102,105,108,101,115,32,55,10]
theorem ex14_txt:crtT (newC ex14 1 20 [7])=ex14T++List.replicate 32 0:=by decide +kernel
theorem ex14_crt:crtB (newC ex14 1 20 [7])=true:=by decide +kernel
theorem crtT_dig (c:Crt) (s:Str):crtT { c with dig:=s } = crtT c:=rfl
theorem crtB_dig (c:Crt) (s:Str):crtB { c with dig:=s } = crtB c:=rfl
theorem ex14_chain:chainR [newD ex14 1 20 [7]]=(-1,0):=by
 have h:jat [newD ex14 1 20 [7]] 0=true:=by
  unfold jat;simp only[List.getElem?_cons_zero];unfold linkC newD;rw[crtT_dig,crtB_dig,ex14_crt];simp only[Bool.true_and];decide +kernel
 unfold chainR;rw[jij (by decide) fun i hi=> ?_];have:i=0:=by simp at hi; exact hi
 subst this;rw[if_pos h]
theorem ex14_desP:desP ex14 1 20=(morC ex14 (newD ex14 1 20 [7]),newD ex14 1 20 [7],0):=by
 rw[desP_eq 1 20 (by decide) (fun p hp=>by
  simp only[ex14,List.mem_cons,List.not_mem_nil,or_false] at hp;subst hp
  decide)]
 unfold desR;rw[if_neg (fun e=>e ex14_des)];rfl
theorem byL_zero:∀n:Nat,byL (List.replicate n (vb8 0))=some (List.replicate n 0)
 | 0=>rfl
 | n+1=>by rw[List.replicate_succ,byL,byL_zero n]; rfl
set_option maxHeartbeats 8000000 in
theorem den_awake14 (L:LibT T):Den prog T 6 [] (vb true):=by
 have c0:=den_example14 (T:=T)
 have c1:Den prog T 20 [.agg ex14.cs,vi 1,vi 20] (.tup [.agg (morC ex14 (newD ex14 1 20 [7])).cs,.agg (newD ex14 1 20 [7]).cs,vi 0]):=by
  have:=jrm L ex14 ex14_fit 1 20 (by decide)
  rwa [ex14_desP] at this
 have c2:=jqs L (ex14T++List.replicate 32 0) (by decide)
 have c4:Den prog T 11 [.agg ex14.cs] (vi 0):=by
  have:=jd3 L ex14 ex14_fit
  rwa [ex14_chk] at this
 have c5:Den prog T 8 [.agg ex14.cs,vi 1,vi 19] (vi 22):=by
  have:=jou L ex14 ex14_fit 1 19
  rwa [ex14_rdy] at this
 have hdig:(newD ex14 1 20 [7]).dig=sumD (ex14T++List.replicate 32 0):=by rw[<- ex14_txt]; rfl
 have hcrs:(morC ex14 (newD ex14 1 20 [7])).crs=[newD ex14 1 20 [7]]:=rfl
 have c3:Den prog T 23 [crts (morC ex14 (newD ex14 1 20 [7])).crs] (.tup [vi (-1),vi 0]):=by
  have:=den_ChainD L [newD ex14 1 20 [7]] ⟨by decide,fun c hc=>by
   rw[List.mem_singleton.1 hc];refine ⟨by decide,by decide +kernel,?_⟩;rw[hdig,jm5]
   decide⟩
  rw[ex14_chain] at this;exact this
 have hlen:(morC ex14 (newD ex14 1 20 [7])).crs.length=1:=rfl;have hsl:=jm5 (ex14T++List.replicate 32 0);obtain ⟨R,hR⟩:∃R,morC ex14 (newD ex14 1 20 [7])=R:=⟨_,rfl⟩;obtain ⟨D,hD⟩:∃D,newD ex14 1 20 [7]=D:=⟨_,rfl⟩;obtain ⟨S,hS⟩:∃S,sumD (ex14T++List.replicate 32 0)=S:=⟨_,rfl⟩;obtain ⟨X,hX⟩:∃X,ex14=X:=⟨_,rfl⟩;rw[hR,hD] at c1;rw[hR] at c3 hlen;rw[hD,hS] at hdig;rw[hS] at c2 hsl;rw[hX] at c0 c1 c4 c5;clear hR hD hS hX hcrs;have hby:=byL_zero 32;refine ae follows (fun args w=>call6 args w) func6 rfl 62 rfl ?_;refine run ?_;refine call c0 ?_;refine run ?_;refine call c1 ?_;refine runW hby ?_;intro r' hnm;have q1:(List.replicate 32 (vb8 0)).length=32:=rfl;have q2:List.take 32 (List.replicate 32 (vb8 0))=List.replicate 32 (vb8 0):=rfl;have q3:(List.replicate 32 (0:UInt8)).length=32:=rfl;refine runW (ai q1 (ai q2 (ai q3 hby))) ?_;refine call c2 ?_;refine runW trivial ?_;refine call c3 ?_;refine runW hlen ?_;refine call c4 ?_;refine runW hlen ?_;refine call c5 ?_;refine runW (ai hlen (ai hdig hsl)) ?_;exact fin rfl
def bigC (c:Crt):Bool:=(decide (12<c.fls.length) && !decide (c.fls.length=257)) || decide (100<c.bef.length) || decide (100<c.dig.length)
def manyCh (l:List Crt):Bool:=(decide (12<l.length) && decide (l.length<=1024)) || decide (1029<l.length)
def fewCh (l:List Crt):Bool:= !manyCh l && !l.any bigC
def manyK (r:Rgs):Bool:=(decide (10<r.cks.length) && decide (r.cks.length<=32)) || decide (37<r.cks.length) || decide (8<r.pps.length) || decide (20<r.aps.length)
def few14 (r:Rgs):Bool:=fewG r && !manyK r && !(r.cks.any fun c=>decide (100<c.name.length)) && !(r.pps.any fun p=>decide (12<p.fls.length)) && fewCh r.crs
theorem den_FewChain (l:List Crt) (hl:l.length<=1048576/\∀c∈l,c.fls.length<=1048576/\c.bef.length<=1048576/\c.dig.length<=1048576):Den prog T 25 [crts l] (vb (fewCh l)):=by
 obtain ⟨hl0,hl1⟩:=hl;refine ae follows (fun args w=>call25 args w) func25 rfl 57 rfl ?_;unfold fewCh
 have hm:(manyCh l=true/\((12<l.length/\l.length<=1024)\/1029<l.length))\/(manyCh l=false/\¬ 1029<l.length/\(12<l.length->¬l.length<=1024)):=by
  unfold manyCh;by_cases h1:12<l.length <;> by_cases h2:l.length<=1024 <;> by_cases h3:1029<l.length <;> simp[h1,h2,h3] <;> omega
 rcases hm with ⟨h0,h1⟩ | ⟨h0,h3,h4⟩
 ·rw[h0];rcases h1 with ⟨h1,h2⟩ | h3
  ·refine run ?_;exact fin rfl
  ·refine run ?_;exact fin rfl
 rw[h0];by_cases h1:12<l.length
 ·have h2:=h4 h1;refine runW trivial ?_;refine loop ⟨[0,3],[],[],[]⟩ (fun k:Nat=>k<=l.length/\∀c∈l.take k,bigC c=false) (fun k=>l.length-k) (fun k=>⟨57,[(0,.v (crts l)),(3,.v (vi k))],[],[]⟩) 0 ⟨Nat.zero_le _,by simp⟩ ?_;rintro k ⟨hk,hall⟩;by_cases hlt:k<l.length
  ·obtain ⟨c,hx,-,hmm⟩:=aj hlt;obtain ⟨hf,hb,hd⟩:=hl1 c hmm;have bad:bigC c=true->l.any bigC=true:=fun h=>List.any_eq_true.2 ⟨c,hmm,h⟩;have next:bigC c=false->∀x∈l.take (k+1),bigC x=false:=fun h=>br hall hx h;by_cases q1:12<c.fls.length
   ·by_cases q2:c.fls.length=257
    ·by_cases q3:100<c.bef.length
     ·rw[bad (by unfold bigC; simp[q3])];refine runW hx ?_;exact fin rfl
     ·by_cases q4:100<c.dig.length
      ·rw[bad (by unfold bigC; simp[q4])];refine runW hx ?_;exact fin rfl
      ·refine runW hx ?_;exact round (k+1) ⟨hlt,next (by unfold bigC; simp[q2,q3,q4])⟩ (by omega)
    ·rw[bad (by unfold bigC; simp[q1,q2])];refine runW hx ?_;exact fin rfl
   ·by_cases q3:100<c.bef.length
    ·rw[bad (by unfold bigC; simp[q3])];refine runW hx ?_;exact fin rfl
    ·by_cases q4:100<c.dig.length
     ·rw[bad (by unfold bigC; simp[q4])];refine runW hx ?_;exact fin rfl
     ·refine runW hx ?_;exact round (k+1) ⟨hlt,next (by unfold bigC; simp[q1,q3,q4])⟩ (by omega)
  ·have ha:l.any bigC=false:=List.any_eq_false.2 fun x hx=>by rw[jev hall hlt x hx]; decide
   rw[ha];refine run ?_;exact fin rfl
 ·refine runW trivial ?_;refine loop ⟨[0,3],[],[],[]⟩ (fun k:Nat=>k<=l.length/\∀c∈l.take k,bigC c=false) (fun k=>l.length-k) (fun k=>⟨57,[(0,.v (crts l)),(3,.v (vi k))],[],[]⟩) 0 ⟨Nat.zero_le _,by simp⟩ ?_;rintro k ⟨hk,hall⟩;by_cases hlt:k<l.length
  ·obtain ⟨c,hx,-,hmm⟩:=aj hlt;obtain ⟨hf,hb,hd⟩:=hl1 c hmm;have bad:bigC c=true->l.any bigC=true:=fun h=>List.any_eq_true.2 ⟨c,hmm,h⟩;have next:bigC c=false->∀x∈l.take (k+1),bigC x=false:=fun h=>br hall hx h;by_cases q1:12<c.fls.length
   ·by_cases q2:c.fls.length=257
    ·by_cases q3:100<c.bef.length
     ·rw[bad (by unfold bigC; simp[q3])];refine runW hx ?_;exact fin rfl
     ·by_cases q4:100<c.dig.length
      ·rw[bad (by unfold bigC; simp[q4])];refine runW hx ?_;exact fin rfl
      ·refine runW hx ?_;exact round (k+1) ⟨hlt,next (by unfold bigC; simp[q2,q3,q4])⟩ (by omega)
    ·rw[bad (by unfold bigC; simp[q1,q2])];refine runW hx ?_;exact fin rfl
   ·by_cases q3:100<c.bef.length
    ·rw[bad (by unfold bigC; simp[q3])];refine runW hx ?_;exact fin rfl
    ·by_cases q4:100<c.dig.length
     ·rw[bad (by unfold bigC; simp[q4])];refine runW hx ?_;exact fin rfl
     ·refine runW hx ?_;exact round (k+1) ⟨hlt,next (by unfold bigC; simp[q1,q3,q4])⟩ (by omega)
  ·have ha:l.any bigC=false:=List.any_eq_false.2 fun x hx=>by rw[jev hall hlt x hx]; decide
   rw[ha];refine run ?_;exact fin rfl
theorem den_Few14 (r:Rgs) (h:r.Fit):Den prog T 7 [.agg r.cs] (vb (few14 r)):=by
 have hk:=h.cks.1;have hp:=h.pps.1;have ha:=h.aps;have hG:=den_FewG (T:=T) r h;have hC:=den_FewChain (T:=T) r.crs h.crs;refine ae follows (fun args w=>call7 args w) func7 rfl 71 rfl ?_;unfold few14;refine run ?_;refine call hG ?_;cases e1:fewG r
 ·refine run ?_;exact fin rfl
 have hm:(manyK r=true/\((10<r.cks.length/\r.cks.length<=32)\/37<r.cks.length\/(8<r.pps.length/\¬ 37<r.cks.length/\(10<r.cks.length->¬r.cks.length<=32))\/(20<r.aps.length/\¬ 8<r.pps.length/\¬ 37<r.cks.length/\(10<r.cks.length->¬r.cks.length<=32))))\/
   (manyK r=false/\¬ 20<r.aps.length/\¬ 8<r.pps.length/\¬ 37<r.cks.length/\(10<r.cks.length->¬r.cks.length<=32)):=by
  unfold manyK;by_cases h1:10<r.cks.length <;> by_cases h2:r.cks.length<=32 <;> by_cases h3:37<r.cks.length <;> by_cases h4:8<r.pps.length <;> by_cases h5:20<r.aps.length <;> simp[h1,h2,h3,h4,h5] <;> omega
 rcases hm with ⟨h0,h1⟩ | ⟨h0,h5,h4,h3,h2⟩
 ·rw[h0];rcases h1 with ⟨h1,h2⟩ | h3 | ⟨h4,h3,h2⟩ | ⟨h5,h4,h3,h2⟩
  ·refine run ?_;exact fin rfl
  ·refine run ?_;exact fin rfl
  ·by_cases h1:10<r.cks.length
   ·have:=h2 h1;refine run ?_;exact fin rfl
   ·refine run ?_;exact fin rfl
  ·by_cases h1:10<r.cks.length
   ·have:=h2 h1;refine run ?_;exact fin rfl
   ·refine run ?_;exact fin rfl
 rw[h0];apply aw_meet1 ⟨71,[(1,.p 1 0),(3,.v (vi (0:Nat)))],[(1,.var r.cs)],[]⟩
 ·intro tail;by_cases h1:10<r.cks.length
  ·have:=h2 h1;refine run ?_;exact tail _ (be [1] [1,3] rfl rfl rfl (fun _ _ e=>e) rfl)
  ·refine run ?_;exact tail _ (be [1] [1,3] rfl rfl rfl (fun _ _ e=>e) rfl)
 refine loop ⟨[1,3],[1],[],[]⟩ (fun k:Nat=>k<=r.cks.length/\∀c∈r.cks.take k,decide (100<c.name.length)=false) (fun k=>r.cks.length-k)
  (fun k=>⟨71,[(1,.p 1 0),(3,.v (vi k))],[(1,.var r.cs)],[]⟩) 0 ⟨Nat.zero_le _,by simp⟩ ?_
 rintro k ⟨hk,hall⟩;by_cases hlt:k<r.cks.length
 ·obtain ⟨c,hx,-,hmm⟩:=aj hlt;have hn:=h.cks.2 c hmm;by_cases q1:100<c.name.length
  ·have:(r.cks.any fun c=>decide (100<c.name.length))=true:=List.any_eq_true.2 ⟨c,hmm,decide_eq_true q1⟩;rw[this];refine runW hx ?_;exact fin rfl
  ·refine runW hx ?_;exact round (k+1) ⟨hlt,br hall hx (decide_eq_false q1)⟩ (by omega)
 have hn0:(r.cks.any fun c=>decide (100<c.name.length))=false:=List.any_eq_false.2 fun x hx=>by rw[jev hall hlt x hx]; decide
 rw[hn0];clear hall;refine run ?_
 refine loop ⟨[1,4],[1],[],[]⟩ (fun k:Nat=>k<=r.pps.length/\∀c∈r.pps.take k,decide (12<c.fls.length)=false) (fun k=>r.pps.length-k)
  (fun k=>⟨71,[(1,.p 1 0),(4,.v (vi k))],[(1,.var r.cs)],[]⟩) 0 ⟨Nat.zero_le _,by simp⟩ ?_
 rintro j ⟨hj,hall⟩;by_cases hjl:j<r.pps.length
 ·obtain ⟨c,hx,-,hmm⟩:=aj hjl;have hn:=h.pps.2 c hmm;by_cases q1:12<c.fls.length
  ·have:(r.pps.any fun p=>decide (12<p.fls.length))=true:=List.any_eq_true.2 ⟨c,hmm,decide_eq_true q1⟩;rw[this];refine runW hx ?_;exact fin rfl
  ·refine runW hx ?_;exact round (j+1) ⟨hjl,br hall hx (decide_eq_false q1)⟩ (by omega)
 have hp0:(r.pps.any fun p=>decide (12<p.fls.length))=false:=List.any_eq_false.2 fun x hx=>by rw[jev hall hjl x hx]; decide
 rw[hp0,show (!false && fewCh r.crs)=fewCh r.crs from by cases fewCh r.crs <;> rfl];refine run ?_;refine call hC ?_;refine run ?_;exact fin rfl
structure Few14 (r:Rgs):Prop where
 g:fewG r=true
 crs:r.crs.length<=8
 pps:r.pps.length<=8
 aps:r.aps.length<=20
 cks:r.cks.length<=37
 fls:∀p∈r.pps,p.fls.length<=12
 crt:∀c∈r.crs,c.fls.length<=257/\c.bef.length<=100/\c.dig.length<=100
theorem few14_of {r:Rgs} (h:few14 r=true):Few14 r:=by
 unfold few14 at h;simp only[Bool.and_eq_true,Bool.not_eq_true'] at h;obtain ⟨⟨⟨⟨h1,h2⟩,-⟩,h4⟩,h5⟩:=h;unfold manyK at h2;simp only[Bool.or_eq_false_iff,Bool.and_eq_false_iff,decide_eq_false_iff_not] at h2;unfold fewCh at h5;simp only[Bool.and_eq_true,Bool.not_eq_true'] at h5;have hg:=h1;unfold fewG fewG0 at hg;simp only[Bool.and_eq_true,Bool.not_eq_true',decide_eq_false_iff_not] at hg;refine ⟨h1,by omega,by omega,by omega,by omega,fun p hp=> ?_,fun c hc=> ?_⟩
 ·have:=List.any_eq_false.1 h4 p hp;simp at this;omega
 ·have:=List.any_eq_false.1 h5.2 c hc;unfold bigC at this;simp at this;omega
theorem prp_row {l:List Prp} {k:Nat} {p:Prp} (h:l[k]? = some p) (d:Int):((l.map Prp.cs).flatten).take (k*5+4)++[vi d]++((l.map Prp.cs).flatten).drop (k*5+4+1)=((l.set k { p with wdr:=d }).map Prp.cs).flatten:=by
 obtain ⟨A,B,h1,h2,h3⟩:=row_at (cs:=Prp.cs) (z:=5) (fun _=>rfl) h;rw[h3,h1,<- h2,Nat.add_assoc,List.take_length_add_append,List.drop_length_add_append];simp
theorem wdrP_set {l:List Prp} {k:Nat} {p:Prp} (h:l[k]? = some p) (d:Int):wdrP l k d=l.set k { p with wdr:=d } := by unfold wdrP; rw[h]
theorem wdrG_len {r:Rgs} (k:Nat) (d:Int):(wdrG r k d).pps.length=r.pps.length:=by
 show (wdrP r.pps k d).length=_
 unfold wdrP;split
 ·rw[List.length_set]
 ·rfl
abbrev gr147:List Gent:=⟨bz 9 0,9,.one 0 0⟩::⟨bz 9 1,8,.ld 4 0⟩::⟨bz 9 17,7,.ld 5 0⟩::⟨bz 9 49,6,.alt [(1,0)]⟩::⟨bz 9 51,5,.one 2 0⟩::⟨bz 9 55,4,.alt [(3,0)]⟩::⟨bz 9 63,3,.one 6 0⟩::⟨bz 9 127,2,.one 7 0⟩::⟨bz 9 255,1,.alt [(8,0)]⟩::⟨bz 9 511,0,.fin⟩::[]
set_option maxHeartbeats 8000000 in
theorem denV_w (r:Rgs) {k:Nat} {p:Prp} (hx:r.pps[k]? = some p) (d:Int) (s:Option (Nat×Nat)) (hs:okB r.pps.length s) (_hb:r.pps.length<=1048576):DenV prog T 45 [(999000,.var (cs_q r s))] 999050 (row_q r s) [.p 999000 0,.v (.row [vi d]),.v (.row [vi k])] (PostC (wdrG r k d)):=by
 have hlt:=(gsi.1 hx).1;rcases s with _ | ⟨b,c⟩
 ·have:r.pps.length=0:=hs;omega
 obtain ⟨hc1,hc2⟩:r.pps.length<=c/\c<=maxLen:=hs;have hw:=bb (cs:=Prp.cs) (z:=5) (fun _=>rfl) r.pps;have hset:=prp_row hx d;refine jjm follows (fun args w=>call45 args w) func45 rfl 12 rfl rfl ?_ (fun _ _ _ h=>jma h)
 show aw _ _ _ (St.mk 12 [(0,.p 999000 0),(1,.v (.row [vi d])),(2,.v (.row [vi k]))] [(999000,.var [ofcs r.ofs,au r.pls,fils r.fls,ruls r.rls,hlds r.hls,clks r.cks,sels r.sls,.val (.slice (some ⟨b,0,none⟩) r.pps.length c),apvs r.aps,crts r.crs,deps r.dps,vi r.chg]),(999050,.var (r.pps.map Prp.cs).flatten (some b) (some (42,5,c)))] []) _
 refine jd8 (jjb .nm (fun _:Unit=>True) (fun _=>⟨12,[],[(999000,Blk.var [ofcs r.ofs,au r.pls,fils r.fls,ruls r.rls,hlds r.hls,clks r.cks,sels r.sls,.val (.slice (some ⟨b,0,none⟩) r.pps.length c),apvs r.aps,crts r.crs,deps r.dps,vi r.chg]),(999050,Blk.var ((wdrG r k d).pps.map Prp.cs).flatten (some b) (some (42,5,c)))],[]⟩) ?_) ?_
 ·intro E hE;obtain ⟨W,hW⟩:∃W,(r.pps.map Prp.cs).flatten=W:=⟨_,rfl⟩
  have hset':W.take (k*5+4)++[vi d]++W.drop (k*5+4+1)=((wdrG r k d).pps.map Prp.cs).flatten:=by
   rw[<- hW,hset]
   show _=((wdrP r.pps k d).map Prp.cs).flatten
   rw[wdrP_set hx]
  obtain ⟨W2,hW2⟩:∃W2,((wdrG r k d).pps.map Prp.cs).flatten=W2:=⟨_,rfl⟩;rw[hW2] at hset' hE;simp only[hW] at hw ⊢;refine runD (ai hw ao) ?_;refine ct gr147 ?_;refine av (ai hset' (ai hw ao)) ?_
  try simp only[and_self,and_self_left,and_self_right,bp,bw]
  repeat' (with_reducible refine ai ?_ ?_)
  all_goals refine hE () _ trivial ?_
  all_goals exact be [] [] rfl rfl rfl (fun _ _ e=>e) rfl
 ·rintro M F0 w0 F ρ st a w e X ⟨rfl,_,_,hs⟩;have hch:=bu (cs:=Prp.cs) (z:=5) (fun _=>rfl) (wdrG r k d).pps;rw[wdrG_len] at hch;obtain ⟨F',X⟩:=jmf (k:=999050) (id:=999000) (j:=7) (n:=r.pps.length) (size:=5) (hs _ _ _ _ _ _ _ X) rfl rfl (by decide) rfl hc1 hc2 (by rw[bb (cs:=Prp.cs) (z:=5) (fun _=>rfl),wdrG_len]; exact Nat.le_refl _);simp only[fcSt] at X;rw[hch] at X;exact ⟨F',ρ,_,X,finVc (i:=999050) rfl rfl⟩
theorem fit_wdrG {r:Rgs} (h:r.Fit) (k:Nat) (d:Int):(wdrG r k d).Fit:=
  { ofs:=h.ofs,pls:=h.pls,fls:=h.fls,rls:=h.rls,hls:=h.hls,cks:=h.cks,sls:=h.sls,aps:=h.aps,crs:=h.crs,dps:=h.dps
    pps:=⟨by rw[wdrG_len]; exact h.pps.1,fun q hq=>by
      have hq:q∈wdrP r.pps k d:=hq;unfold wdrP at hq;split at hq
      · rename_i p hp;rcases List.mem_or_eq_of_mem_set hq with hq | rfl
        · exact h.pps.2 q hq
        · exact h.pps.2 p (List.mem_of_getElem? hp)
      · exact h.pps.2 q hq⟩ }
theorem den_changed_w (L:LibT T) (r:Rgs) (h:r.Fit) {k:Nat} {p:Prp} (hx:r.pps[k]? = some p) (d:Int):Den prog T 44 [.agg r.cs,.func 45 [.row [vi d],.row [vi k]]] (.tup [.agg (chgd (wdrG r k d)).1.cs,vi (chgd (wdrG r k d)).2]):=by
 refine joh L r _ h (fit_wdrG h k d) _ _ _ (jr1 r h) ?_;rintro ro v ⟨s,hs,rfl,rfl⟩;refine ⟨fun i=>(cs_q r s).getD i (vi 0),rfl,fun i=> ?_,fun b hb=> ?_,denV_w r hx d s hs h.pps.1⟩
 ·match i with
  | 0 | 1 | 2 | 3 | 4 | 5 | 6 | 7 | 8 | 9 | 10 | 11=>first | rfl | (cases s <;> rfl)
  | i+12=>rfl
 ·cases s with
  | none=>cases hb
  | some z=>cases hb; exact ⟨rfl,_,rfl⟩
theorem den_lateA (n d:Int) (a:Apv):Den prog T 43 [.agg a.cs,.row [vi n],.row [vi d]] (vb (jef n d a)):=by
 refine ae follows (fun args w=>call43 args w) func43 rfl 15 rfl ?_;unfold jef;by_cases h1:a.prp=n
 ·by_cases h2:d<=a.day
  ·refine runW (ai (eq_true h1) (eq_true h2)) ?_;refine fin (ak ?_)
   first | rfl | (simp; done) | (simp[h1,h2])
  ·refine runW (ai (eq_true h1) (eq_false h2)) ?_;refine fin (ak ?_)
   first | rfl | (simp; done) | (simp[h1,h2])
 ·refine runW (eq_false h1) ?_;refine fin (ak ?_)
  first | rfl | (simp; done) | (simp[h1])
set_option maxHeartbeats 8000000 in
theorem den_Withdraw (L:LibT T) (r:Rgs) (h:r.Fit) (n d:Int):Den prog T 17 [.agg r.cs,vi n,vi d] (.tup [.agg (wdrR r n d).1.cs,vi (wdrR r n d).2]):=by
 have hck:=jd3 L r h;have hfd:=jm2 (T:=T) r h n;have hpl:=h.pps.1;have hce:=jqr (T:=T) r h n;have hla:=den_anyApv (T:=T) r.aps 43 [.row [vi n],.row [vi d]] (jef n d) h.aps (fun a _=>den_lateA n d a)
 have bad:∀e,wdrE r n d=e->e≠0->wdrR r n d=(c8,e):=fun e h1 h2=>by
  unfold wdrR;rw[if_pos (by rw[h1]; exact h2),h1]
 rcases je7 (ca n) r.pps with ⟨h1,h2⟩ | ⟨k,p,h1,hk,hx,hpm,h2⟩
 ·have h1:jbf r.pps n= -1:=h1;rw[h1] at hfd;refine ae follows (fun args w=>call17 args w) func17 rfl 57 rfl ?_;refine run ?_;refine call hfd ?_;refine run ?_;refine call hck ?_;by_cases hz:bh r=0
  ·rw[bad 7 (by unfold wdrE; rw[if_neg (fun e=>e hz),h2]) (by decide)];refine runW hz ?_;exact finW (jc4 _)
  ·rw[bad 1 (by unfold wdrE; rw[if_pos hz]) (by decide)];refine runW (eq_false hz) ?_;exact finW (jc4 _)
 ·have h1:jbf r.pps n=(k:Int):=h1;rw[h1] at hfd;have hch:=den_changed_w L r h hx d;have hin:=jc2 (T:=T) d p.day 1048575;refine ae follows (fun args w=>call17 args w) func17 rfl 57 rfl ?_;refine run ?_;refine call hfd ?_;refine run ?_;refine call hck ?_;by_cases hz:bh r=0
  ·have hE:wdrE r n d=if d<p.day\/1048575<d then 2 else if p.wdr≠1048576\/jbh r.crs n=true\/r.aps.any (jef n d)=true then 11 else 0:=by
    unfold wdrE;rw[if_neg (fun e=>e hz),h2]
   refine runW (ai hz hx) ?_;refine call hin ?_;by_cases hd:d<p.day\/1048575<d
   ·have hb:(decide (p.day<=d) && decide (d<=1048575))=false:=by
     rcases hd with hd | hd
     ·rw[decide_eq_false (by omega),Bool.false_and]
     ·rw[show decide (d<=1048575)=false from decide_eq_false (by omega),Bool.and_false]
    rw[hb,bad 2 (by rw[hE,if_pos hd]) (by decide)];refine run ?_;exact finW (jc4 _)
   have hb:(decide (p.day<=d) && decide (d<=1048575))=true:=by rw[decide_eq_true (by omega),decide_eq_true (by omega)]; rfl
   rw[if_neg hd] at hE;rw[hb];by_cases hw:p.wdr=1048576
   ·refine runW (ai hx (eq_true hw)) ?_;refine call hce ?_;cases hc:jbh r.crs n
    ·refine runW trivial ?_;refine call hla ?_;cases ha:r.aps.any (jef n d)
     ·have hE0:wdrE r n d=0:=by rw[hE,if_neg (by rintro (e | e | e); exact e hw; rw[hc] at e; cases e; rw[ha] at e; cases e)]
      have hok:bh (wdrG r k d)=0:=by
       have:=wdr_ok hE0;rw[h1] at this;exact jj2.2 this
      have e:chgd (wdrG r k d)=(wdrG r k d,0):=by unfold chgd; rw[if_neg (fun e=>e hok)]
      have e2:wdrR r n d=(wdrG r k d,0):=by unfold wdrR; rw[if_neg (fun e=>e hE0),h1]; rfl
      rw[e] at hch;rw[e2];refine runW trivial ?_;refine call hch ?_;refine run ?_;exact fin rfl
     ·rw[bad 11 (by rw[hE,if_pos (.inr (.inr ha))]) (by decide)];refine run ?_;exact finW (jc4 _)
    ·rw[bad 11 (by rw[hE,if_pos (.inr (.inl hc))]) (by decide)];refine run ?_;exact finW (jc4 _)
   ·rw[bad 11 (by rw[hE,if_pos (.inl hw)]) (by decide)];refine runW (ai hx (eq_false hw)) ?_;exact finW (jc4 _)
  ·rw[bad 1 (by unfold wdrE; rw[if_pos hz]) (by decide)];refine runW (eq_false hz) ?_;exact finW (jc4 _)
end Go.Arc
