/- A part of this claim. -/
import Derived.Test.YtdljpbdmcgmalaaGreatDoorW138
import Derived.Test.YtdljpbdmcgmalaaGreatDoorW137
set_option maxRecDepth 100000
namespace Go.Arc
open Go.Ab Go.RowKit Go.Proofs Tryz
variable {T : Lay}
def apvRows (r:Rgs) (pre:List Apv) (q:Option Apv) (a:Apv) (p:Prp):List (Bool×Int):=
 [(!(decide (p.day<=a.day) && decide (a.day<=1048575)),2),(jhg q a,5),(decide (p.wdr<=a.day),11),(!jep r.cks a.clk a.day,7),(decide (a.clk=p.clk),22),(pre.any (jem a),6)]
theorem apvRows_ok (r:Rgs) (pre:List Apv) (q:Option Apv) (a:Apv) (p:Prp):fstB (apvRows r pre q a p)=apvE r pre q a p:=by
 unfold apvE apvRows;simp only[fstB];by_cases h1:a.day<p.day\/1048575<a.day
 ·rw[if_pos h1,if_pos zei]
 rw[if_neg h1,if_neg zei];by_cases h2:jhg q a=true
 ·rw[if_pos h2,if_pos h2]
 rw[if_neg h2,if_neg h2];by_cases h3:p.wdr<=a.day
 ·rw[if_pos h3,if_pos (decide_eq_true h3)]
 rw[if_neg h3,if_neg zei];cases h4:jep r.cks a.clk a.day
 ·rfl
 simp only[Bool.not_true,Bool.false_eq_true,reduceCtorEq,if_false];by_cases h5:a.clk=p.clk
 ·rw[if_pos h5,if_pos (decide_eq_true h5)]
 rw[if_neg h5,if_neg (by simp[h5])]
theorem den_apv1 (b a:Apv):Den prog T 101 [.agg b.cs,.row a.cs] (vb (jem a b)):=by
 refine ja0 call101 func101 16 ?_;unfold jem;by_cases h1:b.prp=a.prp
 ·refine runW (eq_true h1) ?_;exact zr
 ·exact zc1
abbrev gr134:List Gent:=⟨bz 25 0,25,.one 0 0⟩::⟨bz 25 1,24,.ld 1 0⟩::⟨bz 25 3,23,.one 2 0⟩::⟨bz 25 7,22,.one 3 0⟩::⟨bz 25 15,21,.ld 4 0⟩::⟨bz 25 31,20,.one 5 0⟩::⟨bz 25 63,19,.ld 6 0⟩::⟨bz 25 127,18,.one 7 0⟩::⟨bz 25 255,17,.one 8 0⟩::⟨bz 25 511,16,.one 9 0⟩::⟨bz 25 1023,15,.one 10 0⟩::⟨bz 25 2047,14,.ld 11 0⟩::⟨bz 25 4095,13,.ld 12 0⟩::⟨bz 25 8191,12,.one 13 0⟩::⟨bz 25 16383,11,.ld 14 0⟩::⟨bz 25 32767,10,.one 15 0⟩::⟨bz 25 65535,9,.one 16 0⟩::⟨bz 25 131071,8,.one 17 0⟩::⟨bz 25 262143,7,.ld 18 0⟩::⟨bz 25 524287,6,.alt [(19,1),(20,2),(21,0)]⟩::⟨bz 25 2621439,5,.alt [(19,4),(20,2)]⟩::⟨bz 25 1048575,5,.alt [(20,2),(21,3)]⟩::⟨bz 25 1572863,5,.alt [(19,1),(21,0)]⟩::⟨bz 25 3670015,4,.alt [(19,2)]⟩::⟨bz 25 2097151,4,.alt [(21,1)]⟩::⟨bz 25 3145727,4,.alt [(20,0)]⟩::⟨bz 25 4194303,3,.alt [(22,0)]⟩::⟨bz 25 8388607,2,.alt [(23,0)]⟩::⟨bz 25 16777215,1,.alt [(24,0)]⟩::⟨bz 25 33554431,0,.fin⟩::[]
set_option maxHeartbeats 16000000 in
theorem den_approvalD (r:Rgs) (h:r.Fit) (i:Nat) (hi:i<r.aps.length):Den prog T 40 [.agg r.cs,vi i] (vi (jbt r i)):=by
 have hl:=h.aps;have hpl:=h.pps.1;obtain ⟨a,hc,-,hm⟩:=ja1 hi;obtain ⟨q,hq,-,-⟩:=ja1 (l:=r.aps) (k:=i-1) om;have hfind:=jl3 (T:=T) r h a.prp;have ht:(r.aps.map Apv.cs).take i=(r.aps.take i).map Apv.cs:=by rw[List.map_take]
 refine ja0 call40 func40 82 ?_;refine runD (ai hc hq) ?_;refine jhi 2 ?_;refine jbx (st':=⟨82,[(1,.v (vi i)),(2,.p 2 0)],[(2,.con r.cs)],[]⟩) ⟨[1,2],[2],[],[]⟩ rfl ?_;refine jat gr134 ?_;refine jea (fun _:Unit=>True) ⟨[1,2,5,6,7],[2,5,6],[],[]⟩ (fun _=>⟨82,[(1,.v (vi i)),(2,.p 2 0),(5,.p 5 0),(6,.p 6 0),(7,.v (vi (jcm r.pps a.prp)))],[(2,.con r.cs),(5,.var a.cs),(6,.var q.cs)],[]⟩) (fun st st' hk h=>jbx _ hk h) ?_ (fun K' hK=> ?_)
 rotate_left
 ·refine jab (ai hc (ai hq (jlb i))) ?_
  try simp only[and_assoc]
  apply viaA
  ·have hX:=fun k kn m h=>call (k:=k) (kn:=kn) (m:=m) hfind h
   repeat' (first | with_reducible apply And.imp | exact hX _ _ _)
  refine jab (ai hc (ai hq (jlb i))) ?_
  try simp only[and_self,and_self_left]
  repeat' (with_reducible refine ai ?_ ?_)
  all_goals exact jdu hK () trivial
 intro _ _;rcases jee (jar a.prp) r.pps with ⟨h1,h2⟩ | ⟨k,p,h1,hk,hx,hpm,h2⟩
 ·have he:jbt r i=7:=by unfold jbt; rw[hc]; simp only; rw[h2]
  rw[he];have h1:jcm r.pps a.prp= -1:=h1;rw[h1];exact za
 have he:jbt r i=fstB (apvRows r (r.aps.take i) (jac r.aps i) a p):=by
  rw[apvRows_ok];unfold jbt;rw[hc];simp only;rw[h2]
 rw[he];have h1:jcm r.pps a.prp=(k:Int):=h1;rw[h1];have hA:=den_anyApv (T:=T) (r.aps.take i) 101 [.row a.cs] (jem a) ze8 fun b _=>den_apv1 b a;have hC:=jrn (T:=T) r h a.clk a.day;have hIn:=jhl (T:=T) a.day p.day 1048575
 have hF:∀b1 b2 b3 b4 b5 b6,Den prog T 91 [.slice 1 [wRow b1 2,wRow b2 5,wRow b3 11,wRow b4 7,wRow b5 22,wRow b6 6]] (vi (fstB [(b1,2),(b2,5),(b3,11),(b4,7),(b5,22),(b6,6)])):=fun b1 b2 b3 b4 b5 b6=>
  jkk _ _ (.cons (jco _ _) (.cons (jco _ _) (.cons (jco _ _) (.cons (jco _ _) (.cons (jco _ _) (.cons (jco _ _) .nil)))))) (by show (6:Nat)<=1048576; decide)
 unfold apvRows
 have hp:(¬ 0<(i:Int)/\jhg (jac r.aps i) a=false)\/(0<(i:Int)/\jhg (jac r.aps i) a=decide (a.day<q.day)):=by
  by_cases h0:i=0
  ·left; subst h0; exact ⟨dc,rfl⟩
  ·right;refine ⟨om,?_⟩;unfold jac;rw[if_neg h0,hq];rfl
 refine runD hx ?_;refine aw_drw (h':=[(8,.var p.cs),(2,.con r.cs),(5,.con a.cs),(6,.var q.cs)]) rfq rfl kr rfq kr ?_;rcases hp with ⟨h0,hpv⟩ | ⟨h0,hpv⟩ <;> rw[hpv] <;>
 ·refine rcW (ai hx ht) hIn ?_;refine rcW ht (jbk _ 2) ?_;refine rcW ht (jbk _ 5) ?_;refine rcW ht (jbk _ 11) ?_;refine rcW ht hC ?_;refine rcW ht (jbk _ 7) ?_;refine rcW ht (jbk _ 22) ?_;refine rcW ht hA ?_;refine rcW ht (jbk _ 6) ?_;refine rcW ht (hF _ _ _ _ _ _) ?_;exact za
theorem den_cert1 (L:LibT T) (r:Rgs) (h:r.Fit) (i:Nat) (hi:i<r.crs.length):Den prog T 103 [.row r.cs,.row [vi i]] (rowV (!jc0 r.crs i,14)):=by
 refine ja0 call103 func103 9 ?_;refine rc (den_linked L r.crs i h.crs hi) ?_;exact zt
set_option maxHeartbeats 4000000 in
theorem js9 (L:LibT T) (r:Rgs) (h:r.Fit) (i:Nat) (hi:i<r.crs.length):Den prog T 41 [.agg r.cs,vi i] (vi (jbh r i)):=by
 have hl:=h.crs.1;have hpl:=h.pps.1;obtain ⟨c,hc,-,hm⟩:=ja1 hi;have hfc:=(h.crs.2 c hm).1;refine ja0 call41 func41 32 ?_;refine rcW hc (jl3 r h c.prp) ?_;rcases jee (jar c.prp) r.pps with ⟨h1,h2⟩ | ⟨k,p,h1,hk,hx,hpm,h2⟩
 ·have he:jbh r i=7:=by unfold jbh; rw[hc]; simp only; rw[h2]
  rw[he];have h1:jcm r.pps c.prp= -1:=h1;rw[h1];exact za
 have he:jbh r i=fstB [(!decide (c.fls=p.fls),10),(!jc0 r.crs i,14)]:=by
  unfold jbh;rw[hc];simp only;rw[h2];simp only[fstB];by_cases h1:c.fls=p.fls
  ·simp[h1]
  ·simp[h1]
 rw[he];have h1:jcm r.pps c.prp=(k:Int):=h1;rw[h1]
 have hF:∀b,Den prog T 91 [.slice 1 [wRow b 10,[.func 103 [.row r.cs,.row [vi i]]]]] (vi (fstB [(b,10),(!jc0 r.crs i,14)])):=fun b=>
  jkk _ _ (.cons (jco _ _) (.cons (den_cert1 L r h i hi) .nil)) (by show (2:Nat)<=1048576; decide)
 refine rcW hx (den_eqInts c.fls p.fls hfc) ?_;refine rc (jbk _ 10) ?_;refine rc (hF _) ?_;exact za
theorem jmv (r:Rgs) (n:Nat) (f:FuncId) (cap:List V) (g:Nat->Int) (hn:n<=1048576) (hg:∀i,i<n->Den prog T f (.agg r.cs::vi i::cap) (vi (g i))):Den prog T 42 [.agg r.cs,vi n,.func f cap] (vi (chk n n g).2):=by
 refine ja0 call42 func42 21 ?_;refine run ?_;refine ja7 ⟨[10,2,3,9],[3],[],[]⟩ n (fun k=>∀i,i<k->g i=0) (fun i hi=>absurd hi (Nat.not_lt_zero i)) ?_;rintro k ⟨hk,hall⟩;by_cases hlt:k<n
 ·refine rc (hg k hlt) ?_;by_cases hz:g k=0
  ·refine runW hz ?_;refine round (k+1) ⟨om,fun i hi=> ?_⟩ om;by_cases e:i=k
   ·exact zcr
   ·exact zb2
  ·refine runW (eq_false hz) ?_;refine fin (ja5 ?_);rw[jeb (Nat.lt_irrefl n) hlt hall hz]
 ·refine run ?_;refine fin (ja5 ?_);rw[jds (Nat.lt_irrefl n) fun i hi=>hall i om]
theorem jk3 {lim n:Nat} {f:Nat->Int} (h:¬lim<n):(chk lim n f).2=(chk n n f).2:=by unfold chk; rw[if_neg h,if_neg (Nat.lt_irrefl n)]
theorem fstE_drop {l:List Int} {k:Nat} {x:Int} (h:l[k]? = some x):fstE (l.drop k)=if x≠0 then x else fstE (l.drop (k+1)):=by
 obtain ⟨hlt,rfl⟩:=gsi.1 h;exact zc0
abbrev lstV (n m:Int) (f:FuncId):List V:=[vi n,vi m,.func f []]
set_option maxHeartbeats 8000000 in
theorem ji8 (L:LibT T) (r:Rgs) (h:r.Fit):Den prog T 12 [.agg r.cs] (vi (jas r)):=by
 have LC:=libC L;have hck:=h.cks.1;have hpp:=h.pps.1;have hap:=h.aps;have hcr:=h.crs.1;refine ja0 call12 func12 54 ?_;refine rc (den_CheckG LC r h) ?_;unfold jas;by_cases hg:checkG r=0
 case neg=>
  have he:fstE (checkG r::chkN r)=checkG r:=by show (if checkG r≠0 then _ else _)=_; rw[if_pos hg]
  rw[he];refine runW (eq_false hg) ?_;exact fin rfl
 have he:fstE (checkG r::chkN r)=fstE (chkN r):=by show (if checkG r≠0 then _ else _)=_; rw[if_neg (fun e=>e hg)]
 rw[he];refine runW hg ?_;obtain ⟨LL,hLL⟩:∃l:List (List V),[lstV r.cks.length 32 38,lstV r.pps.length 1024 39,lstV r.aps.length 1024 40,lstV r.crs.length r.crs.length 41]=l:=⟨_,rfl⟩;have l0:LL[0]? = some (lstV r.cks.length 32 38):=by rw[<- hLL]; rfl
 have l1:LL[1]? = some (lstV r.pps.length 1024 39):=by rw[<- hLL]; rfl
 have l2:LL[2]? = some (lstV r.aps.length 1024 40):=by rw[<- hLL]; rfl
 have l3:LL[3]? = some (lstV r.crs.length r.crs.length 41):=by rw[<- hLL]; rfl
 have e0:=jmv (T:=T) r r.cks.length 38 [] (jbs r.cks) hck fun i hi=>den_clerkD LC r h i hi;have e1:=jmv (T:=T) r r.pps.length 39 [] (jc9 r) hpp fun i hi=>den_proposalD r h i hi;have e2:=jmv (T:=T) r r.aps.length 40 [] (jbt r) hap fun i hi=>den_approvalD r h i hi;have e3:=jmv (T:=T) r r.crs.length 41 [] (jbh r) hcr fun i hi=>js9 L r h i hi
 refine loop ⟨[1,33,34,35],[1],[],[]⟩ (fun k:Nat=>k<=4/\fstE (chkN r)=fstE ((chkN r).drop k)) (fun k=>4-k)
  (fun k=>⟨54,[(1,.p 1 0),(33,.v (.slice 3 LL)),(34,.v (vi 4)),(35,.v (vi k))],[(1,.var r.cs)],[]⟩) 0 ⟨Nat.zero_le _,rfl⟩ ?_ ?_
 ·rintro k ⟨hk,hall⟩
  have next:∀ {x:Int},(chkN r)[k]? = some x->x=0->fstE (chkN r)=fstE ((chkN r).drop (k+1)):=fun {x} hx hz=>by
   rw[hall,fstE_drop hx,if_neg (fun e=>e hz)]
  have out:∀ {x y:Int},(chkN r)[k]? = some x->x=y->y≠0->(vi y:V)=vi (fstE (chkN r)):=fun {x y} hx hxy hz=>by
   subst hxy;rw[hall,fstE_drop hx,if_pos hz]
  have hcs:k=0\/k=1\/k=2\/k=3\/k=4:=om
  rcases hcs with rfl | rfl | rfl | rfl | rfl
  ·by_cases hm:32<r.cks.length
   ·refine runW l0 ?_;exact fin (out (x:=(chk 32 r.cks.length (jbs r.cks)).2) rfl (by rw[jdz hm]) dc)
   ·refine rcW l0 e0 ?_;by_cases hz:(chk r.cks.length r.cks.length (jbs r.cks)).2=0
    ·refine runW hz ?_;exact round 1 ⟨om,next (x:=(chk 32 r.cks.length (jbs r.cks)).2) rfl (by rw[jk3 hm]; exact hz)⟩ om
    ·refine runW (eq_false hz) ?_;exact fin (out (x:=(chk 32 r.cks.length (jbs r.cks)).2) rfl (jk3 hm) hz)
  ·by_cases hm:1024<r.pps.length
   ·refine runW l1 ?_;exact fin (out (x:=(chk 1024 r.pps.length (jc9 r)).2) rfl (by rw[jdz hm]) dc)
   ·refine rcW l1 e1 ?_;by_cases hz:(chk r.pps.length r.pps.length (jc9 r)).2=0
    ·refine runW hz ?_;exact round 2 ⟨om,next (x:=(chk 1024 r.pps.length (jc9 r)).2) rfl (by rw[jk3 hm]; exact hz)⟩ om
    ·refine runW (eq_false hz) ?_;exact fin (out (x:=(chk 1024 r.pps.length (jc9 r)).2) rfl (jk3 hm) hz)
  ·by_cases hm:1024<r.aps.length
   ·refine runW l2 ?_;exact fin (out (x:=(chk 1024 r.aps.length (jbt r)).2) rfl (by rw[jdz hm]) dc)
   ·refine rcW l2 e2 ?_;by_cases hz:(chk r.aps.length r.aps.length (jbt r)).2=0
    ·refine runW hz ?_;exact round 3 ⟨om,next (x:=(chk 1024 r.aps.length (jbt r)).2) rfl (by rw[jk3 hm]; exact hz)⟩ om
    ·refine runW (eq_false hz) ?_;exact fin (out (x:=(chk 1024 r.aps.length (jbt r)).2) rfl (jk3 hm) hz)
  ·refine rcW l3 e3 ?_;by_cases hz:(chk r.crs.length r.crs.length (jbh r)).2=0
   ·refine runW hz ?_;exact round 4 ⟨om,next (x:=(chk r.crs.length r.crs.length (jbh r)).2) rfl hz⟩ om
   ·refine runW (eq_false hz) ?_;exact fin (out (x:=(chk r.crs.length r.crs.length (jbh r)).2) rfl rfl hz)
  ·refine run ?_;refine fin (ja5 ?_);rw[hall];rfl
 ·rw[<- hLL];rfl
def PostC (res:Rgs) (ks:List (Nat×Blk)) (b:Blk) (v:V):Prop:=ks=[(999000,.var res.cs)]/\(∃cs,b= .con cs)/\v= .tup []
theorem jl9 {res:Rgs} {ks:List (Nat×Blk)} {b:Blk} {v:V} (h:PostC res ks b v):okZ ks=true/\Ab.look 999050 ks=none:=by
 obtain ⟨rfl,-,-⟩:=h;exact ⟨rfl,rfl⟩
theorem finVc {P:Program} {res:Rgs} {st:St} {i:Nat} {cs:List V} (h1:Ab.look 999000 st.h=some (.var res.cs)) (h2:Ab.look i st.h=some (.con cs)) (hi:i ∉ [999000]:=by decide):fpostV P [] (PostC res) .nm st:=by
 refine ⟨[(999000,.var res.cs)],.con cs,.tup [],⟨rfl,⟨cs,rfl⟩,rfl⟩,?_,⟨i,.con cs,h2,?_,hi⟩,.tup [],rfl,.refl _⟩
 ·intro x hx;rw[List.mem_singleton.1 hx];exact ⟨_,h1,WkB.self _ _ _⟩
 ·exact zd8
theorem jbb {α:Type} {f:α->List V} {l:List α} {P:Program} {w0 w:World} {M:Nat->Prop} {F0 F:Frz} {ρ:Nat->Nat} {a:Act} {n:Nat} {t:List (Nat×TV)} {hr:List (Nat×Blk)} {id q z:Nat} {cs:List V} {e:TypeId} {s:Option (Nat×Nat)} (j:Nat)
  (S:SimS P T M F0 w0 F ρ ⟨n,t,(id,.var cs)::(rowB q (l.map f).flatten e z s++hr),[]⟩ a w) (hs:okB l.length s) (hj:cs[j]? = some (sOpt l.length s):=by rfl) (hz:∀x,(f x).length=z:=by intro _; rfl) (hids:∃ids,Ids hr ids/\ids.contains q=false/\ids.contains id=false:=by exact ⟨_,by repeat (first | exact jax _ | apply jcg),rfl,rfl⟩)
  (hne:id≠q:=by decide) (hw:okW [(id,.var [])] t=true:=by rfl):∃F',SimS P T M F0 w0 F' ρ ⟨n,t,(id,.var (jbi cs j [.slice z (l.map f)]))::hr,[]⟩ a w:=by
 obtain ⟨ids,h1,h2,h3⟩:=hids;have:=sOpt_frz (j:=j) S hs hj (by rw[jc4 hz]; exact Nat.le_refl _) h1 h2 h3 hne hw
 rwa [jji hz] at this
theorem rotH {P:Program} {w0 w:World} {M:Nat->Prop} {F0 F:Frz} {ρ:Nat->Nat} {a:Act} {n:Nat} {t:List (Nat×TV)} {h1 X R:List (Nat×Blk)} {l m:List Nat} (S:SimS P T M F0 w0 F ρ ⟨n,t,h1++(X++R),[]⟩ a w) (hx:Ids X l:=by exact jax _) (hr:Ids R m:=by repeat (first | exact jax _ | apply jcg)) (hd:(l.all fun i=> !m.contains i)=true:=by rfl) (hw:okW h1 t=true:=by rfl):
  SimS P T M F0 w0 F ρ ⟨n,t,h1++(R++X),[]⟩ a w:=sim_rot S hx hr hd hw
def cs_q (r:Rgs) (s:Option (Nat×Nat)):List V:=[ofcs r.ofs,jad r.pls,fils r.fls,ruls r.rls,hlds r.hls,clks r.cks,sels r.sls,sOpt r.pps.length s,apvs r.aps,crts r.crs,deps r.dps,vi r.chg]
def row_q (r:Rgs) (s:Option (Nat×Nat)):Option Blk:=s.map fun x=> .var (r.pps.map Prp.cs).flatten (some x.1) (some (49,5,x.2))
set_option maxHeartbeats 16000000 in
theorem jr1 (r:Rgs) (h:r.Fit):DenU prog T 118 [.agg r.cs] (fun ro v=>∃s,okB r.pps.length s/\ro=row_q r s/\v= .agg (cs_q r s)):=by
 refine jo5 r h _ ?_;rintro y ⟨hO,hP,hF,hU,hD,hC,hS,hQ,hA,hK,hM⟩ M F0 w0 F ρ a w S;obtain ⟨F,S⟩:=jbb (f:=Apv.cs) 8 S hA;obtain ⟨F,S⟩:=jbb (f:=Dep.cs) 10 S hM;obtain ⟨F,S⟩:=jbb (f:=Rul.cs) 3 S hU;obtain ⟨F,S⟩:=jbb (f:=Hld.cs) 4 S hD;obtain ⟨F,S⟩:=jbb (f:=Clk.cs) 5 S hC;obtain ⟨F,S⟩:=jbb (f:=Ofc.cs) 0 S hO;obtain ⟨F,S⟩:=jbb (f:=Plan.cs) 1 S hP;obtain ⟨F,S⟩:=jbb (f:=Fil.cs) 2 S hF;obtain ⟨F,S⟩:=jbb (f:=Sel.cs) 6 S hS;have S:=rotH (h1:=[(2,_)]) S;simp only[List.cons_append,List.nil_append] at S;obtain ⟨F,S⟩:=jbb (f:=Crt.cs) 9 S hK;refine ⟨F,ρ,_,S,fun i=>(cs_q r y.sQ).getD i (vi 0),rfl,?_⟩;cases hs:y.sQ with
 | none=>rw[hs] at hQ; exact .inl ⟨none,hQ,rfl,rfl⟩
 | some z=>rw[hs] at hQ; exact .inr ⟨107,_,z.1,rfq,rfl,some z,hQ,rfl,rfl⟩
def cs_a (r:Rgs) (s:Option (Nat×Nat)):List V:=[ofcs r.ofs,jad r.pls,fils r.fls,ruls r.rls,hlds r.hls,clks r.cks,sels r.sls,prps r.pps,sOpt r.aps.length s,crts r.crs,deps r.dps,vi r.chg]
def row_a (r:Rgs) (s:Option (Nat×Nat)):Option Blk:=s.map fun x=> .var (r.aps.map Apv.cs).flatten (some x.1) (some (51,3,x.2))
set_option maxHeartbeats 16000000 in
theorem denU_clone_a (r:Rgs) (h:r.Fit):DenU prog T 118 [.agg r.cs] (fun ro v=>∃s,okB r.aps.length s/\ro=row_a r s/\v= .agg (cs_a r s)):=by
 refine jo5 r h _ ?_;rintro y ⟨hO,hP,hF,hU,hD,hC,hS,hQ,hA,hK,hM⟩ M F0 w0 F ρ a w S;have S:=rotH (h1:=[(2,_)]) S;simp only[List.append_assoc,List.cons_append,List.nil_append] at S;obtain ⟨F,S⟩:=jbb (f:=Dep.cs) 10 S hM;obtain ⟨F,S⟩:=jbb (f:=Rul.cs) 3 S hU;obtain ⟨F,S⟩:=jbb (f:=Hld.cs) 4 S hD;obtain ⟨F,S⟩:=jbb (f:=Clk.cs) 5 S hC;obtain ⟨F,S⟩:=jbb (f:=Ofc.cs) 0 S hO;obtain ⟨F,S⟩:=jbb (f:=Plan.cs) 1 S hP;obtain ⟨F,S⟩:=jbb (f:=Fil.cs) 2 S hF;obtain ⟨F,S⟩:=jbb (f:=Sel.cs) 6 S hS;obtain ⟨F,S⟩:=jbb (f:=Prp.cs) 7 S hQ;obtain ⟨F,S⟩:=jbb (f:=Crt.cs) 9 S hK;refine ⟨F,ρ,_,S,fun i=>(cs_a r y.sA).getD i (vi 0),rfl,?_⟩;cases hs:y.sA with
 | none=>rw[hs] at hA; exact .inl ⟨none,hA,rfl,rfl⟩
 | some z=>rw[hs] at hA; exact .inr ⟨173,_,z.1,rfq,rfl,some z,hA,rfl,rfl⟩
def cs_k (r:Rgs) (s:Option (Nat×Nat)):List V:=[ofcs r.ofs,jad r.pls,fils r.fls,ruls r.rls,hlds r.hls,clks r.cks,sels r.sls,prps r.pps,apvs r.aps,sOpt r.crs.length s,deps r.dps,vi r.chg]
def row_k (r:Rgs) (s:Option (Nat×Nat)):Option Blk:=s.map fun x=> .var (r.crs.map Crt.cs).flatten (some x.1) (some (37,6,x.2))
set_option maxHeartbeats 16000000 in
theorem denU_clone_k (r:Rgs) (h:r.Fit):DenU prog T 118 [.agg r.cs] (fun ro v=>∃s,okB r.crs.length s/\ro=row_k r s/\v= .agg (cs_k r s)):=by
 refine jo5 r h _ ?_;rintro y ⟨hO,hP,hF,hU,hD,hC,hS,hQ,hA,hK,hM⟩ M F0 w0 F ρ a w S;obtain ⟨F,S⟩:=jbb (f:=Apv.cs) 8 S hA;obtain ⟨F,S⟩:=jbb (f:=Dep.cs) 10 S hM;obtain ⟨F,S⟩:=jbb (f:=Rul.cs) 3 S hU;obtain ⟨F,S⟩:=jbb (f:=Hld.cs) 4 S hD;obtain ⟨F,S⟩:=jbb (f:=Clk.cs) 5 S hC;obtain ⟨F,S⟩:=jbb (f:=Ofc.cs) 0 S hO;obtain ⟨F,S⟩:=jbb (f:=Plan.cs) 1 S hP;obtain ⟨F,S⟩:=jbb (f:=Fil.cs) 2 S hF;obtain ⟨F,S⟩:=jbb (f:=Sel.cs) 6 S hS;obtain ⟨F,S⟩:=jbb (f:=Prp.cs) 7 S hQ;refine ⟨F,ρ,_,S,fun i=>(cs_k r y.sK).getD i (vi 0),rfl,?_⟩;cases hs:y.sK with
 | none=>rw[hs] at hK; exact .inl ⟨none,hK,rfl,rfl⟩
 | some z=>rw[hs] at hK; exact .inr ⟨110,_,z.1,rfq,rfl,some z,hK,rfl,rfl⟩
abbrev gr140q:List Gent:=⟨bz 11 0,11,.one 0 0⟩::⟨bz 11 1,10,.one 1 0⟩::⟨bz 11 3,9,.ld 5 0⟩::⟨bz 11 35,8,.alt [(2,1),(6,0)]⟩::⟨bz 11 99,7,.alt [(2,1)]⟩::⟨bz 11 39,7,.one 3 1⟩::⟨bz 11 103,6,.one 3 2⟩::⟨bz 11 47,6,.alt [(4,0),(6,1)]⟩::⟨bz 11 63,5,.alt [(6,1)]⟩::⟨bz 11 111,5,.alt [(4,0)]⟩::⟨bz 11 127,4,.alt [(7,0)]⟩::⟨bz 11 255,3,.alt [(8,0)]⟩::⟨bz 11 511,2,.one 9 0⟩::⟨bz 11 1023,1,.alt [(10,0)]⟩::⟨bz 11 2047,0,.fin⟩::[]
set_option maxHeartbeats 8000000 in
theorem denV_q (r:Rgs) (p:Prp) (s:Option (Nat×Nat)) (hs:okB r.pps.length s) (hb:r.pps.length<=1048576):DenV prog T 50 [(999000,.var (cs_q r s))] 999050 (row_q r s) [.p 999000 0,.v (.row (Prp.cs p))] (PostC (morP r p)):=by
 have post:∀(r:Rgs) (p:Prp),∀(M:Nat->Prop) (F0:Frz) (w0:World) (F:Frz) (ρ:Nat->Nat) (st:St) (a:Act) (w:World) (e:AX),SimS prog T M F0 w0 F ρ st a w->endX prog T .nm (fun x:Nat×Nat=>r.pps.length+1<=x.2/\x.2<=maxLen) (fun x:Nat×Nat=>⟨13,[],[(10,Blk.var ((r.pps++[p]).map Prp.cs).flatten (some x.1) (some (49,5,x.2))),(999000,Blk.var [ofcs r.ofs,jad r.pls,fils r.fls,ruls r.rls,hlds r.hls,clks r.cks,sels r.sls,.val (.slice (some ⟨x.1,0,none⟩) (r.pps.length+1) x.2),apvs r.aps,crts r.crs,deps r.dps,vi r.chg])],[]⟩) e st->∃F' ρ' st',SimS prog T M F0 w0 F' ρ' st' a w/\fpostV prog [] (PostC (morP r p)) e st':=by
  rintro r p M F0 w0 F ρ st a w e X ⟨rfl,x,⟨hx1,hx2⟩,hs⟩;obtain ⟨F',X⟩:=jjv (k:=10) (id:=999000) (j:=7) (n:=r.pps.length+1) (size:=5) (hs _ _ _ _ _ _ _ X) rfl rfl dc rfl hx1 hx2 (by rw[jc4 (cs:=Prp.cs) (z:=5) (fun _=>rfl),List.length_append]; exact Nat.le_refl _);have hch:=jji (cs:=Prp.cs) (z:=5) (fun _=>rfl) (r.pps++[p]);rw[List.length_append] at hch;simp only[fcSt] at X;rw[show jbc 0 (r.pps.length+1) 5 ((r.pps++[p]).map Prp.cs).flatten=(r.pps++[p]).map Prp.cs from hch] at X;exact ⟨F',ρ,_,X,finVc (i:=10) rfl rfl⟩
 rcases s with _ | ⟨b,c⟩
 ·have hz:r.pps=[]:=List.eq_nil_of_length_eq_zero hs;have hz1:r.pps.length+1=1:=by rw[hz]; rfl
  refine ji7 follows (fun args w=>call50 args w) func50 rfl 13 rfl rfl ?_ (fun _ _ _ h=>jl9 h);have hrow0:([]:List V)++[Prp.cs p].flatten=((r.pps++[p]).map Prp.cs).flatten:=by rw[hz]; rfl
  ·show aw _ _ _ (St.mk 13 [(0,.p 999000 0),(1,.v (.row (Prp.cs p)))] [(999000,.var [ofcs r.ofs,jad r.pls,fils r.fls,ruls r.rls,hlds r.hls,clks r.cks,sels r.sls,.val (.slice none 0 0),apvs r.aps,crts r.crs,deps r.dps,vi r.chg])] []) _
   refine jfg (ji0 .nm (fun x:Nat×Nat=>r.pps.length+1<=x.2/\x.2<=maxLen) (fun x:Nat×Nat=>⟨13,[],[(10,Blk.var ((r.pps++[p]).map Prp.cs).flatten (some x.1) (some (49,5,x.2))),(999000,Blk.var [ofcs r.ofs,jad r.pls,fils r.fls,ruls r.rls,hlds r.hls,clks r.cks,sels r.sls,.val (.slice (some ⟨x.1,0,none⟩) (r.pps.length+1) x.2),apvs r.aps,crts r.crs,deps r.dps,vi r.chg])],[]⟩) ?_) (post r p);intro E hE;refine runD ja2 ?_;refine jat gr140q ?_;refine jb8 ja2 ?_
   try simp only[and_self,and_self_left,and_self_right,jag,jai]
   refine jd4 ?_;unfold appR;refine jb8 ja2 ?_;intro r' cap' hnm h1 h2;rw[hrow0];refine jb8 ja2 ?_;refine ⟨rfl,?_⟩;exact zq
 ·obtain ⟨hc1,hc2⟩:r.pps.length<=c/\c<=maxLen:=hs;have hw:=jc4 (cs:=Prp.cs) (z:=5) (fun _=>rfl) r.pps;have hrow:(r.pps.map Prp.cs).flatten++[Prp.cs p].flatten=((r.pps++[p]).map Prp.cs).flatten:=by rw[List.map_append,List.flatten_append]; rfl
  refine ji7 follows (fun args w=>call50 args w) func50 rfl 13 rfl rfl ?_ (fun _ _ _ h=>jl9 h)
  ·show aw _ _ _ (St.mk 13 [(0,.p 999000 0),(1,.v (.row (Prp.cs p)))] [(999000,.var [ofcs r.ofs,jad r.pls,fils r.fls,ruls r.rls,hlds r.hls,clks r.cks,sels r.sls,.val (.slice (some ⟨b,0,none⟩) r.pps.length c),apvs r.aps,crts r.crs,deps r.dps,vi r.chg]),(999050,.var (r.pps.map Prp.cs).flatten (some b) (some (49,5,c)))] []) _
   refine jfg (ji0 .nm (fun x:Nat×Nat=>r.pps.length+1<=x.2/\x.2<=maxLen) (fun x:Nat×Nat=>⟨13,[],[(10,Blk.var ((r.pps++[p]).map Prp.cs).flatten (some x.1) (some (49,5,x.2))),(999000,Blk.var [ofcs r.ofs,jad r.pls,fils r.fls,ruls r.rls,hlds r.hls,clks r.cks,sels r.sls,.val (.slice (some ⟨x.1,0,none⟩) (r.pps.length+1) x.2),apvs r.aps,crts r.crs,deps r.dps,vi r.chg])],[]⟩) ?_) (post r p);intro E hE;refine runD (ai hw ja2) ?_;refine jat gr140q ?_;refine jb8 (ai hw ja2) ?_
   try simp only[and_self,and_self_left,and_self_right,jag,jai]
   refine jd4 ?_;unfold appR;refine jb8 (ai hw ja2) ?_;refine ⟨hc1,⟨Nat.le_trans hb dc,by have:r.pps.length<=1048576:=hb; omega⟩,.inr trivial,?_⟩;intro r' cap' hnm h1 h2;rw[hrow];refine jb8 (ai hw ja2) ?_;refine ⟨rfl,?_⟩;exact zbp
abbrev gr140a:List Gent:=⟨bz 11 0,11,.one 0 0⟩::⟨bz 11 1,10,.one 1 0⟩::⟨bz 11 3,9,.ld 5 0⟩::⟨bz 11 35,8,.alt [(2,1),(6,0)]⟩::⟨bz 11 99,7,.alt [(2,1)]⟩::⟨bz 11 39,7,.one 3 1⟩::⟨bz 11 103,6,.one 3 2⟩::⟨bz 11 47,6,.alt [(4,0),(6,1)]⟩::⟨bz 11 63,5,.alt [(6,1)]⟩::⟨bz 11 111,5,.alt [(4,0)]⟩::⟨bz 11 127,4,.alt [(7,0)]⟩::⟨bz 11 255,3,.alt [(8,0)]⟩::⟨bz 11 511,2,.one 9 0⟩::⟨bz 11 1023,1,.alt [(10,0)]⟩::⟨bz 11 2047,0,.fin⟩::[]
set_option maxHeartbeats 8000000 in
theorem denV_a (r:Rgs) (v:Apv) (s:Option (Nat×Nat)) (hs:okB r.aps.length s) (hb:r.aps.length<=1048576):DenV prog T 54 [(999000,.var (cs_a r s))] 999050 (row_a r s) [.p 999000 0,.v (.row (Apv.cs v))] (PostC (morA r v)):=by
 have post:∀(r:Rgs) (v:Apv),∀(M:Nat->Prop) (F0:Frz) (w0:World) (F:Frz) (ρ:Nat->Nat) (st:St) (a:Act) (w:World) (e:AX),SimS prog T M F0 w0 F ρ st a w->endX prog T .nm (fun x:Nat×Nat=>r.aps.length+1<=x.2/\x.2<=maxLen) (fun x:Nat×Nat=>⟨13,[],[(10,Blk.var ((r.aps++[v]).map Apv.cs).flatten (some x.1) (some (51,3,x.2))),(999000,Blk.var [ofcs r.ofs,jad r.pls,fils r.fls,ruls r.rls,hlds r.hls,clks r.cks,sels r.sls,prps r.pps,.val (.slice (some ⟨x.1,0,none⟩) (r.aps.length+1) x.2),crts r.crs,deps r.dps,vi r.chg])],[]⟩) e st->∃F' ρ' st',SimS prog T M F0 w0 F' ρ' st' a w/\fpostV prog [] (PostC (morA r v)) e st':=by
  rintro r v M F0 w0 F ρ st a w e X ⟨rfl,x,⟨hx1,hx2⟩,hs⟩;obtain ⟨F',X⟩:=jjv (k:=10) (id:=999000) (j:=8) (n:=r.aps.length+1) (size:=3) (hs _ _ _ _ _ _ _ X) rfl rfl dc rfl hx1 hx2 (by rw[jc4 (cs:=Apv.cs) (z:=3) (fun _=>rfl),List.length_append]; exact Nat.le_refl _);have hch:=jji (cs:=Apv.cs) (z:=3) (fun _=>rfl) (r.aps++[v]);rw[List.length_append] at hch;simp only[fcSt] at X;rw[show jbc 0 (r.aps.length+1) 3 ((r.aps++[v]).map Apv.cs).flatten=(r.aps++[v]).map Apv.cs from hch] at X;exact ⟨F',ρ,_,X,finVc (i:=10) rfl rfl⟩
 rcases s with _ | ⟨b,c⟩
 ·have hz:r.aps=[]:=List.eq_nil_of_length_eq_zero hs;have hz1:r.aps.length+1=1:=by rw[hz]; rfl
  refine ji7 follows (fun args w=>call54 args w) func54 rfl 13 rfl rfl ?_ (fun _ _ _ h=>jl9 h);have hrow0:([]:List V)++[Apv.cs v].flatten=((r.aps++[v]).map Apv.cs).flatten:=by rw[hz]; rfl
  ·show aw _ _ _ (St.mk 13 [(0,.p 999000 0),(1,.v (.row (Apv.cs v)))] [(999000,.var [ofcs r.ofs,jad r.pls,fils r.fls,ruls r.rls,hlds r.hls,clks r.cks,sels r.sls,prps r.pps,.val (.slice none 0 0),crts r.crs,deps r.dps,vi r.chg])] []) _
   refine jfg (ji0 .nm (fun x:Nat×Nat=>r.aps.length+1<=x.2/\x.2<=maxLen) (fun x:Nat×Nat=>⟨13,[],[(10,Blk.var ((r.aps++[v]).map Apv.cs).flatten (some x.1) (some (51,3,x.2))),(999000,Blk.var [ofcs r.ofs,jad r.pls,fils r.fls,ruls r.rls,hlds r.hls,clks r.cks,sels r.sls,prps r.pps,.val (.slice (some ⟨x.1,0,none⟩) (r.aps.length+1) x.2),crts r.crs,deps r.dps,vi r.chg])],[]⟩) ?_) (post r v);intro E hE;refine runD ja2 ?_;refine jat gr140a ?_;refine jb8 ja2 ?_
   try simp only[and_self,and_self_left,and_self_right,jag,jai]
   refine jd4 ?_;unfold appR;refine jb8 ja2 ?_;intro r' cap' hnm h1 h2;rw[hrow0];refine jb8 ja2 ?_;refine ⟨rfl,?_⟩;exact zq
 ·obtain ⟨hc1,hc2⟩:r.aps.length<=c/\c<=maxLen:=hs;have hw:=jc4 (cs:=Apv.cs) (z:=3) (fun _=>rfl) r.aps;have hrow:(r.aps.map Apv.cs).flatten++[Apv.cs v].flatten=((r.aps++[v]).map Apv.cs).flatten:=by rw[List.map_append,List.flatten_append]; rfl
  refine ji7 follows (fun args w=>call54 args w) func54 rfl 13 rfl rfl ?_ (fun _ _ _ h=>jl9 h)
  ·show aw _ _ _ (St.mk 13 [(0,.p 999000 0),(1,.v (.row (Apv.cs v)))] [(999000,.var [ofcs r.ofs,jad r.pls,fils r.fls,ruls r.rls,hlds r.hls,clks r.cks,sels r.sls,prps r.pps,.val (.slice (some ⟨b,0,none⟩) r.aps.length c),crts r.crs,deps r.dps,vi r.chg]),(999050,.var (r.aps.map Apv.cs).flatten (some b) (some (51,3,c)))] []) _
   refine jfg (ji0 .nm (fun x:Nat×Nat=>r.aps.length+1<=x.2/\x.2<=maxLen) (fun x:Nat×Nat=>⟨13,[],[(10,Blk.var ((r.aps++[v]).map Apv.cs).flatten (some x.1) (some (51,3,x.2))),(999000,Blk.var [ofcs r.ofs,jad r.pls,fils r.fls,ruls r.rls,hlds r.hls,clks r.cks,sels r.sls,prps r.pps,.val (.slice (some ⟨x.1,0,none⟩) (r.aps.length+1) x.2),crts r.crs,deps r.dps,vi r.chg])],[]⟩) ?_) (post r v);intro E hE;refine runD (ai hw ja2) ?_;refine jat gr140a ?_;refine jb8 (ai hw ja2) ?_
   try simp only[and_self,and_self_left,and_self_right,jag,jai]
   refine jd4 ?_;unfold appR;refine jb8 (ai hw ja2) ?_;refine ⟨hc1,⟨Nat.le_trans hb dc,by have:r.aps.length<=1048576:=hb; omega⟩,.inr trivial,?_⟩;intro r' cap' hnm h1 h2;rw[hrow];refine jb8 (ai hw ja2) ?_;refine ⟨rfl,?_⟩;exact zbp
abbrev jg7:List V:=[.val (.slice none 0 0),.val (.slice none 0 0),.val (.slice none 0 0),.val (.slice none 0 0),.val (.slice none 0 0),.val (.slice none 0 0),.val (.slice none 0 0),.val (.slice none 0 0),.val (.slice none 0 0),.val (.slice none 0 0),.val (.slice none 0 0),vi 0]
theorem wk_zeroC:Wk (.agg jg7) (.agg jbn.cs):= .agg rfl (fun c hc=>by
  have:∀c∈jbn.cs,c.one=true:=by
   intro c hc;simp only[Rgs.cs,List.mem_cons,List.not_mem_nil,or_false] at hc;rcases hc with rfl | rfl | rfl | rfl | rfl | rfl | rfl | rfl | rfl | rfl | rfl | rfl <;> rfl
  exact this c hc) fun j v u e1 e2=>by
 match j with
 | 0=>cases e1; cases e2; exact .nil _
 | 1=>cases e1; cases e2; exact .nil _
 | 2=>cases e1; cases e2; exact .nil _
 | 3=>cases e1; cases e2; exact .nil _
 | 4=>cases e1; cases e2; exact .nil _
 | 5=>cases e1; cases e2; exact .nil _
 | 6=>cases e1; cases e2; exact .nil _
 | 7=>cases e1; cases e2; exact .nil _
 | 8=>cases e1; cases e2; exact .nil _
 | 9=>cases e1; cases e2; exact .nil _
 | 10=>cases e1; cases e2; exact .nil _
 | 11=>cases e1; cases e2; exact .refl _
 | j+12=>cases e1
theorem jbq (e:Int):Wk (.tup [.agg jg7,vi e]) (.tup [.agg jbn.cs,vi e]):= .t2 wk_zeroC (.refl _)
theorem argsM_v {κ:List (Nat×Nat)} {h:List (Nat×Blk)} : ∀l:List V,ArgsM κ h (l.map .v) (l.map .v)
 | []=> .nil
 | x::r=> .cons (.v x) (argsM_v r)
set_option maxHeartbeats 4000000 in
theorem jnp (L:LibT T) (r res:Rgs) (_h:r.Fit) (hres:res.Fit) (f:FuncId) (cap:List V) (PC:Option Blk->V->Prop) (hC:DenU prog T 118 [.agg r.cs] PC)
  (hV:∀ro v,PC ro v->∃g:Nat->V,v= .agg [g 0,g 1,g 2,g 3,g 4,g 5,g 6,g 7,g 8,g 9,g 10,vi r.chg]/\(∀i,(g i).one=true)/\(∀b,ro=some b->b.isCon=false/\∃p,b.nm=some p)/\
   DenV prog T f [(999000,.var [g 0,g 1,g 2,g 3,g 4,g 5,g 6,g 7,g 8,g 9,g 10,vi r.chg])] 999050 ro (.p 999000 0::cap.map .v) (PostC res)):
  Den prog T 49 [.agg r.cs,.func f cap] (.tup [.agg (chgd res).1.cs,vi (chgd res).2]):=by
 have hck:=ji8 L res hres;refine ja0 call49 func49 19 ?_;refine run ?_;refine jdv (callU 9 hC ?_ ?_)
 ·intro rr hP;obtain ⟨g,rfl,hg,-,hD⟩:=hV none rr hP;refine runW hg ?_;refine callV ⟨[(999000,6)],999050,10,_,_,_,_,hD,.cons (.p rfl) (argsM_v cap),rfl,rfl,?_,(fun _=>rfl),(by show (10:Nat)<19; decide),?_⟩
  ·intro x hx;simp only[rowL,List.append_nil,List.mem_singleton] at hx;subst hx;exact zco
  rintro ks b v ⟨rfl,⟨cs,rfl⟩,rfl⟩;refine ⟨rfl,fun _=> ?_⟩;simp only[jap,setb,lk,jah,jfe,jit,unT_v,unT_p,jis,Nat.reduceEqDiff,↓reduceIte,Blk.wn,Blk.nm,remK,jbz,jip,cond_false];refine rc hck ?_;by_cases hz:jas res=0
  ·refine runW hz ?_;have e:chgd res=(res,0):=by unfold chgd; rw[if_neg (fun h=>h hz)]
   rw[e];exact fin rfl
  ·refine runW (eq_false hz) ?_;have e:chgd res=(jbn,jas res):=by unfold chgd; rw[if_pos hz]
   rw[e];exact zbx
 ·intro b rr hP hnm;obtain ⟨g,rfl,hg,hb,hD⟩:=hV _ rr hP;obtain ⟨hcon,p,hp⟩:=hb b rfl;refine runW hg ?_;refine callV ⟨[(999000,6)],999050,9,_,some b,_,_,hD,.cons (.p rfl) (argsM_v cap),rfl,rfl,?_,(fun h=>nomatch h),(by show (9:Nat)<19; decide),?_⟩
  ·intro x hx;simp only[rowL,List.cons_append,List.nil_append,List.mem_cons,List.not_mem_nil,or_false] at hx;rcases hx with rfl | rfl
   ·exact zco
   ·exact ⟨9,b,rfl,rfl,rfl,.inr rfl,hcon⟩
  rintro ks b2 v ⟨rfl,⟨cs,rfl⟩,rfl⟩;refine ⟨rfl,fun _=> ?_⟩;simp only[jap,setb,lk,jah,jfe,jit,unT_v,unT_p,jis,Nat.reduceEqDiff,↓reduceIte,Blk.wn,Blk.nm,remK,jbz,jip,cond_false];refine rc hck ?_;by_cases hz:jas res=0
  ·refine runW hz ?_;have e:chgd res=(res,0):=by unfold chgd; rw[if_neg (fun h=>h hz)]
   rw[e];exact fin rfl
  ·refine runW (eq_false hz) ?_;have e:chgd res=(jbn,jas res):=by unfold chgd; rw[if_pos hz]
   rw[e];exact zbx
theorem den_changed_q (L:LibT T) (r:Rgs) (h:r.Fit) (p:Prp) (hres:(morP r p).Fit):Den prog T 49 [.agg r.cs,.func 50 [.row (Prp.cs p)]] (.tup [.agg (chgd (morP r p)).1.cs,vi (chgd (morP r p)).2]):=by
 refine jnp L r _ h hres _ _ _ (jr1 r h) ?_;rintro ro v ⟨s,hs,rfl,rfl⟩;refine ⟨fun i=>(cs_q r s).getD i (vi 0),rfl,fun i=> ?_,fun b hb=> ?_,denV_q r p s hs h.pps.1⟩
 ·match i with
  | 0 | 1 | 2 | 3 | 4 | 5 | 6 | 7 | 8 | 9 | 10 | 11=>first | rfl | (cases s <;> rfl)
  | i+12=>rfl
 ·cases s with
  | none=>cases hb
  | some z=>cases hb; exact ⟨rfl,_,rfl⟩
theorem den_changed_a (L:LibT T) (r:Rgs) (h:r.Fit) (v:Apv) (hres:(morA r v).Fit):Den prog T 49 [.agg r.cs,.func 54 [.row (Apv.cs v)]] (.tup [.agg (chgd (morA r v)).1.cs,vi (chgd (morA r v)).2]):=by
 refine jnp L r _ h hres _ _ _ (denU_clone_a r h) ?_;rintro ro v ⟨s,hs,rfl,rfl⟩;refine ⟨fun i=>(cs_a r s).getD i (vi 0),rfl,fun i=> ?_,fun b hb=> ?_,denV_a r v s hs h.aps⟩
 ·match i with
  | 0 | 1 | 2 | 3 | 4 | 5 | 6 | 7 | 8 | 9 | 10 | 11=>first | rfl | (cases s <;> rfl)
  | i+12=>rfl
 ·cases s with
  | none=>cases hb
  | some z=>cases hb; exact ⟨rfl,_,rfl⟩
theorem fit_morP {r:Rgs} (h:r.Fit) {p:Prp} (hp:p.fls.length<=1048576) (hl:r.pps.length<1048576):(morP r p).Fit:=
  { ofs:=h.ofs,pls:=h.pls,fls:=h.fls,rls:=h.rls,hls:=h.hls,cks:=h.cks,sls:=h.sls,aps:=h.aps,crs:=h.crs,dps:=h.dps
    pps:=⟨by show (r.pps++[p]).length<=1048576; rw[List.length_append]; exact hl,fun q hq=>by
      rcases List.mem_append.1 hq with hq | hq
      · exact h.pps.2 q hq
      · rw[List.mem_singleton.1 hq]; exact hp⟩ }
theorem fit_morA {r:Rgs} (h:r.Fit) {a:Apv} (hl:r.aps.length<1048576):(morA r a).Fit:=
  { ofs:=h.ofs,pls:=h.pls,fls:=h.fls,rls:=h.rls,hls:=h.hls,cks:=h.cks,sls:=h.sls,pps:=h.pps,crs:=h.crs,dps:=h.dps
    aps:=by show (r.aps++[a]).length<=1048576; rw[List.length_append]; exact hl }
set_option maxHeartbeats 4000000 in
theorem den_Propose (L:LibT T) (r:Rgs) (h:r.Fit) (p:Prp) (hp:p.fls.length<=1048576) (hl:r.pps.length<1048576):Den prog T 14 [.agg r.cs,.agg p.cs] (.tup [.agg (propR r p).1.cs,vi (propR r p).2]):=by
 have hck:=ji8 L r h;have hch:=den_changed_q L r h p (fit_morP h hp hl);refine ja0 call14 func14 23 ?_;unfold propR;refine rc hck ?_;by_cases hz:jas r=0
 ·rw[if_neg (fun e=>e hz)];refine runW hz ?_;by_cases hw:p.wdr=1048576
  ·rw[if_neg (fun e=>e hw)];refine rcW hw (jjb p.fls hp).den ?_;refine rc hch ?_;exact za
  ·rw[if_pos hw];refine runW (eq_false hw) ?_;exact zbx
 ·rw[if_pos hz];exact zj
set_option maxHeartbeats 4000000 in
theorem den_Approve (L:LibT T) (r:Rgs) (h:r.Fit) (a:Apv) (hl:r.aps.length<1048576):Den prog T 16 [.agg r.cs,.agg a.cs] (.tup [.agg (apprR r a).1.cs,vi (apprR r a).2]):=by
 have hck:=ji8 L r h;have hch:=den_changed_a L r h a (fit_morA h hl);refine ja0 call16 func16 15 ?_;unfold apprR;refine rc hck ?_;by_cases hz:jas r=0
 ·rw[if_neg (fun e=>e hz)];refine rcW hz hch ?_;exact za
 ·rw[if_pos hz];exact zj
def PostC2 (res:Rgs) (u:Crt) (ks:List (Nat×Blk)) (b:Blk) (v:V):Prop:=ks=[(999000,.var res.cs),(999001,.var u.cs)]/\(∃cs,b= .con cs)/\v= .tup []
theorem postC2_ok {res:Rgs} {u:Crt} {ks:List (Nat×Blk)} {b:Blk} {v:V} (h:PostC2 res u ks b v):okZ ks=true/\Ab.look 999050 ks=none:=by
 obtain ⟨rfl,-,-⟩:=h;exact ⟨rfl,rfl⟩
theorem finVc2 {P:Program} {res:Rgs} {u:Crt} {st:St} {i:Nat} {cs:List V} (h1:Ab.look 999000 st.h=some (.var res.cs)) (h0:Ab.look 999001 st.h=some (.var u.cs)) (h2:Ab.look i st.h=some (.con cs)) (hi:i ∉ [999000,999001]:=by decide):fpostV P [] (PostC2 res u) .nm st:=by
 refine ⟨[(999000,.var res.cs),(999001,.var u.cs)],.con cs,.tup [],⟨rfl,⟨cs,rfl⟩,rfl⟩,?_,⟨i,.con cs,h2,?_,hi⟩,.tup [],rfl,.refl _⟩
 ·intro x hx;simp only[List.mem_cons,List.not_mem_nil,or_false] at hx;rcases hx with rfl | rfl
  ·exact ⟨_,h1,WkB.self _ _ _⟩
  ·exact ⟨_,h0,WkB.self _ _ _⟩
 ·exact zd8
abbrev gr143:List Gent:=⟨bz 11 0,11,.one 0 0⟩::⟨bz 11 1,10,.one 1 0⟩::⟨bz 11 3,9,.alt [(2,1),(5,0)]⟩::⟨bz 11 35,8,.alt [(2,1),(6,3)]⟩::⟨bz 11 7,8,.one 3 1⟩::⟨bz 11 39,7,.one 3 4⟩::⟨bz 11 15,7,.alt [(4,1),(5,3)]⟩::⟨bz 11 99,7,.alt [(2,1)]⟩::⟨bz 11 31,6,.alt [(5,2)]⟩::⟨bz 11 103,6,.one 3 2⟩::⟨bz 11 47,6,.alt [(4,0),(6,1)]⟩::⟨bz 11 63,5,.alt [(6,1)]⟩::⟨bz 11 111,5,.alt [(4,0)]⟩::⟨bz 11 127,4,.alt [(7,0)]⟩::⟨bz 11 255,3,.alt [(8,0)]⟩::⟨bz 11 511,2,.one 9 0⟩::⟨bz 11 1023,1,.alt [(10,0)]⟩::⟨bz 11 2047,0,.fin⟩::[]
set_option maxHeartbeats 8000000 in
theorem denV_k2 (r:Rgs) (u:Crt) (s:Option (Nat×Nat)) (hs:okB r.crs.length s) (hb:r.crs.length<=1048576):DenV prog T 73 [(999000,.var (cs_k r s)),(999001,.var u.cs)] 999050 (row_k r s) [.p 999000 0,.p 999001 0] (PostC2 (morC r u) u):=by
 have post:∀(r:Rgs) (u:Crt),∀(M:Nat->Prop) (F0:Frz) (w0:World) (F:Frz) (ρ:Nat->Nat) (st:St) (a:Act) (w:World) (e:AX),SimS prog T M F0 w0 F ρ st a w->endX prog T .nm (fun x:Nat×Nat=>r.crs.length+1<=x.2/\x.2<=maxLen) (fun x:Nat×Nat=>⟨13,[],[(10,Blk.var ((r.crs++[u]).map Crt.cs).flatten (some x.1) (some (37,6,x.2))),(999000,Blk.var [ofcs r.ofs,jad r.pls,fils r.fls,ruls r.rls,hlds r.hls,clks r.cks,sels r.sls,prps r.pps,apvs r.aps,.val (.slice (some ⟨x.1,0,none⟩) (r.crs.length+1) x.2),deps r.dps,vi r.chg]),(999001,Blk.var u.cs)],[]⟩) e st->∃F' ρ' st',SimS prog T M F0 w0 F' ρ' st' a w/\fpostV prog [] (PostC2 (morC r u) u) e st':=by
  rintro r u M F0 w0 F ρ st a w e X ⟨rfl,x,⟨hx1,hx2⟩,hs⟩;obtain ⟨F',X⟩:=jjv (k:=10) (id:=999000) (j:=9) (n:=r.crs.length+1) (size:=6) (hs _ _ _ _ _ _ _ X) rfl rfl dc rfl hx1 hx2 (by rw[jc4 (cs:=Crt.cs) (z:=6) (fun _=>rfl),List.length_append]; exact Nat.le_refl _);have hch:=jji (cs:=Crt.cs) (z:=6) (fun _=>rfl) (r.crs++[u]);rw[List.length_append] at hch;simp only[fcSt] at X;rw[show jbc 0 (r.crs.length+1) 6 ((r.crs++[u]).map Crt.cs).flatten=(r.crs++[u]).map Crt.cs from hch] at X;exact ⟨F',ρ,_,X,finVc2 (i:=10) rfl rfl rfl⟩
 rcases s with _ | ⟨b,c⟩
 ·have hz:r.crs=[]:=List.eq_nil_of_length_eq_zero hs;have hz1:r.crs.length+1=1:=by rw[hz]; rfl
  refine ji7 follows (fun args w=>call73 args w) func73 rfl 13 rfl rfl ?_ (fun _ _ _ h=>postC2_ok h);have hrow0:([]:List V)++[Crt.cs u].flatten=((r.crs++[u]).map Crt.cs).flatten:=by rw[hz]; rfl
  ·show aw _ _ _ (St.mk 13 [(0,.p 999000 0),(1,.p 999001 0)] [(999000,.var [ofcs r.ofs,jad r.pls,fils r.fls,ruls r.rls,hlds r.hls,clks r.cks,sels r.sls,prps r.pps,apvs r.aps,.val (.slice none 0 0),deps r.dps,vi r.chg]),(999001,.var u.cs)] []) _
   refine jfg (ji0 .nm (fun x:Nat×Nat=>r.crs.length+1<=x.2/\x.2<=maxLen) (fun x:Nat×Nat=>⟨13,[],[(10,Blk.var ((r.crs++[u]).map Crt.cs).flatten (some x.1) (some (37,6,x.2))),(999000,Blk.var [ofcs r.ofs,jad r.pls,fils r.fls,ruls r.rls,hlds r.hls,clks r.cks,sels r.sls,prps r.pps,apvs r.aps,.val (.slice (some ⟨x.1,0,none⟩) (r.crs.length+1) x.2),deps r.dps,vi r.chg]),(999001,Blk.var u.cs)],[]⟩) ?_) (post r u);intro E hE;refine runD ja2 ?_;refine jat gr143 ?_;refine jb8 ja2 ?_
   try simp only[and_self,and_self_left,and_self_right,jag,jai]
   refine jd4 ?_;unfold appR;refine jb8 ja2 ?_;intro r' cap' hnm h1 h2;rw[hrow0];refine jb8 ja2 ?_;refine ⟨rfl,?_⟩;exact zq
 ·obtain ⟨hc1,hc2⟩:r.crs.length<=c/\c<=maxLen:=hs;have hw:=jc4 (cs:=Crt.cs) (z:=6) (fun _=>rfl) r.crs;have hrow:(r.crs.map Crt.cs).flatten++[Crt.cs u].flatten=((r.crs++[u]).map Crt.cs).flatten:=by rw[List.map_append,List.flatten_append]; rfl
  refine ji7 follows (fun args w=>call73 args w) func73 rfl 13 rfl rfl ?_ (fun _ _ _ h=>postC2_ok h)
  ·show aw _ _ _ (St.mk 13 [(0,.p 999000 0),(1,.p 999001 0)] [(999000,.var [ofcs r.ofs,jad r.pls,fils r.fls,ruls r.rls,hlds r.hls,clks r.cks,sels r.sls,prps r.pps,apvs r.aps,.val (.slice (some ⟨b,0,none⟩) r.crs.length c),deps r.dps,vi r.chg]),(999001,.var u.cs),(999050,.var (r.crs.map Crt.cs).flatten (some b) (some (37,6,c)))] []) _
   refine jfg (ji0 .nm (fun x:Nat×Nat=>r.crs.length+1<=x.2/\x.2<=maxLen) (fun x:Nat×Nat=>⟨13,[],[(10,Blk.var ((r.crs++[u]).map Crt.cs).flatten (some x.1) (some (37,6,x.2))),(999000,Blk.var [ofcs r.ofs,jad r.pls,fils r.fls,ruls r.rls,hlds r.hls,clks r.cks,sels r.sls,prps r.pps,apvs r.aps,.val (.slice (some ⟨x.1,0,none⟩) (r.crs.length+1) x.2),deps r.dps,vi r.chg]),(999001,Blk.var u.cs)],[]⟩) ?_) (post r u);intro E hE;refine runD (ai hw ja2) ?_;refine jat gr143 ?_;refine jb8 (ai hw ja2) ?_
   try simp only[and_self,and_self_left,and_self_right,jag,jai]
   refine jd4 ?_;unfold appR;refine jb8 (ai hw ja2) ?_;refine ⟨hc1,⟨Nat.le_trans hb dc,by have:r.crs.length<=1048576:=hb; omega⟩,.inr trivial,?_⟩;intro r' cap' hnm h1 h2;rw[hrow];refine jb8 (ai hw ja2) ?_;refine ⟨rfl,?_⟩;exact zbp
set_option maxHeartbeats 4000000 in
theorem denS_changed_k (L:LibT T) (r:Rgs) (h:r.Fit) (u:Crt) (hres:(morC r u).Fit) (p0:Nat):
  DenS prog T 49 [(999000,.var u.cs (some p0))] [] [.v (.agg r.cs),.v (.func 73 [.val (.pointer (some ⟨p0,0,none⟩))])] [(999000,.var u.cs (some p0))] [] (.v (.tup [.agg (chgd (morC r u)).1.cs,vi (chgd (morC r u)).2])):=by
 have hck:=ji8 L (morC r u) hres;have hC:=denU_clone_k (T:=T) r h;refine jes follows (fun args w=>call49 args w) func49 rfl 19 rfl rfl ?_;refine run ?_;refine jdv (callU 9 hC ?_ ?_)
 ·rintro rr ⟨s,hs,hro,rfl⟩;have hs0:s=none:=by cases s with | none=>rfl | some z=>cases hro
  subst hs0;have hD:=denV_k2 (T:=T) r u none hs h.crs.1;unfold cs_k at hD ⊢;refine runW ja2 ?_;refine callV ⟨[(999000,6),(999001,999000)],999050,10,_,_,_,_,hD,.cons (.p rfl) (.cons (.pn rfl rfl) .nil),rfl,rfl,?_,(fun _=>rfl),(by show (10:Nat)<19; decide),?_⟩
  ·intro x hx;simp only[rowL,row_k,Option.map_none,List.append_nil,List.mem_cons,List.not_mem_nil,or_false] at hx;rcases hx with rfl | rfl
   ·exact zco
   ·exact ⟨999000,_,rfl,rfl,rfl,.inl rfl,rfl⟩
  rintro ks b v ⟨rfl,⟨cs,rfl⟩,rfl⟩;refine ⟨rfl,fun _=> ?_⟩;simp only[jap,setb,lk,jah,jfe,jit,unT_v,unT_p,jis,Nat.reduceEqDiff,↓reduceIte,Blk.wn,Blk.nm,remK,jbz,jip,cond_false];refine rc hck ?_;by_cases hz:jas (morC r u)=0
  ·refine runW hz ?_;have e:chgd (morC r u)=(morC r u,0):=by unfold chgd; rw[if_neg (fun h=>h hz)]
   rw[e];exact zb6
  ·refine runW (eq_false hz) ?_;have e:chgd (morC r u)=(jbn,jas (morC r u)):=by unfold chgd; rw[if_pos hz]
   rw[e];exact jgf (.v (jbq _))
 ·rintro b rr ⟨s,hs,hro,rfl⟩ hnm;obtain ⟨z,rfl⟩:∃z,s=some z:=by cases s with | none=>cases hro | some z=>exact ⟨z,rfl⟩
  have hD:=denV_k2 (T:=T) r u (some z) hs h.crs.1;cases hro;unfold cs_k at hD ⊢;refine runW ja2 ?_;refine callV ⟨[(999000,6),(999001,999000)],999050,9,_,some _,_,_,hD,.cons (.p rfl) (.cons (.pn rfl rfl) .nil),rfl,rfl,?_,(fun h=>nomatch h),(by show (9:Nat)<19; decide),?_⟩
  ·intro x hx;simp only[rowL,List.cons_append,List.nil_append,List.mem_cons,List.not_mem_nil,or_false] at hx;rcases hx with rfl | rfl | rfl
   ·exact zco
   ·exact ⟨999000,_,rfl,rfl,rfl,.inl rfl,rfl⟩
   ·exact ⟨9,_,rfl,rfl,rfl,.inr rfl,rfl⟩
  rintro ks b2 v ⟨rfl,⟨cs,rfl⟩,rfl⟩;refine ⟨rfl,fun _=> ?_⟩;simp only[jap,setb,lk,jah,jfe,jit,unT_v,unT_p,jis,Nat.reduceEqDiff,↓reduceIte,Blk.wn,Blk.nm,remK,jbz,jip,cond_false];refine rc hck ?_;by_cases hz:jas (morC r u)=0
  ·refine runW hz ?_;have e:chgd (morC r u)=(morC r u,0):=by unfold chgd; rw[if_neg (fun h=>h hz)]
   rw[e];exact zb6
  ·refine runW (eq_false hz) ?_;have e:chgd (morC r u)=(jbn,jas (morC r u)):=by unfold chgd; rw[if_pos hz]
   rw[e];exact jgf (.v (jbq _))
theorem den_arch1 (c:Clk) (a:Apv):Den prog T 197 [.agg c.cs,.row a.cs] (vb (archC a.clk c)):=by
 refine ja0 call197 func197 14 ?_;unfold archC;by_cases h1:c.id=a.clk
 ·refine runW (eq_true h1) ?_;exact zr
 ·exact zc1
abbrev apvL (r:Rgs) (n d:Int) (k:Nat):List Apv:=(r.aps.take k).filter (forA n d)
abbrev arcA (r:Rgs) (a:Apv):Bool:=r.cks.any (archC a.clk)
theorem apvL_in {r:Rgs} {n d:Int} {k:Nat} {a:Apv} (ha:r.aps[k]? = some a) (hf:forA n d a=true):apvL r n d (k+1)=apvL r n d k++[a]:=by
 unfold apvL;rw[jdn ha,List.filter_append,List.filter_cons_of_pos hf];rfl
theorem apvL_out {r:Rgs} {n d:Int} {k:Nat} {a:Apv} (ha:r.aps[k]? = some a) (hf:¬forA n d a=true):apvL r n d (k+1)=apvL r n d k:=by
 unfold apvL;rw[jdn ha,List.filter_append,List.filter_cons_of_neg hf];simp
theorem apvL_len (r:Rgs) (n d:Int) (k:Nat):(apvL r n d k).length<=k:=by
 have h1:=List.length_filter_le (forA n d) (r.aps.take k);have h2:(r.aps.take k).length<=k:=List.length_take_le _ _;exact Nat.le_trans h1 h2
set_option maxHeartbeats 4000000 in
theorem den_approvedD (r:Rgs) (h:r.Fit) (n d:Int):Den prog T 131 [.agg r.cs,vi n,vi d] (vb (apvB r n d)):=by
 have hl:=h.aps;have hA:∀a:Apv,Den prog T 160 [clks r.cks,.func 197 [.row a.cs]] (vb (arcA r a)):=fun a=>den_anyClk r.cks _ _ (archC a.clk) h.cks.1 fun c _=>den_arch1 c a;refine ja0 call131 func131 43 ?_;refine run ?_;refine jb6 ⟨[7,8,14,1,2,3,12,13],[3],[],[]⟩ (fun k:Nat=>k<=r.aps.length) (fun k=>r.aps.length-k) (fun k=>[(7,.v (vi (apvL r n d k).length)),(8,.v (vb ((apvL r n d k).any (arcA r)))),(14,.v (vi k))]) 0 (Nat.zero_le _) ?_;intro k hk;have hle:=apvL_len r n d k;by_cases hlt:k<r.aps.length
 ·obtain ⟨a,ha,-,-⟩:=ja1 hlt;have hin:=fun hf=>apvL_in (r:=r) (n:=n) (d:=d) ha hf;have hout:=fun hf=>apvL_out (r:=r) (n:=n) (d:=d) ha hf;obtain ⟨X,hX⟩:∃X,apvL r n d k=X:=⟨_,rfl⟩;rw[hX] at hle hin hout;by_cases h1:a.prp=n
  ·by_cases h2:d<a.day
   ·have hno:=hout (by unfold forA; simp; omega);refine runW (ai hX (ai ha (eq_true h1))) ?_;refine round (k+1) hlt om ?_;rw[hno];rfl
   ·have hyes:=hin (by unfold forA; simp; omega);have hyl:(apvL r n d (k+1)).length=X.length+1:=by rw[hyes,List.length_append]; rfl
    have hya:(apvL r n d (k+1)).any (arcA r)=(X.any (arcA r) || arcA r a):=by rw[hyes,List.any_append]; simp
    cases hX2:X.any (arcA r)
    ·refine rcW (ai hX (ai ha (ai (eq_true h1) hX2))) (hA a) ?_;refine run ?_;refine round (k+1) hlt om ?_;rw[hyl,hya,hX2,Bool.false_or];rfl
    ·refine runW (ai hX (ai ha (ai (eq_true h1) hX2))) ?_;refine round (k+1) hlt om ?_;rw[hyl,hya,hX2,Bool.true_or];rfl
  ·have hno:=hout (by unfold forA; simp[h1]);refine runW (ai hX (ai ha (eq_false h1))) ?_;refine round (k+1) hlt om ?_;rw[hno];rfl
 ·have hk:k=r.aps.length:=om
  subst hk;have he:apvL r n d r.aps.length=r.aps.filter (forA n d):=by unfold apvL; rw[List.take_length]
  have hB:apvB r n d=(decide (2<=(apvL r n d r.aps.length).length) && (apvL r n d r.aps.length).any (arcA r)):=by rw[he]; rfl
  rw[hB];obtain ⟨X,hX⟩:∃X,apvL r n d r.aps.length=X:=⟨_,rfl⟩;rw[hX] at hle ⊢;by_cases h2:2<=X.length
  ·refine runW hX ?_;exact zck
  ·refine runW hX ?_;exact zck
theorem den_ready11 (L:LibC T) (r:Rgs) (h:r.Fit) (f d:Int):Den prog T 133 [vi f,.row r.cs,.row [vi d]] (vb (jft r d f)):=by
 have hO:=den_On L r h f d;unfold jft;obtain ⟨v,hv⟩:∃v,onV r f d=v:=⟨_,rfl⟩;rw[hv] at hO ⊢;refine ja0 call133 func133 21 ?_;refine rc hO ?_;by_cases h1:onE r f d=0
 ·rw[h1];refine run ?_;exact zr
 ·exact zc1
theorem den_ready1 (L:LibC T) (r:Rgs) (h:r.Fit) (p:Prp) (hp:p.fls.length<=1048576) (d:Int):Den prog T 132 [.row p.cs,.row r.cs,.row [vi d]] (rowV (p.fls.any (jft r d),21)):=by
 refine ja0 call132 func132 9 ?_;refine rc (jkl p.fls _ _ (jft r d) hp fun f _=>den_ready11 L r h f d) ?_;exact zt
set_option maxHeartbeats 4000000 in
theorem den_readyD (L:LibC T) (r:Rgs) (h:r.Fit) (p:Prp) (hp:p.fls.length<=1048576) (d:Int):Den prog T 77 [.agg r.cs,.agg p.cs,vi d] (vi (readyE r p d)):=by
 have he:readyE r p d=fstB [(decide (d<p.day),5),(decide (p.wdr<=d) || jd0 r.crs p.id,11),(!apvB r p.id d,22),(p.fls.any (jft r d),21)]:=by
  unfold readyE;simp only[fstB];by_cases h1:d<p.day
  ·rw[if_pos h1,if_pos (decide_eq_true h1)]
  rw[if_neg h1,decide_eq_false h1];by_cases h2:p.wdr<=d\/jd0 r.crs p.id=true
  ·rw[if_pos h2,(by simpa using h2:(decide (p.wdr<=d) || jd0 r.crs p.id)=true)];rfl
  rw[if_neg h2,(by simpa using h2:(decide (p.wdr<=d) || jd0 r.crs p.id)=false)];cases apvB r p.id d <;> rfl
 rw[he]
 have hF:∀b1 b2 b3,Den prog T 91 [.slice 1 [wRow b1 5,wRow b2 11,wRow b3 22,[.func 132 [.row p.cs,.row r.cs,.row [vi d]]]]] (vi (fstB [(b1,5),(b2,11),(b3,22),(p.fls.any (jft r d),21)])):=fun b1 b2 b3=>
  jkk _ _ (.cons (jco _ _) (.cons (jco _ _) (.cons (jco _ _) (.cons (den_ready1 L r h p hp d) .nil)))) (by show (4:Nat)<=1048576; decide)
 have hcd:=jqn (T:=T) r h p.id;have hap:=den_approvedD (T:=T) r h p.id d;refine ja0 call77 func77 33 ?_;by_cases h1:p.wdr<=d
 ·rw[decide_eq_true h1,Bool.true_or];refine rc (jbk _ 5) ?_;exact zcv
 ·rw[decide_eq_false h1,Bool.false_or];refine rc (jbk _ 5) ?_;refine rc hcd ?_;exact zcv
set_option maxHeartbeats 4000000 in
theorem jrt (L:LibT T) (r:Rgs) (h:r.Fit) (n d:Int):Den prog T 24 [.agg r.cs,vi n,vi d] (vi (jgy r n d)):=by
 have LC:=libC L;have hpl:=h.pps.1;refine ja0 call24 func24 30 ?_;unfold jgy;refine rc (jl3 r h n) ?_;refine rc (ji8 L r h) ?_;by_cases hz:jas r=0
 case neg=>
  rw[if_pos hz];exact zcg
 rw[if_neg (fun e=>e hz)];rcases jee (jar n) r.pps with ⟨h1,h2⟩ | ⟨k,p,h1,hk,hx,hpm,h2⟩
 ·rw[h2];have h1:jcm r.pps n= -1:=h1;rw[h1];refine runW hz ?_;exact fin rfl
 rw[h2];have h1:jcm r.pps n=(k:Int):=h1;rw[h1];refine rcW hz (joy d) ?_;cases hd:dayG d
 ·exact za
 ·rw[if_neg dc];refine rcW hx (den_readyD LC r h p (h.pps.2 p hpm) d) ?_;exact za
theorem fit_morC {r:Rgs} (h:r.Fit) {c:Crt} (hc:c.fls.length<=1048576/\c.bef.length<=1048576/\c.dig.length<=1048576) (hl:r.crs.length<1048576):(morC r c).Fit:=
  { ofs:=h.ofs,pls:=h.pls,fls:=h.fls,rls:=h.rls,hls:=h.hls,cks:=h.cks,sls:=h.sls,pps:=h.pps,aps:=h.aps,dps:=h.dps
    crs:=⟨by show (r.crs++[c]).length<=1048576; rw[List.length_append]; exact hl,fun q hq=>by
      rcases List.mem_append.1 hq with hq | hq
      · exact h.crs.2 q hq
      · rw[List.mem_singleton.1 hq]; exact hc⟩ }
abbrev zeroK:List V:=[vi 0,vi 0,vi 0,.val (.slice none 0 0),.str [],.str []]
theorem wk_zeroK:Wk (.agg zeroK) (.agg crtZ.cs):= .agg rfl (fun c hc=>by
  simp only[Crt.cs,List.mem_cons,List.not_mem_nil,or_false] at hc
  rcases hc with rfl | rfl | rfl | rfl | rfl | rfl <;> rfl) fun j v u e1 e2=>by
 match j with
 | 0=>cases e1; cases e2; exact .refl _
 | 1=>cases e1; cases e2; exact .refl _
 | 2=>cases e1; cases e2; exact .refl _
 | 3=>cases e1; cases e2; exact .nil _
 | 4=>cases e1; cases e2; exact .refl _
 | 5=>cases e1; cases e2; exact .refl _
 | j+6=>cases e1
theorem jl4 (e:Int):Wk (.tup [.agg jg7,.agg zeroK,vi e]) (.tup [.agg jbn.cs,.agg crtZ.cs,vi e]):= .t3 wk_zeroC wk_zeroK (.refl _)
theorem jlg (e:Int):Den prog T 68 [vi e] (.tup [.agg jg7,.agg zeroK,vi e]):=by
 refine ja0 call68 func68 8 ?_;exact za
theorem den_depB (l:List Int) (hl:l.length<=1048576) (x:Dep):Den prog T 70 [.agg x.cs,.row [ints l]] (vb (depB l x)):=by
 have hh:=jmg (T:=T) l x.fil hl;refine ja0 call70 func70 8 ?_;refine rc hh ?_;refine run ?_;refine fin (ja3 ?_);unfold depB hasI;congr 1
 funext y
 rw[decide_eq_decide];exact eq_comm
theorem jni {P:Program} {G:Prop} {c:Code} {Q:AX->St->Prop} (φ:Prop) (S:St) (h:(∀st,φ->Ab.Sub P T S st->aw P T c st Q)->G) (h2:φ->aw P T c S Q):G:=h fun _ hf hs=>aw_sub hs (h2 hf)
abbrev gr144a:List Gent:=⟨bz 14 0,14,.one 0 0⟩::⟨bz 14 1,13,.ld 1 0⟩::⟨bz 14 3,12,.ld 2 0⟩::⟨bz 14 7,11,.one 3 0⟩::⟨bz 14 15,10,.one 8 0⟩::⟨bz 14 271,9,.ld 9 0⟩::⟨bz 14 783,8,.alt [(4,0),(10,2),(11,1)]⟩::⟨bz 14 799,7,.one 5 3⟩::⟨bz 14 2831,7,.alt [(4,4),(10,3)]⟩::⟨bz 14 1807,7,.alt [(4,0),(11,2)]⟩::⟨bz 14 1823,6,.one 5 5⟩::⟨bz 14 831,6,.one 6 2⟩::⟨bz 14 3855,6,.alt [(4,2)]⟩::⟨bz 14 2847,6,.one 5 3⟩::⟨bz 14 895,5,.ld 7 4⟩::⟨bz 14 3871,5,.one 5 5⟩::⟨bz 14 1855,5,.one 6 3⟩::⟨bz 14 2879,5,.one 6 0⟩::⟨bz 14 2943,4,.ld 7 5⟩::⟨bz 14 1023,4,.alt [(10,3),(11,4)]⟩::⟨bz 14 1919,4,.ld 7 2⟩::⟨bz 14 3903,4,.one 6 0⟩::⟨bz 14 3967,3,.ld 7 3⟩::⟨bz 14 2047,3,.alt [(11,2)]⟩::⟨bz 14 3071,3,.alt [(10,1),(12,0)]⟩::⟨bz 14 7167,2,.alt [(10,1)]⟩::⟨bz 14 4095,2,.alt [(12,0)]⟩::⟨bz 14 8191,1,.alt [(13,0)]⟩::⟨bz 14 16383,0,.fin⟩::[]
abbrev gr144b:List Gent:=⟨bz 13 0,13,.one 0 0⟩::⟨bz 13 1,12,.one 1 0⟩::⟨bz 13 3,11,.one 2 0⟩::⟨bz 13 7,10,.one 3 0⟩::⟨bz 13 15,9,.ld 4 0⟩::⟨bz 13 31,8,.one 6 0⟩::⟨bz 13 95,7,.ld 7 0⟩::⟨bz 13 223,6,.one 8 0⟩::⟨bz 13 479,5,.alt [(5,1),(11,0)]⟩::⟨bz 13 2527,4,.alt [(5,1)]⟩::⟨bz 13 511,4,.alt [(9,1),(11,0)]⟩::⟨bz 13 2559,3,.alt [(9,1)]⟩::⟨bz 13 1023,3,.alt [(10,1),(11,0)]⟩::⟨bz 13 3071,2,.alt [(10,1)]⟩::⟨bz 13 2047,2,.alt [(11,0)]⟩::⟨bz 13 4095,1,.alt [(12,0)]⟩::⟨bz 13 8191,0,.fin⟩::[]
abbrev gr144c:List Gent:=⟨bz 5 0,5,.alt [(0,0),(1,1)]⟩::⟨bz 5 1,4,.alt [(1,1),(2,2)]⟩::⟨bz 5 2,4,.alt [(0,0)]⟩::⟨bz 5 3,3,.alt [(2,1)]⟩::⟨bz 5 5,3,.alt [(1,0)]⟩::⟨bz 5 7,2,.alt [(3,0)]⟩::⟨bz 5 15,1,.alt [(4,0)]⟩::⟨bz 5 31,0,.fin⟩::[]
set_option maxHeartbeats 16000000 in
theorem den_Destroy (L:LibT T) (r:Rgs) (h:r.Fit) (n d:Int) (hcr:r.crs.length<1048576):Den prog T 22 [.agg r.cs,vi n,vi d] (.tup [.agg (desP r n d).1.cs,.agg (desP r n d).2.1.cs,vi (desP r n d).2.2]):=by
 have hrd:=jrt L r h n d;have hcl:=h.crs.1;refine ja0 call22 func22 113 ?_;refine rc hrd ?_;by_cases hz:jgy r n d=0
 ·obtain ⟨p,hR⟩:=jok.1 hz;have hfp:=hR.fp;rcases jee (jar n) r.pps with ⟨-,h2⟩ | ⟨k,p',h1,hk,hx,hpm,h2⟩
  ·rw[h2] at hfp; cases hfp
  obtain rfl:p'=p:=by rw[h2] at hfp; exact Option.some.inj hfp
  have hfd:=jl3 (T:=T) r h n;rw[show jcm r.pps n=(k:Int) from h1] at hfd;have hfl:=h.pps.2 p' hpm;have hpl:=h.pps.1;refine runD hz ?_;refine jhi 3 ?_;refine jbx (st':=⟨113,[(1,.v (vi n)),(2,.v (vi d)),(3,.p 3 0),(6,.p 6 0),(7,.p 7 0),(8,.v (vi 0)),(9,.v (.func 68 []))],[(7,.var zeroK),(6,.var jg7),(3,.con r.cs)],[]⟩) ⟨[1,2,3,6,7,8,9],[7,6,3],[],[]⟩ rfl ?_;refine jf4 .nm (fun _:Unit=>True) (fun _=>⟨113,[(1,.v (vi n)),(2,.v (vi d)),(3,.p 3 0),(6,.p 6 0),(7,.p 7 0),(8,.v (vi 0)),(9,.v (.func 68 [])),(11,.p 11 0),(12,.v (vi r.crs.length))],[(11,.var [ints p'.fls]),(7,.var zeroK),(6,.var jg7),(3,.con r.cs)],[]⟩) ?_ ?_
  ·intro E hE;refine jat gr144a ?_;refine jab hx ?_
   try simp only[jag,and_assoc]
   apply viaA
   ·have hX:=fun k kn m h0=>call (T:=T) (k:=k) (kn:=kn) (m:=m) hfd h0
    repeat' (first | with_reducible apply And.imp | exact hX _ _ _)
   refine jab hx ?_
   try simp only[and_self,and_self_left,and_self_right,jag,jai]
   repeat' (with_reducible refine ai ?_ ?_)
   all_goals refine hE () _ trivial ?_
   all_goals exact jak [3,6,7,11] [1,2,3,6,7,8,9,11,12] rfl rfl rfl (fun _ _ e=>e) rfl
  intro _ _
  show aw _ _ _ ⟨113,[(1,.v (vi n)),(2,.v (vi d)),(3,.p 3 0),(6,.p 6 0),(7,.p 7 0),(8,.v (vi 0)),(9,.v (.func 68 [])),(11,.p 11 0),(12,.v (vi r.crs.length))],[(11,.var [ints p'.fls]),(7,.var zeroK),(6,.var jg7),(3,.con r.cs)],[]⟩ _
  have hlate:(¬ 0<(r.crs.length:Int)/\lateC (jac r.crs r.crs.length) d=false)\/(0<(r.crs.length:Int)/\∃q,r.crs[r.crs.length-1]? = some q/\lateC (jac r.crs r.crs.length) d=decide (d<q.day)):=by
   unfold jac;by_cases h0:r.crs.length=0
   ·left;rw[if_pos h0];exact ⟨om,rfl⟩
   ·right;rw[if_neg h0];obtain ⟨q,hq,-,-⟩:=ja1 (l:=r.crs) (k:=r.crs.length-1) om;rw[hq];exact ⟨om,q,rfl,rfl⟩
  have hE0:desE r n d=if lateC (jac r.crs r.crs.length) d=true then 5 else if r.dps.any (depB p'.fls)=true then 6 else 0:=by
   unfold desE;rw[if_neg (fun e=>e hz),hfp]
  have hfail:∀e,desE r n d=e->e≠0->desP r n d=(jbn,crtZ,e):=fun e h1 h2=>by
   unfold desP;rw[if_pos (by rw[h1]; exact h2),h1]
  apply jni (lateC (jac r.crs r.crs.length) d=false) ⟨113,[(1,.v (vi n)),(2,.v (vi d)),(3,.p 3 0),(6,.p 6 0),(7,.p 7 0),(8,.v (vi 0)),(9,.v (.func 68 [])),(11,.p 11 0),(12,.v (vi r.crs.length))],[(11,.var [ints p'.fls]),(7,.var zeroK),(6,.var jg7),(3,.con r.cs)],[]⟩
  ·intro tail;rcases hlate with ⟨h0,hl⟩ | ⟨h0,q,hq,hl⟩
   ·refine runMk (eq_false h0) ?_;refine tail _ hl ?_;exact zef
   ·by_cases hdq:d<q.day
    ·rw[hfail 5 (by rw[hE0,hl,decide_eq_true hdq]; rfl) dc];refine rcW (ai hq hdq) (jlg _) ?_;exact zcn
    ·refine runMk (ai hq (eq_false hdq)) ?_;refine tail _ (by rw[hl,decide_eq_false hdq]) ?_;exact zef
  intro hl;have hE:desE r n d=if r.dps.any (depB p'.fls)=true then 6 else 0:=by rw[hE0,if_neg (by rw[hl]; decide)]
  have hdepC:=den_anyDep (T:=T) r.dps 70 [.row [ints p'.fls]] (depB p'.fls) h.dps (fun e _=>den_depB p'.fls hfl e);refine rc hdepC ?_;by_cases hdep:r.dps.any (depB p'.fls)=true
  ·rw[hfail 6 (by rw[hE,if_pos hdep]) dc];refine rcW hdep (jlg _) ?_;exact zcn
  rw[if_neg hdep] at hE;have hfls:=flsP_some hfp
  have hP:desP r n d=if crtB (newC r n d p'.fls)=false then (jbn,crtZ,1) else
    if jas (morC r (newD r n d p'.fls))≠0 then (jbn,crtZ,jas (morC r (newD r n d p'.fls))) else (morC r (newD r n d p'.fls),newD r n d p'.fls,0):=by
   unfold desP;rw[if_neg (fun e=>e hE),hfls]
  have hbl:(befC r.crs r.crs.length).length=32:=befC_len hR.ok;have hcp:=(jjb (T:=T) p'.fls hfl).den;have hbf:=jrq L r.crs r.crs.length hcl (Nat.le_refl _);refine runD (Bool.eq_false_iff.2 hdep) ?_;refine jf4 .nm (fun _:Unit=>True) (fun _=>⟨113,[(1,.v (vi n)),(2,.v (vi d)),(3,.p 3 0),(6,.p 6 0),(7,.p 7 0),(8,.v (vi 0)),(9,.v (.func 68 [])),(13,.p 13 0)],[(13,.var (newC r n d p'.fls).cs),(11,.con [ints p'.fls]),(7,.var zeroK),(6,.var jg7),(3,.con r.cs)],[]⟩) ?_ ?_
  ·intro E hE1;refine jat gr144b ?_;refine jab trivial ?_
   try simp only[and_self,and_self_left,and_self_right,jag,jai,and_assoc]
   apply viaA
   ·have hX:=fun k kn m h0=>call (T:=T) (k:=k) (kn:=kn) (m:=m) hcp h0
    repeat' (first | with_reducible apply And.imp | exact hX _ _ _)
   refine jab trivial ?_
   try simp only[and_self_right]
   apply viaA
   ·have hX:=fun k kn m h0=>call (T:=T) (k:=k) (kn:=kn) (m:=m) hbf h0
    repeat' (first | with_reducible apply And.imp | exact hX _ _ _)
   refine jab trivial ?_
   try simp only[and_self,and_self_left,and_self_right,jag,jai]
   repeat' (with_reducible refine ai ?_ ?_)
   all_goals refine hE1 () _ trivial ?_
   all_goals exact jak [3,6,7,11,13] [1,2,3,6,7,8,9,13] rfl rfl rfl (fun _ _ e=>e) rfl
  intro _ _
  show aw _ _ _ ⟨113,[(1,.v (vi n)),(2,.v (vi d)),(3,.p 3 0),(6,.p 6 0),(7,.p 7 0),(8,.v (vi 0)),(9,.v (.func 68 [])),(13,.p 13 0)],[(13,.var (newC r n d p'.fls).cs),(11,.con [ints p'.fls]),(7,.var zeroK),(6,.var jg7),(3,.con r.cs)],[]⟩ _
  refine aw_name 13 ?_;intro b _;refine jbx (st':=⟨113,[(1,.v (vi n)),(2,.v (vi d)),(3,.p 3 0),(6,.p 6 0),(7,.p 7 0),(8,.v (vi 0)),(9,.v (.func 68 [])),(13,.p 13 0)],[(13,.var (newC r n d p'.fls).cs (some b)),(7,.var zeroK),(6,.var jg7),(3,.con r.cs)],[]⟩) ⟨[1,2,3,6,7,8,9,13],[13,7,6,3],[],[]⟩ rfl ?_;have hdg:=jru L (newC r n d p'.fls) hfl (by show (befC r.crs r.crs.length).length<=1048576; omega);refine rc hdg ?_;by_cases hcb:crtB (newC r n d p'.fls)=true
  ·have hdv:digV (newC r n d p'.fls)= .tup [.str (sumD (crtT (newC r n d p'.fls))),vi 0]:=digV_ok ((jng _).1 hcb);rw[hdv];have hD:=denS_changed_k L r h (newD r n d p'.fls) (fit_morC h ⟨hfl,by show (befC r.crs r.crs.length).length<=1048576; omega,by show (sumD _).length<=1048576; rw[jn3]; decide⟩ hcr) b;rw[if_neg (by rw[hcb]; decide)] at hP;refine runW trivial ?_;refine jdv (callS [(999000,13)] hD (.cons (.v _) (.cons (.v _) .nil)) ?_ ?_)
   ·intro x hx;simp only[List.mem_singleton] at hx;subst hx;exact ⟨13,_,rfl,rfl,rfl,.inr rfl,rfl⟩
   by_cases hc14:jas (morC r (newD r n d p'.fls))=0
   ·rw[if_neg (fun e=>e hc14)] at hP;have e:chgd (morC r (newD r n d p'.fls))=(morC r (newD r n d p'.fls),0):=by unfold chgd; rw[if_neg (fun h=>h hc14)]
    rw[e,hP];refine rcW trivial hcp ?_;refine runD trivial ?_;refine jf4 .nm (fun _:Unit=>True) (fun _=>⟨113,[(6,.p 6 0),(7,.p 7 0),(8,.v (vi 0))],[(7,.var (newD r n d p'.fls).cs),(6,.var (morC r (newD r n d p'.fls)).cs)],[]⟩) ?_ ?_
    ·intro E hE1;refine jat gr144c ?_;refine jab trivial ?_
     try simp only[and_self,and_self_left,and_self_right,jag,jai]
     repeat' (with_reducible refine ai ?_ ?_)
     all_goals refine hE1 () _ trivial ?_
     all_goals exact jak [6,7] [6,7,8] rfl rfl rfl (fun i k e=>by
      rw[ja4,ja4] at e;split at e
      ·exact zo
      split at e
      ·exact zo
      ·cases e) rfl
    intro _ _
    show aw _ _ _ ⟨113,[(6,.p 6 0),(7,.p 7 0),(8,.v (vi 0))],[(7,.var (newD r n d p'.fls).cs),(6,.var (morC r (newD r n d p'.fls)).cs)],[]⟩ _
    exact za
   ·rw[if_pos hc14] at hP;have e:chgd (morC r (newD r n d p'.fls))=(jbn,jas (morC r (newD r n d p'.fls))):=by unfold chgd; rw[if_pos hc14]
    rw[e,hP];refine rcW (eq_false hc14) (jlg _) ?_;exact zcn
  ·have hdv:digV (newC r n d p'.fls)= .tup [.str [],vi 1]:=jfi (fun h=>hcb ((jng _).2 h));rw[hdv];rw[if_pos (Bool.eq_false_iff.2 hcb)] at hP;rw[hP];refine rc (jlg _) ?_;exact zcn
 ·have he:desP r n d=(jbn,crtZ,jgy r n d):=by unfold desP desE; rw[if_pos hz,if_pos hz]
  rw[he];refine rcW (eq_false hz) (jlg _) ?_;exact zcn
def ex14:Rgs:=⟨[⟨1,[65],0,1048576,[]⟩],[⟨1,0,1048576,[⟨[49],[84]⟩,⟨[49,46,49],[84]⟩],[]⟩],[⟨7,1,5,10,[49,46,49],[84],0,[]⟩],[⟨3,[49],[99,108,111,115,101,100],0,false,1,0,1048576⟩],[⟨2,1,7,[],[82],12,20⟩],
 [⟨1,1,[65],0,1048576⟩,⟨2,1,[66],0,1048576⟩,⟨3,2,[67],0,1048576⟩],[],[⟨1,11,1,[7],1048576⟩],[⟨1,11,2⟩,⟨1,20,3⟩],[],[],0⟩
theorem ex14_des:desE ex14 1 20=0:=by decide +kernel
theorem ex14_chk:jas ex14=0:=by decide +kernel
theorem ex14_rdy:jgy ex14 1 19=22:=by decide +kernel
inductive WkS (size:Nat):List (List V)->List (List V)->Prop
 | nil:WkS size [] []
 | cons {a b:List V} {l m:List (List V)} (h:Wks a b) (hs:b.length=size) (ho:(b.all fun v=>v.one)=true) (t:WkS size l m):WkS size (a::l) (b::m)
theorem WkS.wk {size:Nat} {l m:List (List V)} (h:WkS size l m):Wk (.slice size l) (.slice size m):=by
  have hl:l.length=m.length:=by induction h with | nil=>rfl | cons _ _ _ _ ih=>simp[ih]
  refine Wk.slice hl (fun e he=> ?_) (fun e he c hc=> ?_) ?_
  · clear hl
    induction h with
    | nil=>cases he
    | cons _ hs _ _ ih => rcases List.mem_cons.1 he with rfl | he; · exact hs
                          · exact ih he
  · clear hl
    induction h with
    | nil=>cases he
    | cons _ _ ho _ ih => rcases List.mem_cons.1 he with rfl | he; · exact List.all_eq_true.1 ho c hc
                          · exact ih he
  · clear hl
    induction h with
    | nil=>intro i j e u v c h1; simp at h1
    | cons hw _ _ _ ih=>
      intro i j e u v c h1 h2 h3 h4;cases i with
      | zero=>
        simp only[List.getElem?_cons_zero,Option.some.injEq] at h1 h2;subst h1 h2;obtain ⟨v',q1,q2⟩:=hw.get h4;rw[h3] at q1;cases q1;exact q2
      | succ i=>exact ih i j e u v c (by simpa using h1) (by simpa using h2) h3 h4
theorem ex14_fit:ex14.Fit:=by
 refine ⟨⟨dc,fun o ho=> ?_⟩,⟨dc,fun p hp=> ?_⟩,⟨dc,fun f hf=> ?_⟩,⟨dc,fun q hq=> ?_⟩,⟨dc,fun q hq=> ?_⟩,⟨dc,fun q hq=> ?_⟩,⟨dc,fun q hq=>(by cases hq)⟩,⟨dc,fun q hq=> ?_⟩,dc,⟨dc,fun q hq=>(by cases hq)⟩,dc⟩
 ·simp only[ex14,List.mem_cons,List.not_mem_nil,or_false] at ho;subst ho;exact ⟨dc,dc⟩
 ·simp only[ex14,List.mem_cons,List.not_mem_nil,or_false] at hp;subst hp;refine ⟨dc,dc,fun c hc=> ?_,fun c hc=>(by cases hc)⟩;simp only[List.mem_cons,List.not_mem_nil,or_false] at hc;rcases hc with rfl | rfl <;> exact ⟨dc,dc⟩
 ·simp only[ex14,List.mem_cons,List.not_mem_nil,or_false] at hf;subst hf;exact ⟨dc,dc,dc,fun n hn=>(by cases hn)⟩
 ·exact zde
 ·exact zde
 ·simp only[ex14,List.mem_cons,List.not_mem_nil,or_false] at hq;rcases hq with rfl | rfl | rfl <;> decide
 ·simp only[ex14,List.mem_cons,List.not_mem_nil,or_false] at hq;subst hq;decide
theorem den_example14:Den prog T 21 [] (.agg ex14.cs):=by
 refine ja0 call21 func21 34 ?_;refine run ?_;refine finW (wk_aggs ?_ rfl);refine .cons (WkS.wk (.cons ?_ rfl rfl .nil)) (.cons (WkS.wk (.cons ?_ rfl rfl .nil)) (.cons (WkS.wk (.cons ?_ rfl rfl .nil)) (.cons (.refl _) (.cons (.refl _) (.cons (.refl _) ?_)))))
 all_goals repeat (first | exact .nil | refine .cons (.refl _) ?_ | refine .cons (.nil _) ?_)
def ex14T:Str:=[99,101,114,116,105,102,105,99,97,116,101,32,49,32,112,114,111,112,111,115,97,108,32,49,32,100,97,121,32,50,48,32,102,105,108,101,115,32,55,10]
theorem ex14_txt:crtT (newC ex14 1 20 [7])=ex14T++List.replicate 32 0:=by decide +kernel
theorem ex14_crt:crtB (newC ex14 1 20 [7])=true:=by decide +kernel
theorem crtT_dig (c:Crt) (s:Str):crtT { c with dig:=s } = crtT c:=rfl
theorem crtB_dig (c:Crt) (s:Str):crtB { c with dig:=s } = crtB c:=rfl
theorem ex14_chain:chainR [newD ex14 1 20 [7]]=(-1,0):=by
 have h:jc0 [newD ex14 1 20 [7]] 0=true:=by
  unfold jc0;simp only[List.getElem?_cons_zero];unfold linkC newD;rw[crtT_dig,crtB_dig,ex14_crt];simp only[Bool.true_and];decide +kernel
 unfold chainR;rw[jds dc fun i hi=> ?_];have:i=0:=by simp at hi; exact hi
 subst this;rw[if_pos h]
theorem ex14_desP:desP ex14 1 20=(morC ex14 (newD ex14 1 20 [7]),newD ex14 1 20 [7],0):=by
 rw[desP_eq 1 20 dc (fun p hp=>by
  simp only[ex14,List.mem_cons,List.not_mem_nil,or_false] at hp;subst hp
  decide)]
 unfold desR;rw[if_neg (fun e=>e ex14_des)];rfl
theorem byL_zero:∀n:Nat,byL (List.replicate n (vb8 0))=some (List.replicate n 0)
 | 0=>rfl
 | n+1=>by rw[List.replicate_succ,byL,byL_zero n]; rfl
set_option maxHeartbeats 8000000 in
theorem den_awake14 (L:LibT T):Den prog T 5 [] (vb true):=by
 have c0:=den_example14 (T:=T)
 have c1:Den prog T 22 [.agg ex14.cs,vi 1,vi 20] (.tup [.agg (morC ex14 (newD ex14 1 20 [7])).cs,.agg (newD ex14 1 20 [7]).cs,vi 0]):=by
  have:=den_Destroy L ex14 ex14_fit 1 20 dc
  rwa [ex14_desP] at this
 have c2:=jqp L (ex14T++List.replicate 32 0) dc
 have c4:Den prog T 12 [.agg ex14.cs] (vi 0):=by
  have:=ji8 L ex14 ex14_fit
  rwa [ex14_chk] at this
 have c5:Den prog T 24 [.agg ex14.cs,vi 1,vi 19] (vi 22):=by
  have:=jrt L ex14 ex14_fit 1 19
  rwa [ex14_rdy] at this
 have hdig:(newD ex14 1 20 [7]).dig=sumD (ex14T++List.replicate 32 0):=by rw[<- ex14_txt]; rfl
 have hcrs:(morC ex14 (newD ex14 1 20 [7])).crs=[newD ex14 1 20 [7]]:=rfl
 have c3:Den prog T 10 [crts (morC ex14 (newD ex14 1 20 [7])).crs] (.tup [vi (-1),vi 0]):=by
  have:=den_ChainD L [newD ex14 1 20 [7]] ⟨dc,fun c hc=>by
   rw[List.mem_singleton.1 hc];refine ⟨dc,by decide +kernel,?_⟩;rw[hdig,jn3]
   decide⟩
  rw[ex14_chain] at this;exact this
 have hlen:(morC ex14 (newD ex14 1 20 [7])).crs.length=1:=rfl;have hsl:=jn3 (ex14T++List.replicate 32 0);obtain ⟨R,hR⟩:∃R,morC ex14 (newD ex14 1 20 [7])=R:=⟨_,rfl⟩;obtain ⟨D,hD⟩:∃D,newD ex14 1 20 [7]=D:=⟨_,rfl⟩;obtain ⟨S,hS⟩:∃S,sumD (ex14T++List.replicate 32 0)=S:=⟨_,rfl⟩;obtain ⟨X,hX⟩:∃X,ex14=X:=⟨_,rfl⟩;rw[hR,hD] at c1;rw[hR] at c3 hlen;rw[hD,hS] at hdig;rw[hS] at c2 hsl;rw[hX] at c0 c1 c4 c5;clear hR hD hS hX hcrs;have hby:=byL_zero 32;refine ja0 call5 func5 62 ?_;refine rc c0 ?_;refine rc c1 ?_;refine runW hby ?_;intro r' hnm;have q1:(List.replicate 32 (vb8 0)).length=32:=rfl;have q2:List.take 32 (List.replicate 32 (vb8 0))=List.replicate 32 (vb8 0):=rfl;have q3:(List.replicate 32 (0:UInt8)).length=32:=rfl;refine rcW (ai q1 (ai q2 (ai q3 hby))) c2 ?_;refine rcW trivial c3 ?_;refine rcW hlen c4 ?_;refine rcW hlen c5 ?_;refine runW (ai hlen (ai hdig hsl)) ?_;exact fin rfl
def bigC (c:Crt):Bool:=(decide (12<c.fls.length) && !decide (c.fls.length=257)) || decide (100<c.bef.length) || decide (100<c.dig.length)
def manyCh (l:List Crt):Bool:=(decide (12<l.length) && decide (l.length<=1024)) || decide (1029<l.length)
def fewCh (l:List Crt):Bool:= !manyCh l && !l.any bigC
def manyK (r:Rgs):Bool:=(decide (10<r.cks.length) && decide (r.cks.length<=32)) || decide (37<r.cks.length) || decide (8<r.pps.length) || decide (20<r.aps.length)
def few14 (r:Rgs):Bool:=fewG r && !manyK r && !(r.cks.any fun c=>decide (100<c.name.length)) && !(r.pps.any fun p=>decide (12<p.fls.length)) && fewCh r.crs
theorem den_FewChain (l:List Crt) (hl:l.length<=1048576/\∀c∈l,c.fls.length<=1048576/\c.bef.length<=1048576/\c.dig.length<=1048576):Den prog T 7 [crts l] (vb (fewCh l)):=by
 obtain ⟨hl0,hl1⟩:=hl;refine ja0 call7 func7 57 ?_;unfold fewCh
 have hm:(manyCh l=true/\((12<l.length/\l.length<=1024)\/1029<l.length))\/(manyCh l=false/\¬ 1029<l.length/\(12<l.length->¬l.length<=1024)):=by
  unfold manyCh;by_cases h1:12<l.length <;> by_cases h2:l.length<=1024 <;> by_cases h3:1029<l.length <;> simp[h1,h2,h3] <;> omega
 rcases hm with ⟨h0,h1⟩ | ⟨h0,h3,h4⟩
 ·rw[h0];rcases h1 with ⟨h1,h2⟩ | h3
  ·exact za
  ·exact za
 rw[h0];by_cases h1:12<l.length
 ·have h2:=h4 h1;refine runW trivial ?_;refine ja7 ⟨[3,0],[],[],[]⟩ l.length (fun k=>∀c∈l.take k,bigC c=false) sm ?_;rintro k ⟨hk,hall⟩;by_cases hlt:k<l.length
  ·obtain ⟨c,hx,-,hmm⟩:=ja1 hlt;obtain ⟨hf,hb,hd⟩:=hl1 c hmm;have bad:bigC c=true->l.any bigC=true:=fun h=>List.any_eq_true.2 ⟨c,hmm,h⟩;have next:bigC c=false->∀x∈l.take (k+1),bigC x=false:=fun h=>jae hall hx h;by_cases q1:12<c.fls.length
   ·by_cases q2:c.fls.length=257
    ·by_cases q3:100<c.bef.length
     ·exact zcc
     ·by_cases q4:100<c.dig.length
      ·exact zcb
      ·exact zdl
    ·rw[bad (by unfold bigC; simp[q1,q2])];exact ze
   ·by_cases q3:100<c.bef.length
    ·exact zcc
    ·by_cases q4:100<c.dig.length
     ·exact zcb
     ·exact zdm
  ·have ha:l.any bigC=false:=List.any_eq_false.2 fun x hx=>by rw[jcq hall hlt x hx]; decide
   rw[ha];exact za
 ·refine runW trivial ?_;refine ja7 ⟨[3,0],[],[],[]⟩ l.length (fun k=>∀c∈l.take k,bigC c=false) sm ?_;rintro k ⟨hk,hall⟩;by_cases hlt:k<l.length
  ·obtain ⟨c,hx,-,hmm⟩:=ja1 hlt;obtain ⟨hf,hb,hd⟩:=hl1 c hmm;have bad:bigC c=true->l.any bigC=true:=fun h=>List.any_eq_true.2 ⟨c,hmm,h⟩;have next:bigC c=false->∀x∈l.take (k+1),bigC x=false:=fun h=>jae hall hx h;by_cases q1:12<c.fls.length
   ·by_cases q2:c.fls.length=257
    ·by_cases q3:100<c.bef.length
     ·exact zcc
     ·by_cases q4:100<c.dig.length
      ·exact zcb
      ·exact zdl
    ·rw[bad (by unfold bigC; simp[q1,q2])];exact ze
   ·by_cases q3:100<c.bef.length
    ·exact zcc
    ·by_cases q4:100<c.dig.length
     ·exact zcb
     ·exact zdm
  ·have ha:l.any bigC=false:=List.any_eq_false.2 fun x hx=>by rw[jcq hall hlt x hx]; decide
   rw[ha];exact za
theorem den_Few14 (r:Rgs) (h:r.Fit):Den prog T 6 [.agg r.cs] (vb (few14 r)):=by
 have hk:=h.cks.1;have hp:=h.pps.1;have ha:=h.aps;have hG:=den_FewG (T:=T) r h;have hC:=den_FewChain (T:=T) r.crs h.crs;refine ja0 call6 func6 71 ?_;unfold few14;refine rc hG ?_;cases e1:fewG r
 ·exact za
 have hm:(manyK r=true/\((10<r.cks.length/\r.cks.length<=32)\/37<r.cks.length\/(8<r.pps.length/\¬ 37<r.cks.length/\(10<r.cks.length->¬r.cks.length<=32))\/(20<r.aps.length/\¬ 8<r.pps.length/\¬ 37<r.cks.length/\(10<r.cks.length->¬r.cks.length<=32))))\/
   (manyK r=false/\¬ 20<r.aps.length/\¬ 8<r.pps.length/\¬ 37<r.cks.length/\(10<r.cks.length->¬r.cks.length<=32)):=by
  unfold manyK;by_cases h1:10<r.cks.length <;> by_cases h2:r.cks.length<=32 <;> by_cases h3:37<r.cks.length <;> by_cases h4:8<r.pps.length <;> by_cases h5:20<r.aps.length <;> simp[h1,h2,h3,h4,h5] <;> omega
 rcases hm with ⟨h0,h1⟩ | ⟨h0,h5,h4,h3,h2⟩
 ·rw[h0];rcases h1 with ⟨h1,h2⟩ | h3 | ⟨h4,h3,h2⟩ | ⟨h5,h4,h3,h2⟩
  ·exact za
  ·exact za
  ·by_cases h1:10<r.cks.length
   ·have:=h2 h1;exact za
   ·exact za
  ·by_cases h1:10<r.cks.length
   ·have:=h2 h1;exact za
   ·exact za
 rw[h0];apply aw_meet1 ⟨71,[(1,.p 1 0),(3,.v (vi (0:Nat)))],[(1,.var r.cs)],[]⟩
 ·intro tail;by_cases h1:10<r.cks.length
  ·have:=h2 h1;exact zeb
  ·exact zeb
 refine ja7 ⟨[3,1],[1],[],[]⟩ r.cks.length (fun k=>∀c∈r.cks.take k,decide (100<c.name.length)=false) sm ?_;rintro k ⟨hk,hall⟩;by_cases hlt:k<r.cks.length
 ·obtain ⟨c,hx,-,hmm⟩:=ja1 hlt;have hn:=h.cks.2 c hmm;by_cases q1:100<c.name.length
  ·have:(r.cks.any fun c=>decide (100<c.name.length))=true:=List.any_eq_true.2 ⟨c,hmm,decide_eq_true q1⟩;rw[this];exact ze
  ·refine runW hx ?_;exact round (k+1) ⟨hlt,jae hall hx (decide_eq_false q1)⟩ om
 have hn0:(r.cks.any fun c=>decide (100<c.name.length))=false:=List.any_eq_false.2 fun x hx=>by rw[jcq hall hlt x hx]; decide
 rw[hn0];clear hall;refine run ?_;refine ja7 ⟨[4,1],[1],[],[]⟩ r.pps.length (fun k=>∀c∈r.pps.take k,decide (12<c.fls.length)=false) sm ?_;rintro j ⟨hj,hall⟩;by_cases hjl:j<r.pps.length
 ·obtain ⟨c,hx,-,hmm⟩:=ja1 hjl;have hn:=h.pps.2 c hmm;by_cases q1:12<c.fls.length
  ·have:(r.pps.any fun p=>decide (12<p.fls.length))=true:=List.any_eq_true.2 ⟨c,hmm,decide_eq_true q1⟩;rw[this];exact ze
  ·refine runW hx ?_;exact round (j+1) ⟨hjl,jae hall hx (decide_eq_false q1)⟩ om
 have hp0:(r.pps.any fun p=>decide (12<p.fls.length))=false:=List.any_eq_false.2 fun x hx=>by rw[jcq hall hjl x hx]; decide
 rw[hp0,show (!false && fewCh r.crs)=fewCh r.crs from by cases fewCh r.crs <;> rfl];refine rc hC ?_;exact za
structure Few14 (r:Rgs):Prop where
 g:fewG r=true
 crs:r.crs.length<=8
 pps:r.pps.length<=8
 aps:r.aps.length<=20
 cks:r.cks.length<=37
 fls:∀p∈r.pps,p.fls.length<=12
 crt:∀c∈r.crs,c.fls.length<=257/\c.bef.length<=100/\c.dig.length<=100
theorem few14_of {r:Rgs} (h:few14 r=true):Few14 r:=by
 unfold few14 at h;simp only[Bool.and_eq_true,Bool.not_eq_true'] at h;obtain ⟨⟨⟨⟨h1,h2⟩,-⟩,h4⟩,h5⟩:=h;unfold manyK at h2;simp only[Bool.or_eq_false_iff,Bool.and_eq_false_iff,decide_eq_false_iff_not] at h2;unfold fewCh at h5;simp only[Bool.and_eq_true,Bool.not_eq_true'] at h5;have hg:=h1;unfold fewG fewG0 at hg;simp only[Bool.and_eq_true,Bool.not_eq_true',decide_eq_false_iff_not] at hg;refine ⟨h1,om,om,om,om,fun p hp=> ?_,fun c hc=> ?_⟩
 ·have:=List.any_eq_false.1 h4 p hp;simp at this;omega
 ·have:=List.any_eq_false.1 h5.2 c hc;unfold bigC at this;simp at this;omega
theorem prp_row {l:List Prp} {k:Nat} {p:Prp} (h:l[k]? = some p) (d:Int):((l.map Prp.cs).flatten).take (k*5+4)++[vi d]++((l.map Prp.cs).flatten).drop (k*5+4+1)=((l.set k { p with wdr:=d }).map Prp.cs).flatten:=by
 obtain ⟨A,B,h1,h2,h3⟩:=row_at (cs:=Prp.cs) (z:=5) (fun _=>rfl) h;rw[h3,h1,<- h2,Nat.add_assoc,List.take_length_add_append,List.drop_length_add_append];simp
theorem wdrP_set {l:List Prp} {k:Nat} {p:Prp} (h:l[k]? = some p) (d:Int):wdrP l k d=l.set k { p with wdr:=d } := by unfold wdrP; rw[h]
theorem jn0 {r:Rgs} (k:Nat) (d:Int):(wdrG r k d).pps.length=r.pps.length:=by
 show (wdrP r.pps k d).length=_
 unfold wdrP;split
 ·rw[List.length_set]
 ·rfl
abbrev gr147:List Gent:=⟨bz 9 0,9,.one 0 0⟩::⟨bz 9 1,8,.ld 4 0⟩::⟨bz 9 17,7,.ld 5 0⟩::⟨bz 9 49,6,.alt [(1,0)]⟩::⟨bz 9 51,5,.one 2 0⟩::⟨bz 9 55,4,.alt [(3,0)]⟩::⟨bz 9 63,3,.one 6 0⟩::⟨bz 9 127,2,.one 7 0⟩::⟨bz 9 255,1,.alt [(8,0)]⟩::⟨bz 9 511,0,.fin⟩::[]
set_option maxHeartbeats 8000000 in
theorem denV_w (r:Rgs) {k:Nat} {p:Prp} (hx:r.pps[k]? = some p) (d:Int) (s:Option (Nat×Nat)) (hs:okB r.pps.length s) (_hb:r.pps.length<=1048576):DenV prog T 59 [(999000,.var (cs_q r s))] 999050 (row_q r s) [.p 999000 0,.v (.row [vi d]),.v (.row [vi k])] (PostC (wdrG r k d)):=by
 have hlt:=(gsi.1 hx).1;rcases s with _ | ⟨b,c⟩
 ·have:r.pps.length=0:=hs;omega
 obtain ⟨hc1,hc2⟩:r.pps.length<=c/\c<=maxLen:=hs;have hw:=jc4 (cs:=Prp.cs) (z:=5) (fun _=>rfl) r.pps;have hset:=prp_row hx d;refine ji7 follows (fun args w=>call59 args w) func59 rfl 12 rfl rfl ?_ (fun _ _ _ h=>jl9 h)
 show aw _ _ _ (St.mk 12 [(0,.p 999000 0),(1,.v (.row [vi d])),(2,.v (.row [vi k]))] [(999000,.var [ofcs r.ofs,jad r.pls,fils r.fls,ruls r.rls,hlds r.hls,clks r.cks,sels r.sls,.val (.slice (some ⟨b,0,none⟩) r.pps.length c),apvs r.aps,crts r.crs,deps r.dps,vi r.chg]),(999050,.var (r.pps.map Prp.cs).flatten (some b) (some (49,5,c)))] []) _
 refine jfg (ji0 .nm (fun _:Unit=>True) (fun _=>⟨12,[],[(999000,Blk.var [ofcs r.ofs,jad r.pls,fils r.fls,ruls r.rls,hlds r.hls,clks r.cks,sels r.sls,.val (.slice (some ⟨b,0,none⟩) r.pps.length c),apvs r.aps,crts r.crs,deps r.dps,vi r.chg]),(999050,Blk.var ((wdrG r k d).pps.map Prp.cs).flatten (some b) (some (49,5,c)))],[]⟩) ?_) ?_
 ·intro E hE;obtain ⟨W,hW⟩:∃W,(r.pps.map Prp.cs).flatten=W:=⟨_,rfl⟩
  have hset':W.take (k*5+4)++[vi d]++W.drop (k*5+4+1)=((wdrG r k d).pps.map Prp.cs).flatten:=by
   rw[<- hW,hset]
   show _=((wdrP r.pps k d).map Prp.cs).flatten
   rw[wdrP_set hx]
  obtain ⟨W2,hW2⟩:∃W2,((wdrG r k d).pps.map Prp.cs).flatten=W2:=⟨_,rfl⟩;rw[hW2] at hset' hE;simp only[hW] at hw ⊢;refine runD (ai hw ja2) ?_;refine jat gr147 ?_;refine jab (ai hset' (ai hw ja2)) ?_
  try simp only[and_self,and_self_left,and_self_right,jag,jai]
  repeat' (with_reducible refine ai ?_ ?_)
  all_goals refine hE () _ trivial ?_
  all_goals exact jak [] [] rfl rfl rfl (fun _ _ e=>e) rfl
 ·rintro M F0 w0 F ρ st a w e X ⟨rfl,_,_,hs⟩;have hch:=jji (cs:=Prp.cs) (z:=5) (fun _=>rfl) (wdrG r k d).pps;rw[jn0] at hch;obtain ⟨F',X⟩:=jjv (k:=999050) (id:=999000) (j:=7) (n:=r.pps.length) (size:=5) (hs _ _ _ _ _ _ _ X) rfl rfl dc rfl hc1 hc2 (by rw[jc4 (cs:=Prp.cs) (z:=5) (fun _=>rfl),jn0]; exact Nat.le_refl _);simp only[fcSt] at X;rw[hch] at X;exact ⟨F',ρ,_,X,finVc (i:=999050) rfl rfl⟩
theorem fit_wdrG {r:Rgs} (h:r.Fit) (k:Nat) (d:Int):(wdrG r k d).Fit:=
  { ofs:=h.ofs,pls:=h.pls,fls:=h.fls,rls:=h.rls,hls:=h.hls,cks:=h.cks,sls:=h.sls,aps:=h.aps,crs:=h.crs,dps:=h.dps
    pps:=⟨by rw[jn0]; exact h.pps.1,fun q hq=>by
      have hq:q∈wdrP r.pps k d:=hq;unfold wdrP at hq;split at hq
      · rename_i p hp;rcases List.mem_or_eq_of_mem_set hq with hq | rfl
        · exact h.pps.2 q hq
        · exact h.pps.2 p (List.mem_of_getElem? hp)
      · exact h.pps.2 q hq⟩ }
theorem den_changed_w (L:LibT T) (r:Rgs) (h:r.Fit) {k:Nat} {p:Prp} (hx:r.pps[k]? = some p) (d:Int):Den prog T 49 [.agg r.cs,.func 59 [.row [vi d],.row [vi k]]] (.tup [.agg (chgd (wdrG r k d)).1.cs,vi (chgd (wdrG r k d)).2]):=by
 refine jnp L r _ h (fit_wdrG h k d) _ _ _ (jr1 r h) ?_;rintro ro v ⟨s,hs,rfl,rfl⟩;refine ⟨fun i=>(cs_q r s).getD i (vi 0),rfl,fun i=> ?_,fun b hb=> ?_,denV_w r hx d s hs h.pps.1⟩
 ·match i with
  | 0 | 1 | 2 | 3 | 4 | 5 | 6 | 7 | 8 | 9 | 10 | 11=>first | rfl | (cases s <;> rfl)
  | i+12=>rfl
 ·cases s with
  | none=>cases hb
  | some z=>cases hb; exact ⟨rfl,_,rfl⟩
theorem den_lateA (n d:Int) (a:Apv):Den prog T 58 [.agg a.cs,.row [vi n],.row [vi d]] (vb (jcz n d a)):=by
 refine ja0 call58 func58 15 ?_;unfold jcz;by_cases h1:a.prp=n
 ·by_cases h2:d<=a.day
  ·refine runW (ai (eq_true h1) (eq_true h2)) ?_;refine fin (ja3 ?_)
   first | rfl | (simp; done) | (simp[h1,h2])
  ·refine runW (ai (eq_true h1) (eq_false h2)) ?_;refine fin (ja3 ?_)
   first | rfl | (simp; done) | (simp[h1,h2])
 ·refine runW (eq_false h1) ?_;refine fin (ja3 ?_)
  first | rfl | (simp; done) | (simp[h1])
set_option maxHeartbeats 8000000 in
theorem den_Withdraw (L:LibT T) (r:Rgs) (h:r.Fit) (n d:Int):Den prog T 18 [.agg r.cs,vi n,vi d] (.tup [.agg (wdrR r n d).1.cs,vi (wdrR r n d).2]):=by
 have hck:=ji8 L r h;have hfd:=jl3 (T:=T) r h n;have hpl:=h.pps.1;have hce:=jqn (T:=T) r h n;have hla:=den_anyApv (T:=T) r.aps 58 [.row [vi n],.row [vi d]] (jcz n d) h.aps (fun a _=>den_lateA n d a)
 have bad:∀e,wdrE r n d=e->e≠0->wdrR r n d=(jbn,e):=fun e h1 h2=>by
  unfold wdrR;rw[if_pos (by rw[h1]; exact h2),h1]
 rcases jee (jar n) r.pps with ⟨h1,h2⟩ | ⟨k,p,h1,hk,hx,hpm,h2⟩
 ·have h1:jcm r.pps n= -1:=h1;rw[h1] at hfd;refine ja0 call18 func18 57 ?_;refine rc hfd ?_;refine rc hck ?_;by_cases hz:jas r=0
  ·rw[bad 7 (by unfold wdrE; rw[if_neg (fun e=>e hz),h2]) dc];refine runW hz ?_;exact zbx
  ·exact zbv
 ·have h1:jcm r.pps n=(k:Int):=h1;rw[h1] at hfd;have hch:=den_changed_w L r h hx d;have hin:=jhl (T:=T) d p.day 1048575;refine ja0 call18 func18 57 ?_;refine rc hfd ?_;refine rc hck ?_;by_cases hz:jas r=0
  ·have hE:wdrE r n d=if d<p.day\/1048575<d then 2 else if p.wdr≠1048576\/jd0 r.crs n=true\/r.aps.any (jcz n d)=true then 11 else 0:=by
    unfold wdrE;rw[if_neg (fun e=>e hz),h2]
   refine rcW (ai hz hx) hin ?_;by_cases hd:d<p.day\/1048575<d
   ·have hb:(decide (p.day<=d) && decide (d<=1048575))=false:=by
     rcases hd with hd | hd
     ·rw[decide_eq_false om,Bool.false_and]
     ·rw[show decide (d<=1048575)=false from decide_eq_false om,Bool.and_false]
    rw[hb,bad 2 (by rw[hE,if_pos hd]) dc];exact zdq
   have hb:(decide (p.day<=d) && decide (d<=1048575))=true:=by rw[decide_eq_true om,decide_eq_true om]; rfl
   rw[if_neg hd] at hE;rw[hb];by_cases hw:p.wdr=1048576
   ·refine rcW (ai hx (eq_true hw)) hce ?_;cases hc:jd0 r.crs n
    ·refine rcW trivial hla ?_;cases ha:r.aps.any (jcz n d)
     ·have hE0:wdrE r n d=0:=by rw[hE,if_neg (by rintro (e | e | e); exact e hw; rw[hc] at e; cases e; rw[ha] at e; cases e)]
      have hok:jas (wdrG r k d)=0:=by
       have:=wdr_ok hE0;rw[h1] at this;exact jla.2 this
      have e:chgd (wdrG r k d)=(wdrG r k d,0):=by unfold chgd; rw[if_neg (fun e=>e hok)]
      have e2:wdrR r n d=(wdrG r k d,0):=by unfold wdrR; rw[if_neg (fun e=>e hE0),h1]; rfl
      rw[e] at hch;rw[e2];refine rcW trivial hch ?_;exact za
     ·rw[bad 11 (by rw[hE,if_pos (.inr (.inr ha))]) dc];exact zdq
    ·rw[bad 11 (by rw[hE,if_pos (.inr (.inl hc))]) dc];exact zdq
   ·exact zdc
  ·exact zbv
end Go.Arc
