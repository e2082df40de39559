/- A part of this claim. -/
import Derived.Test.YtdljpbdmcgmalaaGreatDoorBaS
import Derived.Test.YtdljpbdmcgmalaaGreatDoorBaT
set_option maxRecDepth 100000
namespace Go.Arc
open Go.Ab Go.RowKit Go.Proofs Tryz
variable {T : Lay}
theorem inS_two (f u d:Int):inS f u d=(decide (f<=d) && decide (d<u)):=by simp[inS]
theorem den_inO (o:Ofc) (d:Int):Den prog T 383 [.agg o.cs,vi d] (vb (inS o.frm o.til d)):=by
 refine ja0 call383 func383 17 ?_;rw[inS_two];by_cases h1:o.frm<=d
 ·refine run ?_;exact fin (ja3 (by first | rfl | simp[h1]))
 ·refine run ?_;exact fin (ja3 (by first | rfl | simp[h1]))
abbrev knownV (l:List Ofc) (n:Int):V:=if jca l=true/\(jaf l n).isSome=true then .tup [mapO (idxO l),vb true] else .tup [.val (.map none),vb false]
theorem den_known (L:LibC T) (l:List Ofc) (n:Int) (hl:jdw l):Den prog T 382 [ofcs l,vi n] (knownV l n):=by
 have hl0:=hl.1;refine ja0 call382 func382 23 ?_;refine rc (jp2 L l hl) ?_;by_cases g1:(jcv l).2=0
 ·have go:jca l=true:=by simp[jca,g1]
  refine rc (den_FindO l n hl0) ?_;rcases jkj l n with ⟨h1,h2⟩ | ⟨i,q,h1,h2,h3⟩
  ·rw[knownV,if_neg (by simp[h2])];exact za
  ·rw[knownV,if_pos ⟨go,by simp[h3]⟩,h1];refine rc (den_index l hl0) ?_;exact za
 ·have go:jca l=false:=by simp[jca,g1]
  rw[knownV,if_neg (by simp[go])];exact za
theorem den_Chain (L:LibC T) (l:List Ofc) (n d:Int) (hl:jdw l):DenO prog T 363 [ofcs l,vi n,vi d] 3 (ints (chain l n d)):=by
 have hl0:=hl.1;refine jhk call363 func363 44 ?_;refine rc (den_known L l n hl) ?_;by_cases hk:jca l=true/\(jaf l n).isSome=true
 ·obtain ⟨hg,hs⟩:=hk;rw[knownV,if_pos ⟨hg,hs⟩];obtain ⟨o0,ho0⟩:=Option.isSome_iff_exists.1 hs;rw[chain_some hg ho0];have hz:=jlv (jf8 (idxO l));have hf0:=jjf n (idxO l);rw[jn8,ho0] at hf0;refine runW (ai hz (ai hf0 (ai jiv jiw))) ?_;have hg0:=goodO_look hg ho0
  refine loop ⟨[2,7,9,10],[10],[9],[(9,3,1)]⟩ (fun y:Nat×List Int×Ofc=>(∃k,jaf l k=some y.2.2)/\y.2.1.length+y.1=1048577/\1048577<=(y.1:Int)+y.2.2.frm/\y.2.1++chainF l d y.1 y.2.2=chainF l d 1048577 o0) (fun y=>y.1)
   (fun y=>⟨44,[(2,.v (vi d)),(7,.v (mapO (idxO l))),(9,.v (ints y.2.1)),(10,.p 10 0)],[(10,.var y.2.2.cs)],[(3,[9])]⟩) (1048577,[],o0) ⟨⟨n,ho0⟩,sm,by simp only; omega,sm⟩ ?_
  rintro ⟨m,out,o⟩ ⟨⟨k,hko⟩,hlen,hm,hch⟩;simp only at hko hlen hm hch;obtain ⟨q1,q2,q3,q4⟩:=goodO_look hg hko;have hap:out.map Cint++[[V.val (.int .i64 o.id)]]=(out++[o.id]).map Cint:=by simp
  refine rcW hap (den_inO o d) ?_;cases hin:inS o.frm o.til d
  ·obtain ⟨nx,hnx⟩:∃nx,o.nxt=nx:=⟨_,rfl⟩;cases nx with
   | nil=>
    rw[chainF_end m (nextO_nil hnx)] at hch;refine runW hnx ?_;refine finO (.of ?_);rw[<- hch]
   | cons x r=>
    obtain ⟨q,hq,hqf⟩:=q4 x (by rw[hnx]; simp);have hno:je4 l d o=some q:=by rw[nextO_cons hin hnx]; exact hq
    obtain ⟨m',rfl⟩:∃m',m=m'+1:=⟨m-1,om⟩;rw[chainF_next m' hno] at hch;have hf:=jjf x (idxO l);rw[jn8,hq] at hf;refine runW (ai hnx (ai hz (ai hf (ai jiv jiw)))) ?_;refine round (m',out++[o.id],q) ⟨⟨x,hq⟩,by simp only[List.length_append,List.length_cons,List.length_nil]; omega,by simp only; omega,?_⟩ zeh;simp only; rw[<- hch]; simp
  ·rw[chainF_end m (nextO_in hin)] at hch;refine run ?_;refine finO (.of ?_);rw[<- hch]
 ·rw[knownV,if_neg hk]
  have hc:chain l n d=[]:=by
   cases hg:jca l
   ·exact chain_bad hg
   ·cases hs:jaf l n with
    | none=>exact chain_none hs
    | some q=>exact absurd ⟨hg,by simp[hs]⟩ hk
  rw[hc];refine run ?_;exact finO (.nil 1)
theorem den_isIDH (n:Int):Den prog T 279 [vi n] (vb (idB n)):=by
 refine ja0 call279 func279 9 ?_;unfold idB;by_cases h1:1<=n <;> by_cases h2:n<=1073741824 <;> (refine run ?_; refine fin (ja3 ?_); simp; try omega)
theorem den_validH (f u:Int):Den prog T 280 [span f u] (vb (jaq f u)):=by
 refine ja0 call280 func280 18 ?_;unfold jaq;by_cases h1:0<=f <;> by_cases h2:f<u <;> by_cases h3:u<=1048576 <;> (refine run ?_; refine fin (ja3 ?_); simp; try omega)
theorem ofErr_n {h:Hld} (hk:h.kind≠3):jcx h=if idB h.obj=false\/h.cls≠[] then 1 else 0:=by unfold jcx; rw[if_pos hk]
theorem ofErr_1 {h:Hld} (hk:h.kind=3) (ho:h.obj≠0):jcx h=1:=by unfold jcx; rw[if_neg (by simp[hk]),if_pos ho]
theorem ofErr_c {h:Hld} (hk:h.kind=3) (ho:h.obj=0):jcx h=if (ja6 h.cls).isNone=true then 3 else 0:=by unfold jcx; rw[if_neg (by simp[hk]),if_neg (by simp[ho])]
theorem nil_beq {s:Str} : (s == [])=decide (s=[]):=by cases s <;> rfl
theorem den_of (L:LibC T) (h:Hld) (hf:h.Fit):Den prog T 278 [.agg h.cs] (vi (jcx h)):=by
 refine ja0 call278 func278 27 ?_;by_cases hk:h.kind=3
 ·by_cases ho:h.obj=0
  ·rw[ofErr_c hk ho];refine rc (jhr L h.cls hf.1) ?_;cases hp:ja6 h.cls with
   | none=>rw[jeu hp]; refine run ?_; exact fin rfl
   | some l=>rw[jet hp]; refine run ?_; exact fin rfl
  ·rw[ofErr_1 hk ho];exact za
 ·rw[ofErr_n hk];refine rc (den_isIDH h.obj) ?_;cases hi:idB h.obj
  ·rw[if_pos (.inl rfl)];exact za
  ·cases hc:h.cls == []
   ·have hne:h.cls≠[]:=fun e=>by rw[e] at hc; cases hc
    rw[if_pos (.inr hne)];refine runW hc ?_;exact fin rfl
   ·have he:h.cls=[]:=by rw[nil_beq] at hc; simpa using hc
    rw[if_neg (by simp[he])];refine runW hc ?_;exact fin rfl
theorem jle {l:List Hld} {i:Nat} {h:Hld} (hi:l[i]? = some h) (hb:badH h):jf3 l i=2:=by simp only[jf3,hi]; rw[if_pos hb]
theorem faultH_r {l:List Hld} {i:Nat} {h:Hld} (hi:l[i]? = some h) (hb:¬badH h):jf3 l i=if prevH l i h=true then 5 else if jcx h≠0 then jcx h else if name h.why=false then 4 else 0:=by
 simp only[jf3,hi]; rw[if_neg hb]
theorem jg1 (h:Hld):badH h↔(idB h.id=false\/h.kind<1\/3<h.kind\/jaq h.frm h.til=false):=Iff.rfl
theorem jr8 {l:List Hld} {i:Nat} (hi:i<l.length) (h:Hld):(prevH l i h=true/\∃q,i≠0/\l[i-1]? = some q/\h.id<=q.id)\/(prevH l i h=false/\(i=0\/∃q,i≠0/\l[i-1]? = some q/\¬h.id<=q.id)):=by
 by_cases h0:i=0
 ·right; rw[h0]; exact ⟨prevH_0 l h,.inl rfl⟩
 ·obtain ⟨q,hq,-,-⟩:=ja1 (l:=l) (k:=i-1) om;by_cases hle:h.id<=q.id
  ·left; exact ⟨by rw[prevH_s h0 hq]; simp[hle],q,h0,hq,hle⟩
  ·right; exact ⟨by rw[prevH_s h0 hq]; simp[hle],.inr ⟨q,h0,hq,hle⟩⟩
theorem den_checkH (L:LibC T) (l:List Hld) (i:Nat) (hl:FitsH l) (hi:i<l.length):Den prog T 214 [hlds l,vi i] (vi (jf3 l i)):=by
 obtain ⟨hl0,hf⟩:=hl;obtain ⟨h,hh,-,hm⟩:=ja1 hi;have hff:=hf h hm;refine ja0 call214 func214 57 ?_;refine rcW hh (den_of L h hff) ?_;refine rc (den_isIDH h.id) ?_;cases b1:idB h.id
 ·rw[jle hh ((jg1 h).2 (.inl b1))];exact za
 by_cases b2:h.kind<1
 ·rw[jle hh ((jg1 h).2 (.inr (.inl b2)))];exact za
 by_cases b3:3<h.kind
 ·rw[jle hh ((jg1 h).2 (.inr (.inr (.inl b3))))];exact za
 refine rc (den_validH h.frm h.til) ?_;cases b4:jaq h.frm h.til
 ·rw[jle hh ((jg1 h).2 (.inr (.inr (.inr b4))))];exact za
 rw[faultH_r hh fun hb=>by
  rcases (jg1 h).1 hb with h | h | h | h
  ·rw[b1] at h; cases h
  ·exact b2 h
  ·exact b3 h
  ·rw[b4] at h; cases h]
 rcases jr8 hi h with ⟨hpv,q,h0,hq,hle⟩ | ⟨hpv,h0 | ⟨q,h0,hq,hle⟩⟩
 ·exact zbo
 all_goals
  rw[if_neg zej];by_cases he:jcx h=0
  ·rw[if_neg (by simp[he]),he]
   first
    | (subst h0; refine run ?_)
    | refine runW hq ?_
   refine call (jiq L h.why hff.2) ?_;cases name h.why
   ·exact za
   ·exact za
  ·rw[if_pos he]
   first
    | (subst h0; refine run ?_)
    | refine runW hq ?_
   exact fin rfl
theorem den_CheckH (L:LibC T) (l:List Hld) (hl:FitsH l):Den prog T 151 [hlds l] (chkV (jdt l)):=by
 have hl0:=hl.1;refine ja0 call151 func151 22 ?_;by_cases h16:64<l.length
 ·refine run ?_;refine fin ?_;simp only[chkV,jdt,jdz h16]
 refine run ?_;refine ja7 ⟨[11,0,10],[],[],[]⟩ l.length (fun k=>∀i,i<k->jf3 l i=0) om ?_;rintro k ⟨hk,hall⟩;by_cases hlt:k<l.length
 ·refine rc (den_checkH L l k hl hlt) ?_;by_cases hz:jf3 l k=0
  ·refine run ?_;refine round (k+1) ⟨om,fun i hi=> ?_⟩ om;by_cases e:i=k
   ·exact zcr
   ·exact zb2
  ·refine run ?_;refine fin ?_;simp only[chkV,jdt,jeb h16 hlt hall hz]
 ·refine run ?_;refine fin ?_;simp only[chkV,jdt,jds h16 fun i hi=>hall i om]
theorem den_numbersH (h:Hld):Den prog T 172 [.agg h.cs] (vi (if badH h then 2 else 0)):=by
 refine ja0 call172 func172 27 ?_;by_cases a1:h.id<1
 ·rw[if_pos ((jg1 h).2 (.inl (by simp[idB]; omega)))];exact za
 by_cases a2:1073741824<h.id
 ·rw[if_pos ((jg1 h).2 (.inl (by simp[idB]; omega)))];exact za
 by_cases b2:h.kind<1
 ·rw[if_pos ((jg1 h).2 (.inr (.inl b2)))];exact za
 by_cases b3:3<h.kind
 ·rw[if_pos ((jg1 h).2 (.inr (.inr (.inl b3))))];exact za
 refine rc (jkn h.frm h.til) ?_;cases b4:jaq h.frm h.til
 ·rw[if_pos ((jg1 h).2 (.inr (.inr (.inr b4))))];exact za
 ·rw[if_neg fun hb=>by
   rcases (jg1 h).1 hb with h | h | h | h
   ·simp[idB] at h; omega
   ·exact b2 h
   ·exact b3 h
   ·rw[b4] at h; cases h]
  exact za
theorem sc_e {h:Hld} {e:Int} (he:jcx h=e) (hne:e≠0):(if jcx h≠0 then jcx h else if name h.why=false then 4 else 0)=e:=by rw[if_pos zfa,he]
theorem sc_z {h:Hld} (he:jcx h=0):(if jcx h≠0 then jcx h else if name h.why=false then 4 else 0)=if name h.why=false then (4:Int) else 0:=by rw[if_neg (by simp[he])]
theorem den_scope (h:Hld) (hf:h.Fit):Den prog T 173 [.agg h.cs] (vi (if jcx h≠0 then jcx h else if name h.why=false then 4 else 0)):=by
 refine ja0 call173 func173 44 ?_;by_cases hk:h.kind=3
 ·by_cases ho:h.obj=0
  ·have hc:=ofErr_c hk ho;refine rc (jo4 h.cls hf.1) ?_;cases hp:ja6 h.cls with
   | none=>
    rw[hp] at hc;rw[sc_e (e:=3) (by rw[hc]; rfl) dc];exact za
   | some l=>
    rw[hp] at hc;rw[sc_z (by rw[hc]; rfl)];refine rc (jhm h.why hf.2) ?_;cases name h.why
    ·exact za
    ·exact za
  ·rw[sc_e (ofErr_1 hk ho) dc];exact za
 ·have hn:=ofErr_n hk;by_cases a1:h.obj<1
  ·exact zda
  by_cases a2:1073741824<h.obj
  ·exact zda
  have hi:idB h.obj=true:=by simp[idB]; omega
  cases hc:h.cls == []
  ·have hne:h.cls≠[]:=fun e=>by rw[e] at hc; cases hc
   rw[if_pos (.inr hne)] at hn;rw[sc_e hn dc];refine runW hc ?_;exact fin rfl
  ·have he:h.cls=[]:=by rw[nil_beq] at hc; simpa using hc
   rw[if_neg (show ¬(idB h.obj=false\/h.cls≠[]) by simp[he,hi])] at hn;rw[sc_z hn];refine rcW hc (jhm h.why hf.2) ?_;cases name h.why
   ·exact za
   ·exact za
set_option maxHeartbeats 1000000 in
theorem den_CheckHRef (l:List Hld) (hl:FitsH l):Den prog T 108 [hlds l] (chkV (jdt l)):=by
 have hl0:=hl.1;refine ja0 call108 func108 51 ?_;by_cases h16:64<l.length
 ·refine run ?_;refine fin ?_;simp only[chkV,jdt,jdz h16]
 refine run ?_;refine ja7 ⟨[4,0],[],[],[]⟩ l.length (fun k=>∀i,i<k->jf3 l i=0) om ?_;rintro k ⟨hk,hall⟩;by_cases hlt:k<l.length
 ·obtain ⟨h,hh,-,hm⟩:=ja1 hlt;have hff:=hl.2 h hm
  have out:∀e:Int,jf3 l k=e->e≠0->chkV (jdt l)= .tup [vi k,vi e]:=fun e he hne=>by
   rw[jdt,jeb h16 hlt hall zfa,he]
  have nxt:jf3 l k=0->∀i,i<k+1->jf3 l i=0:=fun hz i hi=>by
   by_cases e:i=k
   ·exact zcr
   ·exact zb2
  refine rcW hh (den_numbersH h) ?_;by_cases hb:badH h
  ·rw[if_pos hb,out 2 (jle hh hb) dc];exact za
  ·rw[if_neg hb];have hr:=faultH_r hh hb;rcases jr8 hlt h with ⟨hpv,q,h0,hq,hle⟩ | ⟨hpv,h0 | ⟨q,h0,hq,hle⟩⟩
   ·exact zd4
   all_goals
    rw[if_neg zej] at hr
    first
     | refine runW (ai hh hq) ?_
     | refine runW hh ?_
    refine call (den_scope h hff) ?_;rw[<- hr];by_cases hz:jf3 l k=0
    ·first
      | (refine run ?_; exact round (k+1) ⟨om,nxt hz⟩ om)
    ·rw[out _ rfl hz];exact za
 ·refine run ?_;refine fin ?_;simp only[chkV,jdt,jds h16 fun i hi=>hall i om]
theorem covers_out {os:List Ofc} {ps:List Plan} {h:Hld} {f:Fil} {d:Int} (hi:inS h.frm h.til d=false):jhh os ps h f d=false:=by simp[jhh,hi]
theorem covers_in {os:List Ofc} {ps:List Plan} {h:Hld} {f:Fil} {d:Int} (hi:inS h.frm h.til d=true):jhh os ps h f d=jgb os ps h f d:=by simp[jhh,hi]
theorem kindB_1 {os:List Ofc} {ps:List Plan} {h:Hld} {f:Fil} {d:Int} (hk:h.kind=1):jgb os ps h f d=decide (h.obj=f.id):=by simp[jgb,hk]
theorem kindB_2 {os:List Ofc} {ps:List Plan} {h:Hld} {f:Fil} {d:Int} (hk:h.kind=2):jgb os ps h f d=(chain os f.ofc d).any (fun y=>decide (h.obj=y)):=by simp[jgb,hk]
theorem kindB_3 {os:List Ofc} {ps:List Plan} {h:Hld} {f:Fil} {d:Int} (hk:h.kind=3):jgb os ps h f d=(decide ((jb4 ps f d).2=0) && jc5 (jb4 ps f d).1 h.cls):=by simp[jgb,hk]
theorem kindB_0 {os:List Ofc} {ps:List Plan} {h:Hld} {f:Fil} {d:Int} (h1:h.kind≠1) (h2:h.kind≠2) (h3:h.kind≠3):jgb os ps h f d=false:=by simp[jgb,h1,h2,h3]
theorem chain_len (os:List Ofc) (n d:Int):(chain os n d).length<=1048578:=by
 unfold chain;split
 ·simp
 ·split
  ·simp
  ·exact chainF_len os d 1048577 _
theorem classR_len {l:List Plan} (hl:Fits l) {f:Fil} (hf:f.Fit) (d:Int):(jb4 l f d).1.length<=1048576:=by
 unfold jb4;split
 ·simp
 ·split
  ·simp
  ·split
   ·simp
   ·exact walkN_len hl _ _ _ hf.1
theorem den_hasInt2 (l:List Int) (x:Int) (hl:l.length<=1048578):Den prog T 71 [ints l,vi x] (vb (l.any fun y=>decide (x=y))):=by
 have h0:Den prog T 128 [ints l,vi x] (vi (ix (fun y=>decide (x=y)) l)):=by
  refine ja0 call128 func128 19 ?_;refine run ?_;refine ja7 ⟨[8,0,1,7],[],[],[]⟩ l.length (fun k=>∀n∈l.take k,decide (x=n)=false) sm ?_;rintro k ⟨hk,hall⟩;by_cases hlt:k<l.length
  ·obtain ⟨y,hy,-,-⟩:=ja1 hlt;by_cases hxy:x=y
   ·exact zdi
   ·exact zci
  ·refine run ?_;exact fin (ja5 (jgv (p:=fun n=>decide (x=n)) hall hlt))
 refine ja0 call71 func71 9 ?_;refine rc h0 ?_;exact zbk
theorem den_Cov1 (h:Hld) (f:Fil):Den prog T 361 [.row h.cs,.row f.cs] (vb (decide (h.obj=f.id))):=by
 refine ja0 call361 func361 8 ?_;exact za
theorem den_Cov2 (L:LibC T) (os:List Ofc) (h:Hld) (f:Fil) (d:Int) (ho:jdw os):Den prog T 362 [.row [ofcs os],.row f.cs,.row [vi d],.row h.cs] (vb ((chain os f.ofc d).any fun y=>decide (h.obj=y))):=by
 refine ja0 call362 func362 13 ?_;refine rc (den_Chain L os f.ofc d ho).den ?_;refine rc (den_hasInt2 _ h.obj (chain_len os f.ofc d)) ?_;exact za
theorem den_Cov3 (L:LibC T) (ps:List Plan) (h:Hld) (f:Fil) (d:Int) (hp:Fits ps) (hf:f.Fit) (hh:h.Fit):Den prog T 364 [.row [jad ps],.row f.cs,.row [vi d],.row h.cs] (vb (decide ((jb4 ps f d).2=0) && jc5 (jb4 ps f d).1 h.cls)):=by
 have hcl:=classR_len hp hf d;refine ja0 call364 func364 22 ?_;refine rc (den_Class L ps f d hp hf) ?_;by_cases hz:(jb4 ps f d).2=0
 ·refine rc (jp1 L _ h.cls hcl hh.1) ?_;refine run ?_;refine fin (ja3 ?_)
  first | rfl | (simp[hz]; done) | trace_state
 ·refine run ?_;refine fin (ja3 ?_)
  first | rfl | (simp[hz]; done) | trace_state
theorem den_Covers (L:LibC T) (os:List Ofc) (ps:List Plan) (h:Hld) (f:Fil) (d:Int) (ho:jdw os) (hp:Fits ps) (hh:h.Fit) (hf:f.Fit):
  Den prog T 312 [ofcs os,jad ps,.agg h.cs,.agg f.cs,vi d] (vb (jhh os ps h f d)):=by
 refine ja0 call312 func312 43 ?_;by_cases h1:d<h.frm
 ·rw[covers_out (by simp[inS]; omega)];exact za
 by_cases h2:h.til<=d
 ·rw[covers_out (by simp[inS]; omega)];exact za
 rw[covers_in (by simp[inS]; omega)];by_cases k0:h.kind<=0
 ·rw[kindB_0 om om om];exact za
 by_cases k4:4<=h.kind
 ·rw[kindB_0 om om om];exact za
 by_cases k1:h.kind=1
 ·rw[kindB_1 k1];refine rcW k1 (den_Cov1 h f) ?_;exact za
 by_cases k2:h.kind=2
 ·rw[kindB_2 k2];refine rcW k2 (den_Cov2 L os h f d ho) ?_;exact za
 have k3:h.kind=3:=om
 rw[kindB_3 k3];refine rcW k3 (den_Cov3 L ps h f d hp hf hh) ?_;exact za
theorem hold_snoc (os:List Ofc) (ps:List Plan) (f:Fil) (d:Int) {l:List Hld} {k:Nat} {h:Hld} (hk:l[k]? = some h):
  jch os ps (l.take (k+1)) f d=jch os ps (l.take k) f d++(if jhh os ps h f d=true then [h.id] else []):=by
 unfold jch;rw[List.take_add_one,hk];simp only[Option.toList_some,List.filter_append,List.map_append,List.filter_cons,List.filter_nil];split <;> rfl
theorem den_Holding (L:LibC T) (os:List Ofc) (ps:List Plan) (l:List Hld) (f:Fil) (d:Int) (ho:jdw os) (hp:Fits ps) (hl:FitsH l) (hf:f.Fit):
  DenO prog T 256 [ofcs os,jad ps,hlds l,.agg f.cs,vi d] 3 (ints (jch os ps l f d)):=by
 have hl0:=hl.1;refine jhk call256 func256 33 ?_;refine run ?_
 refine loop ⟨[0,1,4,8,11,14,15,16],[8],[11],[(11,3,1)]⟩ (fun y:Nat×List Int=>y.1<=l.length/\y.2.length<=y.1/\y.2=jch os ps (l.take y.1) f d) (fun y=>l.length-y.1)
  (fun y=>⟨33,[(0,.v (ofcs os)),(1,.v (jad ps)),(4,.v (vi d)),(8,.p 8 0),(11,.v (ints y.2)),(14,.v (hlds l)),(15,.v (vi l.length)),(16,.v (vi y.1))],[(8,.var f.cs)],[(3,[11])]⟩) (0,[]) ⟨om,sm,by simp[jch]⟩ ?_
 rintro ⟨k,out⟩ ⟨hk,hlen,ho'⟩;simp only at hk hlen ho';by_cases hlt:k<l.length
 ·obtain ⟨h,hh,-,hm⟩:=ja1 hlt;have hsn:=hold_snoc os ps f d hh;rw[<- ho'] at hsn;refine rcW hh (den_Covers L os ps h f d ho hp (hl.2 h hm) hf) ?_;cases hc:jhh os ps h f d
  ·rw[hc] at hsn;refine run ?_;exact round (k+1,out) ⟨by simp only; omega,by simp only; omega,by simp only; rw[hsn]; simp⟩ zeh
  ·rw[hc] at hsn;have hap:out.map Cint++[[V.val (.int .i64 h.id)]]=(out++[h.id]).map Cint:=by simp
   refine runW hap ?_;exact round (k+1,out++[h.id]) ⟨by simp only; omega,by simp; omega,by simp only; rw[hsn]; simp⟩ zeh
 ·refine run ?_;refine finO (.of ?_);rw[ho',List.take_of_length_le om]
theorem den_eqInts (a b:List Int) (ha:a.length<=1048576):Den prog T 102 [ints a,ints b] (vb (decide (a=b))):=by
 refine ja0 call102 func102 26 ?_;by_cases hl:a.length=b.length
 ·refine run ?_;refine ja7 ⟨[13,0,1,12],[],[],[]⟩ a.length (fun k=>(a=b↔a.drop k=b.drop k)) sm ?_;rintro k ⟨hk,hall⟩;by_cases hlt:k<a.length
  ·obtain ⟨x,hx,hd,-⟩:=ja1 hlt;obtain ⟨y,hy,he,-⟩:=ja1 (l:=b) (k:=k) om;by_cases hxy:x=y
   ·exact zbb
   ·refine runW (ai hx hy) ?_;refine fin (ja3 ?_)
    symm
    exact zcx
  ·refine run ?_;refine fin (ja3 ?_)
   symm; rw[decide_eq_true_iff,hall,jc2 hlt,jc2 (l:=b) om]
 ·refine run ?_;refine fin (ja3 ?_)
  exact zb7
theorem jk7 (a b:List Int) (ha:a.length<=1048576):Den prog T 117 [ints a,ints b] (vb (decide (a=b))):=by
 refine ja0 call117 func117 26 ?_;by_cases hl:a.length=b.length
 ·refine run ?_;refine ja7 ⟨[5,0,1],[],[],[]⟩ a.length (fun k=>(a=b↔a.drop k=b.drop k)) sm ?_;rintro k ⟨hk,hall⟩;by_cases hlt:k<a.length
  ·obtain ⟨x,hx,hd,-⟩:=ja1 hlt;obtain ⟨y,hy,he,-⟩:=ja1 (l:=b) (k:=k) om;by_cases hxy:x=y
   ·exact zbb
   ·refine runW (ai hx hy) ?_;refine fin (ja3 ?_)
    symm
    exact zcx
  ·refine run ?_;refine fin (ja3 ?_)
   symm; rw[decide_eq_true_iff,hall,jc2 hlt,jc2 (l:=b) om]
 ·refine run ?_;refine fin (ja3 ?_)
  exact zb7
def fewH1 (h:Hld):Bool:= !(decide (100<h.cls.length) || decide (100<h.why.length))
def fewH (l:List Hld):Bool:= !((decide (12<l.length) && decide (l.length<=64)) || decide (69<l.length)) && l.all fewH1
theorem den_FewH2 (l:List Hld) (hl0:l.length<=2097152) (hl:∀h∈l,h.Fit):Den prog T 82 [hlds l] (vb (fewH l)):=by
 refine ja0 call82 func82 39 ?_;by_cases g:(12<l.length/\l.length<=64)\/69<l.length
 ·have hf:fewH l=false:=by
   rcases g with ⟨g1,g2⟩ | g
   ·simp[fewH,g1,g2]
   ·simp[fewH,g]
  rw[hf];by_cases a1:l.length<=64
  ·have a2:12<l.length:=om
   exact za
  ·have a2:12<l.length:=om
   have a3:69<l.length:=om
   exact za
 ·have hq:fewH l=l.all fewH1:=by
   have e1:(decide (12<l.length) && decide (l.length<=64))=false:=by
    cases e:decide (12<l.length)
    ·rfl
    ·have:12<l.length:=by simpa using e
     simp; omega
   have e2:decide (69<l.length)=false:=by simp; omega
   simp only[fewH,e1,e2,Bool.or_false,Bool.not_false,Bool.true_and]
  have go:∀Q:Prop,(12<l.length->¬l.length<=64->Q)->(¬ 12<l.length->Q)->Q:=fun Q a b=>by
   by_cases a1:12<l.length
   ·exact a a1 om
   ·exact b a1
  rw[hq];have a3:¬ 69<l.length:=om
  refine go _ (fun a1 a2=> ?_) (fun a1=> ?_) <;>
  ·refine run ?_;refine ja7 ⟨[3,0],[],[],[]⟩ l.length (fun k=>∀p∈l.take k,fewH1 p=true) sm ?_;rintro k ⟨hk,hall⟩;by_cases hlt:k<l.length
   ·obtain ⟨x,hx,hd,hm⟩:=ja1 hlt;obtain ⟨f1,f2⟩:=hl x hm;by_cases g1:100<x.cls.length
    ·refine runW hx ?_;refine fin (ja3 ?_);rw[jej hx (by simp[fewH1,g1])]
    by_cases g2:100<x.why.length
    ·refine runW hx ?_;refine fin (ja3 ?_);rw[jej hx (by simp[fewH1,g2])]
    refine runW hx ?_;exact round (k+1) ⟨om,jae (q:=fun p:Hld=>fewH1 p=true) hall hx (by simp[fewH1,g1,g2])⟩ om
   ·refine run ?_;refine fin (ja3 ?_);rw[jj2 hall hlt]
theorem den_FewH (l:List Hld) (hl:FitsH l):Den prog T 82 [hlds l] (vb (fewH l)):=den_FewH2 l (Nat.le_trans hl.1 dc) hl.2
theorem den_SameH (a:List Hld) (ha:a.length<=1048576):Den prog T 66 [hlds a,hlds a] (vb true):=by
 refine ja0 call66 func66 26 ?_;refine run ?_;refine jb6 ⟨[5,0,1],[],[],[]⟩ (fun k:Nat=>k<=a.length) (fun k=>a.length-k) (fun k=>[(5,.v (vi k))]) 0 om ?_;intro k hk;by_cases hlt:k<a.length
 ·obtain ⟨x,hx,hd,-⟩:=ja1 hlt;refine runW hx ?_;exact zx
 ·exact za
end Go.Arc
