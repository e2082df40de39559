/- A part of this claim. -/
import Derived.Test.YtnmclbgpndpedaaGreatDoorBaS
import Derived.Test.YtnmclbgpndpedaaGreatDoorBaT
set_option maxRecDepth 100000
namespace Go.Arc
open Go.Ab Go.RowKit Go.Proofs Tryz
variable {T : Lay}
theorem inS_two (f u d:Int):inS f u d=(decide (f<=d) && decide (d<u)):=by simp[inS]
theorem den_inO (o:Ofc) (d:Int):Den prog T 256 [.agg o.cs,vi d] (vb (inS o.frm o.til d)):=by
 refine ae follows (fun args w=>call256 args w) func256 rfl 17 rfl ?_;rw[inS_two];by_cases h1:o.frm<=d
 ·refine run ?_;exact fin (ak (by first | rfl | simp[h1]))
 ·refine run ?_;exact fin (ak (by first | rfl | simp[h1]))
abbrev knownV (l:List Ofc) (n:Int):V:=if goodO l=true/\(ay l n).isSome=true then .tup [mapO (idxO l),vb true] else .tup [.val (.map none),vb false]
theorem den_known (L:LibC T) (l:List Ofc) (n:Int) (hl:jeo l):Den prog T 255 [ofcs l,vi n] (knownV l n):=by
 have hl0:=hl.1;refine ae follows (fun args w=>call255 args w) func255 rfl 23 rfl ?_;refine run ?_;refine call (jpi L l hl) ?_;by_cases g1:(jby l).2=0
 ·have go:goodO l=true:=by simp[goodO,g1]
  refine run ?_;refine call (den_FindO l n hl0) ?_;rcases findO_look l n with ⟨h1,h2⟩ | ⟨i,q,h1,h2,h3⟩
  ·rw[knownV,if_neg (by simp[h2])];refine run ?_;exact fin rfl
  ·rw[knownV,if_pos ⟨go,by simp[h3]⟩,h1];refine run ?_;refine call (den_index l hl0) ?_;refine run ?_;exact fin rfl
 ·have go:goodO l=false:=by simp[goodO,g1]
  rw[knownV,if_neg (by simp[go])];refine run ?_;exact fin rfl
theorem den_Chain (L:LibC T) (l:List Ofc) (n d:Int) (hl:jeo l):DenO prog T 218 [ofcs l,vi n,vi d] 3 (ints (chain l n d)):=by
 have hl0:=hl.1;refine jir follows (fun args w=>call218 args w) func218 rfl 44 rfl ?_;refine run ?_;refine call (den_known L l n hl) ?_;by_cases hk:goodO l=true/\(ay l n).isSome=true
 ·obtain ⟨hg,hs⟩:=hk;rw[knownV,if_pos ⟨hg,hs⟩];obtain ⟨o0,ho0⟩:=Option.isSome_iff_exists.1 hs;rw[chain_some hg ho0];have hz:=jmu (jd0 (idxO l));have hf0:=jkq n (idxO l);rw[jo3,ho0] at hf0;refine runW (ai hz (ai hf0 (ai jk7 jk8))) ?_;have hg0:=goodO_look hg ho0
  refine loop ⟨[2,7,9,10],[10],[9],[(9,3,1)]⟩ (fun y:Nat×List Int×Ofc=>(∃k,ay l k=some y.2.2)/\y.2.1.length+y.1=1048577/\1048577<=(y.1:Int)+y.2.2.frm/\y.2.1++chainF l d y.1 y.2.2=chainF l d 1048577 o0) (fun y=>y.1)
   (fun y=>⟨44,[(2,.v (vi d)),(7,.v (mapO (idxO l))),(9,.v (ints y.2.1)),(10,.p 10 0)],[(10,.var y.2.2.cs)],[(3,[9])]⟩) (1048577,[],o0) ⟨⟨n,ho0⟩,by simp,by simp only; omega,by simp⟩ ?_
  rintro ⟨m,out,o⟩ ⟨⟨k,hko⟩,hlen,hm,hch⟩;simp only at hko hlen hm hch;obtain ⟨q1,q2,q3,q4⟩:=goodO_look hg hko;have hap:out.map Cint++[[V.val (.int .i64 o.id)]]=(out++[o.id]).map Cint:=by simp
  refine runW hap ?_;refine call (den_inO o d) ?_;cases hin:inS o.frm o.til d
  ·obtain ⟨nx,hnx⟩:∃nx,o.nxt=nx:=⟨_,rfl⟩;cases nx with
   | nil=>
    rw[chainF_end m (nextO_nil hnx)] at hch;refine runW hnx ?_;refine finO (.of ?_);rw[<- hch]
   | cons x r=>
    obtain ⟨q,hq,hqf⟩:=q4 x (by rw[hnx]; simp);have hno:jbz l d o=some q:=by rw[nextO_cons hin hnx]; exact hq
    obtain ⟨m',rfl⟩:∃m',m=m'+1:=⟨m-1,by omega⟩;rw[chainF_next m' hno] at hch;have hf:=jkq x (idxO l);rw[jo3,hq] at hf;refine runW (ai hnx (ai hz (ai hf (ai jk7 jk8)))) ?_;refine round (m',out++[o.id],q) ⟨⟨x,hq⟩,by simp only[List.length_append,List.length_cons,List.length_nil]; omega,by simp only; omega,?_⟩ (by simp only; omega);simp only; rw[<- hch]; simp
  ·rw[chainF_end m (nextO_in hin)] at hch;refine run ?_;refine finO (.of ?_);rw[<- hch]
 ·rw[knownV,if_neg hk]
  have hc:chain l n d=[]:=by
   cases hg:goodO l
   ·exact chain_bad hg
   ·cases hs:ay l n with
    | none=>exact chain_none hs
    | some q=>exact absurd ⟨hg,by simp[hs]⟩ hk
  rw[hc];refine run ?_;exact finO (.nil 1)
theorem den_isIDH (n:Int):Den prog T 239 [vi n] (vb (idB n)):=by
 refine ae follows (fun args w=>call239 args w) func239 rfl 9 rfl ?_;unfold idB;by_cases h1:1<=n <;> by_cases h2:n<=1073741824 <;> (refine run ?_; refine fin (ak ?_); simp; try omega)
theorem den_validH (f u:Int):Den prog T 240 [span f u] (vb (bt f u)):=by
 refine ae follows (fun args w=>call240 args w) func240 rfl 18 rfl ?_;unfold bt;by_cases h1:0<=f <;> by_cases h2:f<u <;> by_cases h3:u<=1048576 <;> (refine run ?_; refine fin (ak ?_); simp; try omega)
theorem ofErr_n {h:Hld} (hk:h.kind≠3):jdn h=if idB h.obj=false\/h.cls≠[] then 1 else 0:=by unfold jdn; rw[if_pos hk]
theorem ofErr_1 {h:Hld} (hk:h.kind=3) (ho:h.obj≠0):jdn h=1:=by unfold jdn; rw[if_neg (by simp[hk]),if_pos ho]
theorem ofErr_c {h:Hld} (hk:h.kind=3) (ho:h.obj=0):jdn h=if (aq h.cls).isNone=true then 3 else 0:=by unfold jdn; rw[if_neg (by simp[hk]),if_neg (by simp[ho])]
theorem nil_beq {s:Str} : (s == [])=decide (s=[]):=by cases s <;> rfl
theorem den_of (L:LibC T) (h:Hld) (hf:h.Fit):Den prog T 238 [.agg h.cs] (vi (jdn h)):=by
 refine ae follows (fun args w=>call238 args w) func238 rfl 27 rfl ?_;by_cases hk:h.kind=3
 ·by_cases ho:h.obj=0
  ·rw[ofErr_c hk ho];refine run ?_;refine call (jiw L h.cls hf.1) ?_;cases hp:aq h.cls with
   | none=>rw[jj1 hp]; refine run ?_; exact fin rfl
   | some l=>rw[jj0 hp]; refine run ?_; exact fin rfl
  ·rw[ofErr_1 hk ho];refine run ?_;exact fin rfl
 ·rw[ofErr_n hk];refine run ?_;refine call (den_isIDH h.obj) ?_;cases hi:idB h.obj
  ·rw[if_pos (.inl rfl)];refine run ?_;exact fin rfl
  ·cases hc:h.cls == []
   ·have hne:h.cls≠[]:=fun e=>by rw[e] at hc; cases hc
    rw[if_pos (.inr hne)];refine runW hc ?_;exact fin rfl
   ·have he:h.cls=[]:=by rw[nil_beq] at hc; simpa using hc
    rw[if_neg (by simp[he])];refine runW hc ?_;exact fin rfl
theorem jo8 {l:List Hld} {i:Nat} {h:Hld} (hi:l[i]? = some h) (hb:badH h):jjf l i=2:=by simp only[jjf,hi]; rw[if_pos hb]
theorem faultH_r {l:List Hld} {i:Nat} {h:Hld} (hi:l[i]? = some h) (hb:¬badH h):jjf l i=if prevH l i h=true then 5 else if jdn h≠0 then jdn h else if name h.why=false then 4 else 0:=by
 simp only[jjf,hi]; rw[if_neg hb]
theorem jmg (h:Hld):badH h↔(idB h.id=false\/h.kind<1\/3<h.kind\/bt h.frm h.til=false):=Iff.rfl
theorem prevH_cases {l:List Hld} {i:Nat} (hi:i<l.length) (h:Hld):(prevH l i h=true/\∃q,i≠0/\l[i-1]? = some q/\h.id<=q.id)\/(prevH l i h=false/\(i=0\/∃q,i≠0/\l[i-1]? = some q/\¬h.id<=q.id)):=by
 by_cases h0:i=0
 ·right; rw[h0]; exact ⟨prevH_0 l h,.inl rfl⟩
 ·obtain ⟨q,hq,-,-⟩:=aj (l:=l) (k:=i-1) (by omega);by_cases hle:h.id<=q.id
  ·left; exact ⟨by rw[prevH_s h0 hq]; simp[hle],q,h0,hq,hle⟩
  ·right; exact ⟨by rw[prevH_s h0 hq]; simp[hle],.inr ⟨q,h0,hq,hle⟩⟩
theorem den_checkH (L:LibC T) (l:List Hld) (i:Nat) (hl:FitsH l) (hi:i<l.length):Den prog T 195 [hlds l,vi i] (vi (jjf l i)):=by
 obtain ⟨hl0,hf⟩:=hl;obtain ⟨h,hh,-,hm⟩:=aj hi;have hff:=hf h hm;refine ae follows (fun args w=>call195 args w) func195 rfl 57 rfl ?_;refine runW hh ?_;refine call (den_of L h hff) ?_;refine run ?_;refine call (den_isIDH h.id) ?_;cases b1:idB h.id
 ·rw[jo8 hh ((jmg h).2 (.inl b1))];refine run ?_;exact fin rfl
 by_cases b2:h.kind<1
 ·rw[jo8 hh ((jmg h).2 (.inr (.inl b2)))];refine run ?_;exact fin rfl
 by_cases b3:3<h.kind
 ·rw[jo8 hh ((jmg h).2 (.inr (.inr (.inl b3))))];refine run ?_;exact fin rfl
 refine run ?_;refine call (den_validH h.frm h.til) ?_;cases b4:bt h.frm h.til
 ·rw[jo8 hh ((jmg h).2 (.inr (.inr (.inr b4))))];refine run ?_;exact fin rfl
 rw[faultH_r hh fun hb=>by
  rcases (jmg h).1 hb with h | h | h | h
  ·rw[b1] at h; cases h
  ·exact b2 h
  ·exact b3 h
  ·rw[b4] at h; cases h]
 rcases prevH_cases hi h with ⟨hpv,q,h0,hq,hle⟩ | ⟨hpv,h0 | ⟨q,h0,hq,hle⟩⟩
 ·rw[if_pos hpv];refine runW hq ?_;exact fin rfl
 all_goals
  rw[if_neg (by rw[hpv]; exact Bool.noConfusion)];by_cases he:jdn h=0
  ·rw[if_neg (by simp[he]),he]
   first
    | (subst h0; refine run ?_)
    | refine runW hq ?_
   refine call (jk5 L h.why hff.2) ?_;cases name h.why
   ·refine run ?_;exact fin rfl
   ·refine run ?_;exact fin rfl
  ·rw[if_pos he]
   first
    | (subst h0; refine run ?_)
    | refine runW hq ?_
   exact fin rfl
theorem den_CheckH (L:LibC T) (l:List Hld) (hl:FitsH l):Den prog T 134 [hlds l] (chkV (jf4 l)):=by
 have hl0:=hl.1;refine ae follows (fun args w=>call134 args w) func134 rfl 22 rfl ?_;by_cases h16:64<l.length
 ·refine run ?_;refine fin ?_;simp only[chkV,jf4,jgc h16]
 refine run ?_
 refine loop ⟨[0,10,11],[],[],[]⟩ (fun k:Nat=>k<=l.length/\∀i,i<k->jjf l i=0) (fun k=>l.length-k)
  (fun k=>⟨22,[(0,.v (hlds l)),(10,.v (vi l.length)),(11,.v (vi k))],[],[]⟩) 0 ⟨by omega,by omega⟩ ?_
 rintro k ⟨hk,hall⟩;by_cases hlt:k<l.length
 ·refine run ?_;refine call (den_checkH L l k hl hlt) ?_;by_cases hz:jjf l k=0
  ·refine run ?_;refine round (k+1) ⟨by omega,fun i hi=> ?_⟩ (by omega);by_cases e:i=k
   ·rw[e]; exact hz
   ·exact hall i (by omega)
  ·refine run ?_;refine fin ?_;simp only[chkV,jf4,jld h16 hlt hall hz]
 ·refine run ?_;refine fin ?_;simp only[chkV,jf4,jij h16 fun i hi=>hall i (by omega)]
theorem covers_out {os:List Ofc} {ps:List Plan} {h:Hld} {f:Fil} {d:Int} (hi:inS h.frm h.til d=false):jii os ps h f d=false:=by simp[jii,hi]
theorem covers_in {os:List Ofc} {ps:List Plan} {h:Hld} {f:Fil} {d:Int} (hi:inS h.frm h.til d=true):jii os ps h f d=jeg os ps h f d:=by simp[jii,hi]
theorem kindB_1 {os:List Ofc} {ps:List Plan} {h:Hld} {f:Fil} {d:Int} (hk:h.kind=1):jeg os ps h f d=decide (h.obj=f.id):=by simp[jeg,hk]
theorem kindB_2 {os:List Ofc} {ps:List Plan} {h:Hld} {f:Fil} {d:Int} (hk:h.kind=2):jeg os ps h f d=(chain os f.ofc d).any (fun y=>decide (h.obj=y)):=by simp[jeg,hk]
theorem kindB_3 {os:List Ofc} {ps:List Plan} {h:Hld} {f:Fil} {d:Int} (hk:h.kind=3):jeg os ps h f d=(decide ((cg ps f d).2=0) && ja5 (cg ps f d).1 h.cls):=by simp[jeg,hk]
theorem kindB_0 {os:List Ofc} {ps:List Plan} {h:Hld} {f:Fil} {d:Int} (h1:h.kind≠1) (h2:h.kind≠2) (h3:h.kind≠3):jeg os ps h f d=false:=by simp[jeg,h1,h2,h3]
theorem chain_len (os:List Ofc) (n d:Int):(chain os n d).length<=1048578:=by
 unfold chain;split
 ·simp
 ·split
  ·simp
  ·exact chainF_len os d 1048577 _
theorem classR_len {l:List Plan} (hl:Fits l) {f:Fil} (hf:f.Fit) (d:Int):(cg l f d).1.length<=1048576:=by
 unfold cg;split
 ·simp
 ·split
  ·simp
  ·split
   ·simp
   ·exact walkN_len hl _ _ _ hf.1
theorem den_hasInt2 (l:List Int) (x:Int) (hl:l.length<=1048578):Den prog T 52 [ints l,vi x] (vb (l.any fun y=>decide (x=y))):=by
 have h0:Den prog T 115 [ints l,vi x] (vi (ix (fun y=>decide (x=y)) l)):=by
  refine ae follows (fun args w=>call115 args w) func115 rfl 19 rfl ?_;refine run ?_
  refine loop ⟨[0,1,7,8],[],[],[]⟩ (fun k:Nat=>k<=l.length/\∀n∈l.take k,decide (x=n)=false) (fun k=>l.length-k)
   (fun k=>⟨19,[(0,.v (ints l)),(1,.v (vi x)),(7,.v (vi l.length)),(8,.v (vi k))],[],[]⟩) 0 ⟨by omega,by simp⟩ ?_
  rintro k ⟨hk,hall⟩;by_cases hlt:k<l.length
  ·obtain ⟨y,hy,-,-⟩:=aj hlt;by_cases hxy:x=y
   ·refine runW hy ?_;exact fin (al (jav (p:=fun n=>decide (x=n)) hall hy (by simp[hxy])))
   ·refine runW hy ?_;exact round (k+1) ⟨by omega,br (q:=fun n:Int=>decide (x=n)=false) hall hy (by simp[hxy])⟩ (by omega)
  ·refine run ?_;exact fin (al (jb3 (p:=fun n=>decide (x=n)) hall hlt))
 refine ae follows (fun args w=>call52 args w) func52 rfl 9 rfl ?_;refine run ?_;refine call h0 ?_;refine run ?_;exact fin (ak (jcf _ l))
theorem den_Cov1 (h:Hld) (f:Fil):Den prog T 216 [.row h.cs,.row f.cs] (vb (decide (h.obj=f.id))):=by
 refine ae follows (fun args w=>call216 args w) func216 rfl 8 rfl ?_;refine run ?_;exact fin rfl
theorem den_Cov2 (L:LibC T) (os:List Ofc) (h:Hld) (f:Fil) (d:Int) (ho:jeo os):Den prog T 217 [.row [ofcs os],.row f.cs,.row [vi d],.row h.cs] (vb ((chain os f.ofc d).any fun y=>decide (h.obj=y))):=by
 refine ae follows (fun args w=>call217 args w) func217 rfl 13 rfl ?_;refine run ?_;refine call (den_Chain L os f.ofc d ho).den ?_;refine run ?_;refine call (den_hasInt2 _ h.obj (chain_len os f.ofc d)) ?_;refine run ?_;exact fin rfl
theorem den_Cov3 (L:LibC T) (ps:List Plan) (h:Hld) (f:Fil) (d:Int) (hp:Fits ps) (hf:f.Fit) (hh:h.Fit):Den prog T 219 [.row [au ps],.row f.cs,.row [vi d],.row h.cs] (vb (decide ((cg ps f d).2=0) && ja5 (cg ps f d).1 h.cls)):=by
 have hcl:=classR_len hp hf d;refine ae follows (fun args w=>call219 args w) func219 rfl 22 rfl ?_;refine run ?_;refine call (den_Class L ps f d hp hf) ?_;by_cases hz:(cg ps f d).2=0
 ·refine run ?_;refine call (jph L _ h.cls hcl hh.1) ?_;refine run ?_;refine fin (ak ?_)
  first | rfl | (simp[hz]; done) | trace_state
 ·refine run ?_;refine fin (ak ?_)
  first | rfl | (simp[hz]; done) | trace_state
theorem den_Covers (L:LibC T) (os:List Ofc) (ps:List Plan) (h:Hld) (f:Fil) (d:Int) (ho:jeo os) (hp:Fits ps) (hh:h.Fit) (hf:f.Fit):
  Den prog T 164 [ofcs os,au ps,.agg h.cs,.agg f.cs,vi d] (vb (jii os ps h f d)):=by
 refine ae follows (fun args w=>call164 args w) func164 rfl 43 rfl ?_;by_cases h1:d<h.frm
 ·rw[covers_out (by simp[inS]; omega)];refine run ?_;exact fin rfl
 by_cases h2:h.til<=d
 ·rw[covers_out (by simp[inS]; omega)];refine run ?_;exact fin rfl
 rw[covers_in (by simp[inS]; omega)];by_cases k0:h.kind<=0
 ·rw[kindB_0 (by omega) (by omega) (by omega)];refine run ?_;exact fin rfl
 by_cases k4:4<=h.kind
 ·rw[kindB_0 (by omega) (by omega) (by omega)];refine run ?_;exact fin rfl
 by_cases k1:h.kind=1
 ·rw[kindB_1 k1];refine runW k1 ?_;refine call (den_Cov1 h f) ?_;refine run ?_;exact fin rfl
 by_cases k2:h.kind=2
 ·rw[kindB_2 k2];refine runW k2 ?_;refine call (den_Cov2 L os h f d ho) ?_;refine run ?_;exact fin rfl
 have k3:h.kind=3:=by omega
 rw[kindB_3 k3];refine runW k3 ?_;refine call (den_Cov3 L ps h f d hp hf hh) ?_;refine run ?_;exact fin rfl
theorem hold_snoc (os:List Ofc) (ps:List Plan) (f:Fil) (d:Int) {l:List Hld} {k:Nat} {h:Hld} (hk:l[k]? = some h):
  c7 os ps (l.take (k+1)) f d=c7 os ps (l.take k) f d++(if jii os ps h f d=true then [h.id] else []):=by
 unfold c7;rw[List.take_add_one,hk];simp only[Option.toList_some,List.filter_append,List.map_append,List.filter_cons,List.filter_nil];split <;> rfl
theorem den_Holding (L:LibC T) (os:List Ofc) (ps:List Plan) (l:List Hld) (f:Fil) (d:Int) (ho:jeo os) (hp:Fits ps) (hl:FitsH l) (hf:f.Fit):
  DenO prog T 105 [ofcs os,au ps,hlds l,.agg f.cs,vi d] 3 (ints (c7 os ps l f d)):=by
 have hl0:=hl.1;refine jir follows (fun args w=>call105 args w) func105 rfl 33 rfl ?_;refine run ?_
 refine loop ⟨[0,1,4,8,11,14,15,16],[8],[11],[(11,3,1)]⟩ (fun y:Nat×List Int=>y.1<=l.length/\y.2.length<=y.1/\y.2=c7 os ps (l.take y.1) f d) (fun y=>l.length-y.1)
  (fun y=>⟨33,[(0,.v (ofcs os)),(1,.v (au ps)),(4,.v (vi d)),(8,.p 8 0),(11,.v (ints y.2)),(14,.v (hlds l)),(15,.v (vi l.length)),(16,.v (vi y.1))],[(8,.var f.cs)],[(3,[11])]⟩) (0,[]) ⟨by omega,by simp,by simp[c7]⟩ ?_
 rintro ⟨k,out⟩ ⟨hk,hlen,ho'⟩;simp only at hk hlen ho';by_cases hlt:k<l.length
 ·obtain ⟨h,hh,-,hm⟩:=aj hlt;have hsn:=hold_snoc os ps f d hh;rw[<- ho'] at hsn;refine runW hh ?_;refine call (den_Covers L os ps h f d ho hp (hl.2 h hm) hf) ?_;cases hc:jii os ps h f d
  ·rw[hc] at hsn;refine run ?_;exact round (k+1,out) ⟨by simp only; omega,by simp only; omega,by simp only; rw[hsn]; simp⟩ (by simp only; omega)
  ·rw[hc] at hsn;have hap:out.map Cint++[[V.val (.int .i64 h.id)]]=(out++[h.id]).map Cint:=by simp
   refine runW hap ?_;exact round (k+1,out++[h.id]) ⟨by simp only; omega,by simp; omega,by simp only; rw[hsn]; simp⟩ (by simp only; omega)
 ·refine run ?_;refine finO (.of ?_);rw[ho',List.take_of_length_le (by omega)]
theorem den_eqInts (a b:List Int) (ha:a.length<=1048576):Den prog T 84 [ints a,ints b] (vb (decide (a=b))):=by
 refine ae follows (fun args w=>call84 args w) func84 rfl 26 rfl ?_;by_cases hl:a.length=b.length
 ·refine run ?_
  refine loop ⟨[0,1,12,13],[],[],[]⟩ (fun k:Nat=>k<=a.length/\(a=b↔a.drop k=b.drop k)) (fun k=>a.length-k)
   (fun k=>⟨26,[(0,.v (ints a)),(1,.v (ints b)),(12,.v (vi a.length)),(13,.v (vi k))],[],[]⟩) 0 ⟨by omega,by simp⟩ ?_
  rintro k ⟨hk,hall⟩;by_cases hlt:k<a.length
  ·obtain ⟨x,hx,hd,-⟩:=aj hlt;obtain ⟨y,hy,he,-⟩:=aj (l:=b) (k:=k) (by omega);by_cases hxy:x=y
   ·subst hxy;refine runW (ai hx hy) ?_;exact round (k+1) ⟨by omega,by rw[hall,eq_drop hd he]; simp⟩ (by omega)
   ·refine runW (ai hx hy) ?_;refine fin (ak ?_)
    symm
    rw[decide_eq_false_iff_not,hall,eq_drop hd he];simp[hxy]
  ·refine run ?_;refine fin (ak ?_)
   symm; rw[decide_eq_true_iff,hall,jey hlt,jey (l:=b) (by omega)]
 ·refine run ?_;refine fin (ak ?_)
  symm; rw[decide_eq_false_iff_not]; intro h; exact hl (by rw[h])
def fewH1 (h:Hld):Bool:= !(decide (100<h.cls.length) || decide (100<h.why.length))
def fewH (l:List Hld):Bool:= !((decide (12<l.length) && decide (l.length<=64)) || decide (69<l.length)) && l.all fewH1
theorem den_FewH2 (l:List Hld) (hl0:l.length<=2097152) (hl:∀h∈l,h.Fit):Den prog T 64 [hlds l] (vb (fewH l)):=by
 refine ae follows (fun args w=>call64 args w) func64 rfl 39 rfl ?_;by_cases g:(12<l.length/\l.length<=64)\/69<l.length
 ·have hf:fewH l=false:=by
   rcases g with ⟨g1,g2⟩ | g
   ·simp[fewH,g1,g2]
   ·simp[fewH,g]
  rw[hf];by_cases a1:l.length<=64
  ·have a2:12<l.length:=by omega
   refine run ?_;exact fin rfl
  ·have a2:12<l.length:=by omega
   have a3:69<l.length:=by omega
   refine run ?_;exact fin rfl
 ·have hq:fewH l=l.all fewH1:=by
   have e1:(decide (12<l.length) && decide (l.length<=64))=false:=by
    cases e:decide (12<l.length)
    ·rfl
    ·have:12<l.length:=by simpa using e
     simp; omega
   have e2:decide (69<l.length)=false:=by simp; omega
   simp only[fewH,e1,e2,Bool.or_false,Bool.not_false,Bool.true_and]
  have go:∀Q:Prop,(12<l.length->¬l.length<=64->Q)->(¬ 12<l.length->Q)->Q:=fun Q a b=>by
   by_cases a1:12<l.length
   ·exact a a1 (by omega)
   ·exact b a1
  rw[hq];have a3:¬ 69<l.length:=by omega
  refine go _ (fun a1 a2=> ?_) (fun a1=> ?_) <;>
  ·refine run ?_
   refine loop ⟨[0,3],[],[],[]⟩ (fun k:Nat=>k<=l.length/\∀p∈l.take k,fewH1 p=true) (fun k=>l.length-k)
    (fun k=>⟨39,[(0,.v (hlds l)),(3,.v (vi k))],[],[]⟩) 0 ⟨by omega,by simp⟩ ?_
   rintro k ⟨hk,hall⟩;by_cases hlt:k<l.length
   ·obtain ⟨x,hx,hd,hm⟩:=aj hlt;obtain ⟨f1,f2⟩:=hl x hm;by_cases g1:100<x.cls.length
    ·refine runW hx ?_;refine fin (ak ?_);rw[jcd hx (by simp[fewH1,g1])]
    by_cases g2:100<x.why.length
    ·refine runW hx ?_;refine fin (ak ?_);rw[jcd hx (by simp[fewH1,g2])]
    refine runW hx ?_;exact round (k+1) ⟨by omega,br (q:=fun p:Hld=>fewH1 p=true) hall hx (by simp[fewH1,g1,g2])⟩ (by omega)
   ·refine run ?_;refine fin (ak ?_);rw[jkd hall hlt]
theorem den_FewH (l:List Hld) (hl:FitsH l):Den prog T 64 [hlds l] (vb (fewH l)):=den_FewH2 l (Nat.le_trans hl.1 (by decide)) hl.2
end Go.Arc
