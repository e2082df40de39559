/- A part of this claim. -/
import Derived.Test.YtfbbflhnhmphiaaGreatDoorBaT
set_option maxRecDepth 100000
namespace Go.Arc
open Go.Ab Go.RowKit Go.Proofs Tryz
variable {T : Lay}
variable {l:List Hld}{h:Hld}{ps:List Plan}{os:List Ofc}{d:Int}{f:Fil}{i:Nat}{n:Int}{x:Hld}
theorem qwh(f u d:Int):inS f u d=(decide (f<=d) && decide (d<u)):=by simp[inS]
theorem qx9(o:Ofc)(d:Int):Den prog T 273 [.agg o.cs,vi d] (vb (inS o.frm o.til d)):=by
 refine ab call273 func273 17 ?_;rw[qwh];by_cases h1:o.frm<=d
 .refine run ?_;exact fin (ah (by first|rfl|simp[h1]))
 refine run ?_;exact fin (ah (by first|rfl|simp[h1]))
abbrev jcf(l:List Ofc)(n:Int):V:=if goodO l=true/\(av l n).isSome=true then .tup [mapO (idxO l),vb true] else .tup [.val (.map none),vb false]
theorem qoc(L:LibC T)(l:List Ofc)(n:Int)(hl:nw l):Den prog T 272 [ofcs l,vi n] (jcf l n):=by
 have hl0:=hl.1;refine ab call272 func272 23 ?_;refine rc (jdw L l hl) ?_;by_cases g1:(fm l).2=0
 .have go:goodO l=true:=by simp[goodO,g1]
  refine rc (jmb l n hl0) ?_;rcases jv2 l n with⟨h1,h2⟩|⟨i,q,h1,h2,h3⟩
  .rw[jcf,vd (by simp[h2])];exact za
  rw[jcf,ve ⟨go,by simp[h3]⟩,h1];refine rc (jxq l hl0) ?_;exact za
 have go:goodO l=false:=by simp[goodO,g1]
 rw[jcf,vd (by simp[go])];exact za
theorem qp9(L:LibC T)(l:List Ofc)(n d:Int)(hl:nw l):DenO prog T 220 [ofcs l,vi n,vi d] 3 (ints (chain l n d)):=by
 have hl0:=hl.1;refine pz call220 func220 44 ?_;refine rc (qoc L l n hl) ?_;by_cases hk:goodO l=true/\(av l n).isSome=true
 .obtain⟨hg,hs⟩:=hk;rw[jcf,ve ⟨hg,hs⟩];obtain⟨o0,ho0⟩:=xbe.1 hs;rw[jl7 hg ho0];have hz:=jdi (mb (idxO l));have hf0:=jbj n (idxO l);rw[ji1,ho0] at hf0;refine runW (ai hz (ai hf0 (ai jak jal))) ?_;have hg0:=jkr hg ho0
  refine loop ⟨[2,7,9,10],[10],[9],[(9,3,1)]⟩ (fun y:Nat×List Int×Ofc=>(∃k,av l k=some y.2.2)/\y.2.1.length+y.1=1048577/\1048577<=(y.1:Int)+y.2.2.frm/\y.2.1++chainF l d y.1 y.2.2=chainF l d 1048577 o0) (fun y=>y.1)
   (fun y=>⟨44,[(2,.v (vi d)),(7,.v (mapO (idxO l))),(9,.v (ints y.2.1)),(10,.p 10 0)],[(10,.var y.2.2.cs)],[(3,[9])]⟩) (1048577,[],o0) ⟨⟨n,ho0⟩,smq,by simp only;omega,smq⟩ ?_
  rintro⟨m,out,o⟩ ⟨⟨k,hko⟩,hlen,hm,hch⟩;simp only at hko hlen hm hch;obtain⟨q1,q2,q3,q4⟩:=jkr hg hko;have hap:out.map Cint++[[V.val (.int .i64 o.id)]]=(out++[o.id]).map Cint:=by simp
  refine rcW hap (qx9 o d) ?_;cases hin:inS o.frm o.til d
  .obtain⟨nx,hnx⟩:∃nx,o.nxt=nx:=⟨_,rfl⟩;cases nx with
   |nil=>
    rw[jbl m (jlt hnx)] at hch;refine runW hnx ?_;refine finO (.of ?_);rw[<- hch]
   |cons x r=>
    obtain⟨q,hq,hqf⟩:=q4 x (by rw[hnx];simp);have hno:jh l d o=some q:=by rw[jkm hin hnx];exact hq
    obtain⟨m',rfl⟩:∃m',m=m'+1:=⟨m-1,omq⟩;rw[jk4 m' hno] at hch;have hf:=jbj x (idxO l);rw[ji1,hq] at hf;refine runW (ai hnx (ai hz (ai hf (ai jak jal)))) ?_;refine round (m',out++[o.id],q) ⟨⟨x,hq⟩,by simp only[vr,List.length_cons,List.length_nil];omega,by simp only;omega,?_⟩ zeo;simp only;rw[<- hch];simp
  rw[jbl m (jnc hin)] at hch;refine run ?_;refine finO (.of ?_);rw[<- hch]
 rw[jcf,vd hk]
 have hc:chain l n d=[]:=by
  cases hg:goodO l
  .exact qpp hg
  cases hs:av l n with
  |none=>exact qlg hs
  |some q=>exact absurd ⟨hg,by simp[hs]⟩ hk
 rw[hc];refine run ?_;exact finO (.nil 1)
theorem jxp(n:Int):Den prog T 303 [vi n] (vb (idB n)):=by
 refine ab call303 func303 9 ?_;unfold idB;by_cases h1:1<=n<;>by_cases h2:n<=1073741824<;>(refine run ?_;refine fin (ah ?_);simp;try omega)
theorem qjw(f u:Int):Den prog T 304 [span f u] (vb (cd f u)):=by
 refine ab call304 func304 18 ?_;unfold cd;by_cases h1:0<=f<;>by_cases h2:f<u<;>by_cases h3:u<=1048576<;>(refine run ?_;refine fin (ah ?_);simp;try omega)
theorem qvx(hk:h.kind≠3):ng h=if idB h.obj=false\/h.cls≠[] then 1 else 0:=by unfold ng;rw[ve hk]
theorem qvz(hk:h.kind=3)(ho:h.obj≠0):ng h=1:=by unfold ng;rw[vd (by simp[hk]),ve ho]
theorem qvy(hk:h.kind=3)(ho:h.obj=0):ng h=if(ak h.cls).isNone=true then 3 else 0:=by unfold ng;rw[vd (by simp[hk]),vd (by simp[ho])]
theorem qw3{s:Str}: (s == [])=decide (s=[]):=by cases s<;>rfl
theorem qzx(L:LibC T)(h:Hld)(hf:h.Fit):Den prog T 302 [.agg h.cs] (vi (ng h)):=by
 refine ab call302 func302 27 ?_;by_cases hk:h.kind=3
 .by_cases ho:h.obj=0
  .rw[qvy hk ho];refine rc (qd L h.cls hf.1) ?_;cases hp:ak h.cls with
   |none=>rw[kr hp];refine run ?_;exact fin rfl
   |some l=>rw[kq hp];refine run ?_;exact fin rfl
  rw[qvz hk ho];exact za
 rw[qvx hk];refine rc (jxp h.obj) ?_;cases hi:idB h.obj
 .rw[ve (.inl rfl)];exact za
 cases hc:h.cls == []
 .have hne:h.cls≠[]:=fun e=>by rw[e] at hc;cases hc
  rw[ve (.inr hne)];refine runW hc ?_;exact fin rfl
 have he:h.cls=[]:=by rw[qw3] at hc;simpa using hc
 rw[vd (by simp[he])];refine runW hc ?_;exact fin rfl
theorem ji7(hi:l[i]?=some h)(hb:badH h):sv l i=2:=by simp only[sv,hi];rw[ve hb]
theorem qs9(hi:l[i]?=some h)(hb:¬badH h):sv l i=if tb l i h=true then 5 else if ng h≠0 then ng h else if name h.why=false then 4 else 0:=by
 simp only[sv,hi];rw[vd hb]
theorem jev(h:Hld):badH h↔(idB h.id=false\/h.kind<1\/3<h.kind\/cd h.frm h.til=false):=Iff.rfl
theorem qhh(hi:i<l.length)(h:Hld):(tb l i h=true/\∃q,i≠0/\l[i-1]?=some q/\h.id<=q.id)\/(tb l i h=false/\(i=0\/∃q,i≠0/\l[i-1]?=some q/\¬h.id<=q.id)):=by
 by_cases h0:i=0
 .right;rw[h0];exact⟨qvj l h,.inl rfl⟩
 obtain⟨q,hq,-,-⟩:=af (l:=l) (k:=i-1) omq;by_cases hle:h.id<=q.id
 .left;exact⟨by rw[qay h0 hq];simp[hle],q,h0,hq,hle⟩
 right;exact⟨by rw[qay h0 hq];simp[hle],.inr ⟨q,h0,hq,hle⟩⟩
theorem qkp(L:LibC T)(l:List Hld)(i:Nat)(hl:jg5 l)(hi:i<l.length):Den prog T 248 [hlds l,vi i] (vi (sv l i)):=by
 obtain⟨hl0,hf⟩:=hl;obtain⟨h,hh,-,hm⟩:=af hi;have hff:=hf h hm;refine ab call248 func248 57 ?_;refine rcW hh (qzx L h hff) ?_;refine rc (jxp h.id) ?_;cases b1:idB h.id
 .rw[ji7 hh ((jev h).2 (.inl b1))];exact za
 by_cases b2:h.kind<1
 .rw[ji7 hh ((jev h).2 (.inr (.inl b2)))];exact za
 by_cases b3:3<h.kind
 .rw[ji7 hh ((jev h).2 (.inr (.inr (.inl b3))))];exact za
 refine rc (qjw h.frm h.til) ?_;cases b4:cd h.frm h.til
 .rw[ji7 hh ((jev h).2 (.inr (.inr (.inr b4))))];exact za
 rw[qs9 hh fun hb=>by
  rcases (jev h).1 hb with h|h|h|h
  .rw[b1] at h;cases h
  .exact b2 h
  .exact b3 h
  rw[b4] at h;cases h]
 rcases qhh hi h with⟨hpv,q,h0,hq,hle⟩|⟨hpv,h0|⟨q,h0,hq,hle⟩⟩
 .exact zcb
 all_goals
  rw[vd ze2];by_cases he:ng h=0
  .rw[vd (by simp[he]),he]
   first
    |(subst h0;refine run ?_)
    |refine runW hq ?_
   refine call (ua L h.why hff.2) ?_;cases name h.why
   .exact za
   exact za
  rw[ve he]
  first
   |(subst h0;refine run ?_)
   |refine runW hq ?_
  exact fin rfl
theorem jvh(L:LibC T)(l:List Hld)(hl:jg5 l):Den prog T 182 [hlds l] (chkV (ib l)):=by
 have hl0:=hl.1;refine ab call182 func182 22 ?_;by_cases h16:64<l.length
 .refine run ?_;refine fin ?_;simp only[chkV,ib,ub h16]
 refine run ?_;refine dq ⟨[11,0,10],[],[],[]⟩ l.length (fun k=>∀i,i<k->sv l i=0) omq ?_;rintro k ⟨hk,hall⟩;by_cases hlt:k<l.length
 .refine rc (qkp L l k hl hlt) ?_;by_cases hz:sv l k=0
  .refine run ?_;refine round (k+1) ⟨omq,fun i hi=>?_⟩ omq;by_cases e:i=k
   .rw[e];exact hz
   exact hall i omq
  refine run ?_;refine fin ?_;simp only[chkV,ib,jf9 h16 hlt hall hz]
 refine run ?_;refine fin ?_;simp only[chkV,ib,jav h16 fun i hi=>hall i omq]
theorem jvj(hi:inS h.frm h.til d=false):ga os ps h f d=false:=by simp[ga,hi]
theorem qpi(hi:inS h.frm h.til d=true):ga os ps h f d=nj os ps h f d:=by simp[ga,hi]
theorem qwd(hk:h.kind=1):nj os ps h f d=decide (h.obj=f.id):=by simp[nj,hk]
theorem qwc(hk:h.kind=2):nj os ps h f d=(chain os f.ofc d).any (fun y=>decide (h.obj=y)):=by simp[nj,hk]
theorem qwb(hk:h.kind=3):nj os ps h f d=(decide ((bd ps f d).2=0) && db (bd ps f d).1 h.cls):=by simp[nj,hk]
theorem qbd(h1:h.kind≠1)(h2:h.kind≠2)(h3:h.kind≠3):nj os ps h f d=false:=by simp[nj,h1,h2,h3]
theorem qpo(os:List Ofc)(n d:Int):(chain os n d).length<=1048578:=by
 unfold chain;split
 .simp
 split
 .simp
 exact jvq os d 1048577 _
theorem jl6{l:List Plan}(hl:Fits l)(hf:f.Fit)(d:Int):(bd l f d).1.length<=1048576:=by
 unfold bd;split
 .simp
 split
 .simp
 split
 .simp
 exact jw0 hl _ _ _ hf.1
theorem qhz(l:List Int)(x:Int)(hl:l.length<=1048578):Den prog T 43 [ints l,vi x] (vb (l.any fun y=>decide (x=y))):=by
 have h0:Den prog T 80 [ints l,vi x] (vi (ix (fun y=>decide (x=y)) l)):=by
  refine ab call80 func80 19 ?_;refine run ?_;refine dq ⟨[8,0,1,7],[],[],[]⟩ l.length (fun k=>∀n∈l.take k,decide (x=n)=false) smq ?_;rintro k ⟨hk,hall⟩;by_cases hlt:k<l.length
  .obtain⟨y,hy,-,-⟩:=af hlt;by_cases hxy:x=y
   .exact zdo
   exact zck
  refine run ?_;exact fin (bc (jan (p:=fun n=>decide (x=n)) hall hlt))
 refine ab call43 func43 9 ?_;refine rc h0 ?_;exact zbs
theorem qth(h:Hld)(f:Fil):Den prog T 218 [.row h.cs,.row f.cs] (vb (decide (h.obj=f.id))):=by
 refine ab call218 func218 8 ?_;exact za
theorem qtg(L:LibC T)(os:List Ofc)(h:Hld)(f:Fil)(d:Int)(ho:nw os):Den prog T 219 [.row [ofcs os],.row f.cs,.row [vi d],.row h.cs] (vb ((chain os f.ofc d).any fun y=>decide (h.obj=y))):=by
 refine ab call219 func219 13 ?_;refine rc (qp9 L os f.ofc d ho).den ?_;refine rc (qhz _ h.obj (qpo os f.ofc d)) ?_;exact za
theorem qtf(L:LibC T)(ps:List Plan)(h:Hld)(f:Fil)(d:Int)(hp:Fits ps)(hf:f.Fit)(hh:h.Fit):Den prog T 221 [.row [bh ps],.row f.cs,.row [vi d],.row h.cs] (vb (decide ((bd ps f d).2=0) && db (bd ps f d).1 h.cls)):=by
 have hcl:=jl6 hp hf d;refine ab call221 func221 22 ?_;refine rc (jmc L ps f d hp hf) ?_;by_cases hz:(bd ps f d).2=0
 .refine rc (jh1 L _ h.cls hcl hh.1) ?_;refine run ?_;refine fin (ah ?_)
  first|rfl|(simp[hz];done)|trace_state
 refine run ?_;refine fin (ah ?_)
 first|rfl|(simp[hz];done)|trace_state
theorem ql2(L:LibC T)(os:List Ofc)(ps:List Plan)(h:Hld)(f:Fil)(d:Int)(ho:nw os)(hp:Fits ps)(hh:h.Fit)(hf:f.Fit):
  Den prog T 158 [ofcs os,bh ps,.agg h.cs,.agg f.cs,vi d] (vb (ga os ps h f d)):=by
 refine ab call158 func158 43 ?_;by_cases h1:d<h.frm
 .rw[jvj (by simp[inS];omega)];exact za
 by_cases h2:h.til<=d
 .rw[jvj (by simp[inS];omega)];exact za
 rw[qpi (by simp[inS];omega)];by_cases k0:h.kind<=0
 .rw[qbd omq omq omq];exact za
 by_cases k4:4<=h.kind
 .rw[qbd omq omq omq];exact za
 by_cases k1:h.kind=1
 .rw[qwd k1];refine rcW k1 (qth h f) ?_;exact za
 by_cases k2:h.kind=2
 .rw[qwc k2];refine rcW k2 (qtg L os h f d ho) ?_;exact za
 have k3:h.kind=3:=omq;rw[qwb k3];refine rcW k3 (qtf L ps h f d hp hf hh) ?_;exact za
theorem qnb(os:List Ofc)(ps:List Plan)(f:Fil)(d:Int){k:Nat}(hk:l[k]?=some h):
  bf os ps (l.take (k+1)) f d=bf os ps (l.take k) f d++(if ga os ps h f d=true then [h.id] else []):=by
 unfold bf;rw[List.take_add_one,hk];simp only[Option.toList_some,xbj,xz,xc5,List.filter_nil];split<;>rfl
theorem qrz(os:List Ofc)(ps:List Plan)(l:List Hld)(f:Fil)(d:Int):(bf os ps l f d).length<=l.length:=by
 unfold bf;rw[vm];exact zd4
theorem qi9(L:LibC T)(os:List Ofc)(ps:List Plan)(l:List Hld)(f:Fil)(d:Int)(ho:nw os)(hp:Fits ps)(hl:jg5 l)(hf:f.Fit):
  DenO prog T 73 [ofcs os,bh ps,hlds l,.agg f.cs,vi d] 3 (ints (bf os ps l f d)):=by
 have hl0:=hl.1;refine pz call73 func73 33 ?_;refine run ?_
 refine loop ⟨[0,1,4,8,11,14,15,16],[8],[11],[(11,3,1)]⟩ (fun y:Nat×List Int=>y.1<=l.length/\y.2.length<=y.1/\y.2=bf os ps (l.take y.1) f d) (fun y=>l.length-y.1)
  (fun y=>⟨33,[(0,.v (ofcs os)),(1,.v (bh ps)),(4,.v (vi d)),(8,.p 8 0),(11,.v (ints y.2)),(14,.v (hlds l)),(15,.v (vi l.length)),(16,.v (vi y.1))],[(8,.var f.cs)],[(3,[11])]⟩) (0,[]) ⟨omq,smq,by simp[bf]⟩ ?_
 rintro⟨k,out⟩ ⟨hk,hlen,ho'⟩;simp only at hk hlen ho';by_cases hlt:k<l.length
 .obtain⟨h,hh,-,hm⟩:=af hlt;have hsn:=qnb os ps f d hh;rw[<- ho'] at hsn;refine rcW hh (ql2 L os ps h f d ho hp (hl.2 h hm) hf) ?_;cases hc:ga os ps h f d
  .rw[hc] at hsn;refine run ?_;exact round (k+1,out) ⟨by simp only;omega,by simp only;omega,by simp only;rw[hsn];simp⟩ zeo
  rw[hc] at hsn;have hap:out.map Cint++[[V.val (.int .i64 h.id)]]=(out++[h.id]).map Cint:=by simp
  refine runW hap ?_;exact round (k+1,out++[h.id]) ⟨by simp only;omega,by simp;omega,by simp only;rw[hsn];simp⟩ zeo
 refine run ?_;refine finO (.of ?_);rw[ho',ye omq]
theorem qkm(a b:List Int)(ha:a.length<=1048576):Den prog T 131 [ints a,ints b] (vb (decide (a=b))):=by
 refine ab call131 func131 26 ?_;by_cases hl:a.length=b.length
 .refine run ?_;refine dq ⟨[13,0,1,12],[],[],[]⟩ a.length (fun k=>(a=b↔a.drop k=b.drop k)) smq ?_;rintro k ⟨hk,hall⟩;by_cases hlt:k<a.length
  .obtain⟨x,hx,hd,-⟩:=af hlt;obtain⟨y,hy,he,-⟩:=af (l:=b) (k:=k) omq;by_cases hxy:x=y
   .exact zbc
   refine runW (ai hx hy) ?_;refine fin (ah ?_)
   symm
   exact zc3
  refine run ?_;refine fin (ah ?_)
  symm;rw[decide_eq_true_iff,hall,je hlt,je (l:=b) omq]
 refine run ?_;refine fin (ah ?_);exact zcg
theorem jdh(a b:List Int)(ha:a.length<=1048576):Den prog T 27 [ints a,ints b] (vb (decide (a=b))):=by
 refine ab call27 func27 26 ?_;by_cases hl:a.length=b.length
 .refine run ?_;refine dq ⟨[5,0,1],[],[],[]⟩ a.length (fun k=>(a=b↔a.drop k=b.drop k)) smq ?_;rintro k ⟨hk,hall⟩;by_cases hlt:k<a.length
  .obtain⟨x,hx,hd,-⟩:=af hlt;obtain⟨y,hy,he,-⟩:=af (l:=b) (k:=k) omq;by_cases hxy:x=y
   .exact zbc
   refine runW (ai hx hy) ?_;refine fin (ah ?_)
   symm
   exact zc3
  refine run ?_;refine fin (ah ?_)
  symm;rw[decide_eq_true_iff,hall,je hlt,je (l:=b) omq]
 refine run ?_;refine fin (ah ?_);exact zcg
theorem flatH:∀(l:List Hld),∀e∈l.map Hld.cs,∀c∈e,c.flat=true:=by
 intro l e he c hc;obtain⟨n,-,rfl⟩:=ya.1 he;simp only[Hld.cs,vt,xbh,xx] at hc;rcases hc with rfl|rfl|rfl|rfl|rfl|rfl|rfl<;>rfl
theorem qgp(l:List Hld)(hl:l.length<=1048576):DenO prog T 106 [hlds l] 147 (hlds l):=by
 refine pz call106 func106 8 ?_;cases l with
 |nil=>
  refine run ?_;intro b;cases b
  .exact zu
  refine run ?_;exact finO (.nil 7)
 |cons x r=>
  have h:r.length+1<=1048576:=hl;have e:hlds (x::r)=.slice 7 (x.cs::r.map Hld.cs):=rfl;rw[e];exact zu
theorem qg4(l:List Hld)(hl:l.length<=1048576):DenN prog T 106 [hlds l] 7 (l.map Hld.cs):=
 (qgp l hl).new krq dcq (flatH l)
def qu(l:List Hld):List V:=(l.map Hld.cs).flatten
theorem jgm(x:Hld)(l:List Hld):qu (x::l)=x.cs++qu l:=rfl
theorem jl9:∀(l:List Hld),(qu l).length=l.length*7
 |[]=>rfl
 |x::l=>by rw[jgm,vr,jl9 l,List.length_cons];simp only[List.length_cons,List.length_nil];omega
theorem qh8:∀(l:List Hld),be 0 l.length 7 (qu l)=l.map Hld.cs:=by
 intro l
 have key:∀(l:List Hld) (i:Nat) (x:Hld),l[i]?=some x->((qu l).drop (i*7)).take 7=x.cs:=by
  intro l
  induction l with
  |nil=>intro i x h;simp at h
  |cons y r ih=>
   intro i x h;rw[jgm];cases i with
   |zero=>
    simp only[List.getElem?_cons_zero,vk] at h;subst h;simp
   |succ i=>
    simp only[List.getElem?_cons_succ] at h;have:(i+1)*7=y.cs.length+i*7:=by simp only[Hld.cs,List.length_cons,List.length_nil];omega
    rw[this,xbv];exact ih i x h
 refine xc6 fun i=>?_;simp only[be,xe];by_cases h:i<l.length
 .rw[List.getElem?_range h,gge h];simp only[Option.map_some,xl,vk];exact key l i _ (gge h)
 rw[xay (l:=List.range l.length) zep,xay (l:=l) omq];rfl
theorem jvs:∀(l:List Hld) (i:Nat) (x:Hld) (d:Int),l[i]?=some x->(qu l).take (i*7+6)++[vi d]++(qu l).drop (i*7+6+1)=qu (cutH l i d)
 |[],i,x,d,h=>by simp at h
 |y::r,0,x,d,h=>by
  simp only[List.getElem?_cons_zero,vk] at h;subst h;rfl
 |y::r,i+1,x,d,h=>by
  simp only[List.getElem?_cons_succ] at h;have ih:=jvs r i x d h;have e:cutH (y::r) (i+1) d=y::cutH r i d:=by simp[cutH,h]
  rw[e,jgm,jgm,<- ih];have e1:(i+1)*7+6=y.cs.length+(i*7+6):=by simp only[Hld.cs,List.length_cons,List.length_nil];omega
  have e2:(i+1)*7+6+1=y.cs.length+(i*7+6+1):=by simp only[Hld.cs,List.length_cons,List.length_nil];omega
  rw[e2,e1,xd2,xbv];simp only[xb]
theorem qoi(l:List Hld)(f:FuncId)(cap:List V)(p:Hld->Bool)(hl:l.length<=1048576)(hp:∀e∈l,Den prog T f (.agg e.cs::cap) (vb (p e))):
   Den prog T 228 [hlds l,.func f cap] (vi (ix p l)):=by
  refine ab call228 func228 19 ?_;exact ixPf
theorem qta(h:Hld)(n:Int):Den prog T 229 [.agg h.cs,.row [vi n]] (vb (po n h)):=by
 refine ab call229 func229 8 ?_;exact za
theorem lc{a b c:V}(h:Wk a b):Wk (.tup [a,c]) (.tup [b,c]):=by
 refine .tup rfl fun j v u h1 h2=>?_;rcases j with _|_|j
 .cases h1;cases h2;exact h
 .cases h1;cases h2;exact .refl _
 simp at h1
abbrev relV(l:List Hld)(n d:Int):V:=.tup [hlds (relL l n d),vi (relE l n d)]
theorem qyz(h:uw l=false):relE l n d=1:=by unfold relE;rw[ve h]
theorem qyy(h:uw l=true)(h7:ka l n<0):relE l n d=7:=by unfold relE;rw[vd zey,ve h7]
theorem qcv(h:uw l=true)(hi:ka l n=i)(hx:l[i]?=some x)(h2:d<=x.frm\/x.til<d):relE l n d=2:=by
 unfold relE;rw[vd zey,vd omq,hi,Int.toNat_natCast,hx];simp only;rw[ve h2]
theorem qz0(h:uw l=true)(hi:ka l n=i)(hx:l[i]?=some x)(h2:¬(d<=x.frm\/x.til<d)):relE l n d=0:=by
 unfold relE;rw[vd zey,vd omq,hi,Int.toNat_natCast,hx];simp only;rw[vd h2]
theorem jiz{e:Int}(h:relE l n d=e)(hne:e≠0):relV l n d=.tup [hlds [],vi e]:=by
 unfold relV relL;rw[vd (by rw[h];exact hne),h]
theorem qyx(h:relE l n d=0)(hi:ka l n=i):relV l n d=.tup [hlds (cutH l i d),vi 0]:=by
 unfold relV relL;rw[ve h,h,hi,Int.toNat_natCast]
theorem qhq(l:List Hld)(n:Int):ka l n<0\/∃(i:Nat) (x:Hld),ka l n=i/\i<l.length/\l[i]?=some x/\x.id=n:=by
 rcases jf4 (po n) l with⟨h,-⟩|⟨k,x,h1,h2,h3,-,h4⟩
 .left;show ix (po n) l<0;rw[h];decide
 right;exact⟨k,x,h1,h2,h3,by simpa [po] using h4⟩
theorem qi5(L:LibC T)(l:List Hld)(n d:Int)(hl:jg5 l):Den prog T 169 [hlds l,vi n,vi d] (relV l n d):=by
 have hl0:=hl.1;refine ab call169 func169 51 ?_;refine rc (jvh L l hl) ?_;by_cases hg0:¬(ib l).2=0
 .rw[jiz (e:=1) (qyz (by simp[uw,hg0])) dcq];refine run ?_;exact finW (lc (.nil 7))
 have hz:(ib l).2=0:=yt.1 hg0;have hg:uw l=true:=by simp[uw,hz]
 refine rc (qoi l _ _ (po n) hl0 fun h _=>qta h n) ?_;rcases qhq l n with h7|⟨i,x,hi,hlt,hx,-⟩
 .rw[jiz (qyy hg h7) dcq];have h7':ix (po n) l<0:=h7;refine run ?_;exact finW (lc (.nil 7))
 rw[show ix (po n) l=(i:Int) from hi];by_cases a1:d<=x.frm
 .rw[jiz (qcv hg hi hx (.inl a1)) dcq];refine runW hx ?_;exact finW (lc (.nil 7))
 by_cases a2:x.til<d
 .rw[jiz (qcv hg hi hx (.inr a2)) dcq];refine runW hx ?_;exact finW (lc (.nil 7))
 rw[qyx (qz0 hg hi hx omq) hi];refine runW hx ?_;refine pu (qg4 l hl0) ?_ ?_
 .intro hz;have:l=[]:=by simpa using hz
  subst this;simp at hlt
 intro _;have hcl:=jl9 l;have hcut:=jvs l i x d hx;have hcc:=qh8 (cutH l i d);rw[jzx] at hcc;rw[show (l.map Hld.cs).flatten=qu l from rfl];generalize qu l=C at hcl hcut;refine run ?_;refine jd4 (Wk.of ?_) ?_
 .rw[show hlds (cutH l i d)=.slice 7 ((cutH l i d).map Hld.cs) from rfl,<- hcc,<- hcut]
 rw[hcut,jl9,jzx];omega
theorem qp3(a:List Hld)(ha:a.length<=1048576):Den prog T 40 [hlds a,hlds a] (vb true):=by
 refine ab call40 func40 26 ?_;refine run ?_;refine dl ⟨[5,0,1],[],[],[]⟩ (fun k:Nat=>k<=a.length) (fun k=>a.length-k) (fun k=>[(5,.v (vi k))]) 0 omq ?_;intro k hk;by_cases hlt:k<a.length
 .obtain⟨x,hx,hd,-⟩:=af hlt;refine runW hx ?_;exact round (k+1) omq omq
 exact za
end Go.Arc
