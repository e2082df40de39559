/- A part of this claim. -/
import Derived.Test.YtpaallejmocmaaaGreatDoorBaS
import Derived.Test.YtpaallejmocmaaaGreatDoorBaT
set_option maxHeartbeats 1000000
set_option maxRecDepth 100000
namespace Go.Arc
open Go.Ab Go.RowKit Go.Proofs Tryz
variable {T : Lay}
variable {h:Hld}{ps:List Plan}{os:List Ofc}{f:Fil}{l:List Hld}{d:Int}{i:Nat}
theorem qs5(f u d:Int):inS f u d=(decide (f<=d) && decide (d<u)):=by simp[inS]
theorem qsl(o:Ofc)(d:Int):Den prog T 388 [.agg o.cs,vi d] (vb (inS o.frm o.til d)):=by
 refine ab call388 func388 17 ?_;rw[qs5];by_cases h1:o.frm<=d
 .refine run ?_;exact fin (ae (by first|rfl|simp[h1]))
 refine run ?_;exact fin (ae (by first|rfl|simp[h1]))
abbrev jcb(l:List Ofc)(n:Int):V:=if dy l=true/\(ar l n).isSome=true then .tup [mapO (idxO l),vb true] else .tup [.val (.map none),vb false]
theorem qme(L:LibC T)(l:List Ofc)(n:Int)(hl:gq l):Den prog T 387 [ofcs l,vi n] (jcb l n):=by
 have hl0:=hl.1;refine ab call387 func387 23 ?_;refine rc (jkc L l hl) ?_;by_cases g1:(fy l).2=0
 .have go:dy l=true:=by simp[dy,g1]
  refine rc (jx2 l n hl0) ?_;rcases ja5 l n with⟨h1,h2⟩|⟨i,q,h1,h2,h3⟩
  .rw[jcb,ul (by simp[h2])];exact za
  rw[jcb,um ⟨go,by simp[h3]⟩,h1];refine rc (jwx l hl0) ?_;exact za
 have go:dy l=false:=by simp[dy,g1]
 rw[jcb,ul (by simp[go])];exact za
theorem qnb(L:LibC T)(l:List Ofc)(n d:Int)(hl:gq l):DenO prog T 343 [ofcs l,vi n,vi d] 3 (ints (chain l n d)):=by
 have hl0:=hl.1;refine lf call343 func343 44 ?_;refine rc (qme L l n hl) ?_;by_cases hk:dy l=true/\(ar l n).isSome=true
 .obtain⟨hg,hs⟩:=hk;rw[jcb,um ⟨hg,hs⟩];obtain⟨o0,ho0⟩:=yw.1 hs;rw[juy hg ho0];have hz:=jfn (mj (idxO l));have hf0:=jbi n (idxO l);rw[jhc,ho0] at hf0;refine runW (ai hz (ai hf0 (ai jal jam))) ?_;have hg0:=jga hg ho0
  refine loop ⟨[2,7,9,10],[10],[9],[(9,3,1)]⟩ (fun y:Nat×List Int×Ofc=>(∃k,ar l k=some y.2.2)/\y.2.1.length+y.1=1048577/\1048577<=(y.1:Int)+y.2.2.frm/\y.2.1++chainF l d y.1 y.2.2=chainF l d 1048577 o0) (fun y=>y.1)
   (fun y=>⟨44,[(2,.v (vi d)),(7,.v (mapO (idxO l))),(9,.v (ints y.2.1)),(10,.p 10 0)],[(10,.var y.2.2.cs)],[(3,[9])]⟩) (1048577,[],o0) ⟨⟨n,ho0⟩,smq,by simp only;omega,smq⟩ ?_
  rintro⟨m,out,o⟩ ⟨⟨k,hko⟩,hlen,hm,hch⟩;simp only at hko hlen hm hch;obtain⟨q1,q2,q3,q4⟩:=jga hg hko;have hap:out.map Cint++[[V.val (.int .i64 o.id)]]=(out++[o.id]).map Cint:=by simp
  refine rcW hap (qsl o d) ?_;cases hin:inS o.frm o.til d
  .obtain⟨nx,hnx⟩:∃nx,o.nxt=nx:=⟨_,rfl⟩;cases nx with
   |nil=>
    rw[jgl m (jvt hnx)] at hch;refine runW hnx ?_;refine finO (.of ?_);rw[<- hch]
   |cons x r=>
    obtain⟨q,hq,hqf⟩:=q4 x (by rw[hnx];simp);have hno:jl l d o=some q:=by rw[ju1 hin hnx];exact hq
    obtain⟨m',rfl⟩:∃m',m=m'+1:=⟨m-1,omq⟩;rw[jte m' hno] at hch;have hf:=jbi x (idxO l);rw[jhc,hq] at hf;refine runW (ai hnx (ai hz (ai hf (ai jal jam)))) ?_;refine round (m',out++[o.id],q) ⟨⟨x,hq⟩,by simp only[ve,List.length_cons,List.length_nil];omega,by simp only;omega,?_⟩ zev;simp only;rw[<- hch];simp
  rw[jgl m (jy7 hin)] at hch;refine run ?_;refine finO (.of ?_);rw[<- hch]
 rw[jcb,ul hk]
 have hc:chain l n d=[]:=by
  cases hg:dy l
  .exact jxb hg
  cases hs:ar l n with
  |none=>exact juz hs
  |some q=>exact absurd ⟨hg,by simp[hs]⟩ hk
 rw[hc];refine run ?_;exact finO (.nil 1)
theorem qfx(l:List Ofc)(n d:Int)(hl:gq l):DenO prog T 303 [ofcs l,vi n,vi d] 3 (ints (chain l n d)):=by
 have hl0:=hl.1;refine lf call303 func303 55 ?_;refine rc (jcz l n hl0) ?_;refine rc (js8 l hl) ?_;cases hg:dy l
 .rw[jxb hg];exact zq
 rcases ja5 l n with⟨h1,h2⟩|⟨i0,o0,h1,h2,ho0⟩
 .rw[juz h2];exact zq
 rw[juy hg ho0,h1];have hg0:=jga hg ho0;refine run ?_
 refine loop ⟨[0,2,7,8],[],[7],[]⟩ (fun y:Nat×List Int×Nat×Ofc=>(∃k,ar l k=some y.2.2.2)/\l[y.2.2.1]?=some y.2.2.2/\y.2.1.length+y.1=1048577/\1048577<=(y.1:Int)+y.2.2.2.frm/\y.2.1++chainF l d y.1 y.2.2.2=chainF l d 1048577 o0) (fun y=>y.1)
  (fun y=>⟨55,[(0,.v (ofcs l)),(2,.v (vi d)),(7,.v (ints y.2.1)),(8,.v (vi y.2.2.1))],[],[(3,[7])]⟩) (1048577,[],i0,o0) ⟨⟨n,ho0⟩,h2,smq,by simp only;omega,smq⟩ ?_
 rintro⟨m,out,i,o⟩ ⟨⟨k,hko⟩,hio,hlen,hm,hch⟩;simp only at hko hio hlen hm hch;obtain⟨q1,q2,q3,q4⟩:=jga hg hko;have hap:out.map Cint++[[V.val (.int .i64 o.id)]]=(out++[o.id]).map Cint:=by simp
 refine rcW (ai hio hap) (rz o.frm o.til d) ?_;cases hin:inS o.frm o.til d
 .obtain⟨nx,hnx⟩:∃nx,o.nxt=nx:=⟨_,rfl⟩;cases nx with
  |nil=>
   rw[jgl m (jvt hnx)] at hch;refine runW (ai hio hnx) ?_;refine finO (.of ?_);rw[<- hch]
  |cons x r=>
   obtain⟨q,hq,hqf⟩:=q4 x (by rw[hnx];simp);have hno:jl l d o=some q:=by rw[ju1 hin hnx];exact hq
   obtain⟨m',rfl⟩:∃m',m=m'+1:=⟨m-1,omq⟩;rw[jte m' hno] at hch;rcases ja5 l x with⟨g1,g2⟩|⟨j,q',g1,g2,g3⟩
   .rw[g2] at hq;cases hq
   rw[g3] at hq;cases hq;refine rcW (ai hio hnx) (jcz l x hl0) ?_;rw[g1];refine run ?_;refine round (m',out++[o.id],j,q) ⟨⟨x,g3⟩,g2,by simp only[ve,List.length_cons,List.length_nil];omega,by simp only;omega,?_⟩ zev;simp only;rw[<- hch];simp
 rw[jgl m (jy7 hin)] at hch;refine run ?_;refine finO (.of ?_);rw[<- hch]
theorem jww(n:Int):Den prog T 315 [vi n] (vb (idB n)):=by
 refine ab call315 func315 9 ?_;unfold idB;by_cases h1:1<=n<;>by_cases h2:n<=1073741824<;>(refine run ?_;refine fin (ae ?_);simp;try omega)
theorem qia(f u:Int):Den prog T 316 [span f u] (vb (bm f u)):=by
 refine ab call316 func316 18 ?_;unfold bm;by_cases h1:0<=f<;>by_cases h2:f<u<;>by_cases h3:u<=1048576<;>(refine run ?_;refine fin (ae ?_);simp;try omega)
theorem qad(hk:h.kind≠3):ga h=if idB h.obj=false\/h.cls≠[] then 1 else 0:=by unfold ga;rw[um hk]
theorem qaf(hk:h.kind=3)(ho:h.obj≠0):ga h=1:=by unfold ga;rw[ul (by simp[hk]),um ho]
theorem qae(hk:h.kind=3)(ho:h.obj=0):ga h=if(ak h.cls).isNone=true then 3 else 0:=by unfold ga;rw[ul (by simp[hk]),ul (by simp[ho])]
theorem qag{s:Str}: (s == [])=decide (s=[]):=by cases s<;>rfl
theorem qui(L:LibC T)(h:Hld)(hf:h.Fit):Den prog T 314 [.agg h.cs] (vi (ga h)):=by
 refine ab call314 func314 27 ?_;by_cases hk:h.kind=3
 .by_cases ho:h.obj=0
  .rw[qae hk ho];refine rc (te L h.cls hf.1) ?_;cases hp:ak h.cls with
   |none=>rw[gv hp];refine run ?_;exact fin rfl
   |some l=>rw[gu hp];refine run ?_;exact fin rfl
  rw[qaf hk ho];exact za
 rw[qad hk];refine rc (jww h.obj) ?_;cases hi:idB h.obj
 .rw[um (.inl rfl)];exact za
 cases hc:h.cls == []
 .have hne:h.cls≠[]:=fun e=>by rw[e] at hc;cases hc
  rw[um (.inr hne)];refine runW hc ?_;exact fin rfl
 have he:h.cls=[]:=by rw[qag] at hc;simpa using hc
 rw[ul (by simp[he])];refine runW hc ?_;exact fin rfl
theorem je5(hi:l[i]?=some h)(hb:badH h):lz l i=2:=by simp only[lz,hi];rw[um hb]
theorem jyn(hi:l[i]?=some h)(hb:¬badH h):lz l i=if uc l i h=true then 5 else if ga h≠0 then ga h else if name h.why=false then 4 else 0:=by
 simp only[lz,hi];rw[ul hb]
theorem oq(h:Hld):badH h↔(idB h.id=false\/h.kind<1\/3<h.kind\/bm h.frm h.til=false):=Iff.rfl
theorem jsk(hi:i<l.length)(h:Hld):(uc l i h=true/\∃q,i≠0/\l[i-1]?=some q/\h.id<=q.id)\/(uc l i h=false/\(i=0\/∃q,i≠0/\l[i-1]?=some q/\¬h.id<=q.id)):=by
 by_cases h0:i=0
 .right;rw[h0];exact⟨qrr l h,.inl rfl⟩
 obtain⟨q,hq,-,-⟩:=ac (l:=l) (k:=i-1) omq;by_cases hle:h.id<=q.id
 .left;exact⟨by rw[qa2 h0 hq];simp[hle],q,h0,hq,hle⟩
 right;exact⟨by rw[qa2 h0 hq];simp[hle],.inr ⟨q,h0,hq,hle⟩⟩
theorem qj0(L:LibC T)(l:List Hld)(i:Nat)(hl:uj l)(hi:i<l.length):Den prog T 252 [hlds l,vi i] (vi (lz l i)):=by
 obtain⟨hl0,hf⟩:=hl;obtain⟨h,hh,-,hm⟩:=ac hi;have hff:=hf h hm;refine ab call252 func252 57 ?_;refine rcW hh (qui L h hff) ?_;refine rc (jww h.id) ?_;cases b1:idB h.id
 .rw[je5 hh ((oq h).2 (.inl b1))];exact za
 by_cases b2:h.kind<1
 .rw[je5 hh ((oq h).2 (.inr (.inl b2)))];exact za
 by_cases b3:3<h.kind
 .rw[je5 hh ((oq h).2 (.inr (.inr (.inl b3))))];exact za
 refine rc (qia h.frm h.til) ?_;cases b4:bm h.frm h.til
 .rw[je5 hh ((oq h).2 (.inr (.inr (.inr b4))))];exact za
 rw[jyn hh fun hb=>by
  rcases (oq h).1 hb with h|h|h|h
  .rw[b1] at h;cases h
  .exact b2 h
  .exact b3 h
  rw[b4] at h;cases h]
 rcases jsk hi h with⟨hpv,q,h0,hq,hle⟩|⟨hpv,h0|⟨q,h0,hq,hle⟩⟩
 .exact zbr
 all_goals
  rw[ul zex];by_cases he:ga h=0
  .rw[ul (by simp[he]),he]
   first
    |(subst h0;refine run ?_)
    |refine runW hq ?_
   refine call (jah L h.why hff.2) ?_;cases name h.why
   .exact za
   exact za
  rw[um he]
  first
   |(subst h0;refine run ?_)
   |refine runW hq ?_
  exact fin rfl
theorem qjg(L:LibC T)(l:List Hld)(hl:uj l):Den prog T 173 [hlds l] (chkV (ji l)):=by
 have hl0:=hl.1;refine ab call173 func173 22 ?_;by_cases h16:64<l.length
 .refine run ?_;refine fin ?_;simp only[chkV,ji,jn h16]
 refine run ?_;refine aj ⟨[11,0,10],[],[],[]⟩ l.length (fun k=>∀i,i<k->lz l i=0) omq ?_;rintro k ⟨hk,hall⟩;by_cases hlt:k<l.length
 .refine rc (qj0 L l k hl hlt) ?_;by_cases hz:lz l k=0
  .refine run ?_;refine round (k+1) ⟨omq,fun i hi=>?_⟩ omq;by_cases e:i=k
   .exact zc6
   exact zb3
  refine run ?_;refine fin ?_;simp only[chkV,ji,kf h16 hlt hall hz]
 refine run ?_;refine fin ?_;simp only[chkV,ji,ir h16 fun i hi=>hall i omq]
theorem qfi(h:Hld):Den prog T 227 [.agg h.cs] (vi (if badH h then 2 else 0)):=by
 refine ab call227 func227 27 ?_;by_cases a1:h.id<1
 .rw[um ((oq h).2 (.inl (by simp[idB];omega)))];exact za
 by_cases a2:1073741824<h.id
 .rw[um ((oq h).2 (.inl (by simp[idB];omega)))];exact za
 by_cases b2:h.kind<1
 .rw[um ((oq h).2 (.inr (.inl b2)))];exact za
 by_cases b3:3<h.kind
 .rw[um ((oq h).2 (.inr (.inr (.inl b3))))];exact za
 refine rc (jdf h.frm h.til) ?_;cases b4:bm h.frm h.til
 .rw[um ((oq h).2 (.inr (.inr (.inr b4))))];exact za
 rw[ul fun hb=>by
  rcases (oq h).1 hb with h|h|h|h
  .simp[idB] at h;omega
  .exact b2 h
  .exact b3 h
  rw[b4] at h;cases h]
 exact za
theorem sc_e{e:Int}(he:ga h=e)(hne:e≠0):(if ga h≠0 then ga h else if name h.why=false then 4 else 0)=e:=by rw[um zfo,he]
theorem sc_z(he:ga h=0):(if ga h≠0 then ga h else if name h.why=false then 4 else 0)=if name h.why=false then(4:Int) else 0:=by rw[ul (by simp[he])]
theorem qm2(h:Hld)(hf:h.Fit):Den prog T 228 [.agg h.cs] (vi (if ga h≠0 then ga h else if name h.why=false then 4 else 0)):=by
 refine ab call228 func228 44 ?_;by_cases hk:h.kind=3
 .by_cases ho:h.obj=0
  .have hc:=qae hk ho;refine rc (jjc h.cls hf.1) ?_;cases hp:ak h.cls with
   |none=>
    rw[hp] at hc;rw[sc_e (e:=3) (by rw[hc];rfl) dcq];exact za
   |some l=>
    rw[hp] at hc;rw[sc_z (by rw[hc];rfl)];refine rc (sv h.why hf.2) ?_;cases name h.why
    .exact za
    exact za
  rw[sc_e (qaf hk ho) dcq];exact za
 have hn:=qad hk;by_cases a1:h.obj<1
 .exact zdo
 by_cases a2:1073741824<h.obj
 .exact zdo
 have hi:idB h.obj=true:=by simp[idB];omega
 cases hc:h.cls == []
 .have hne:h.cls≠[]:=fun e=>by rw[e] at hc;cases hc
  rw[um (.inr hne)] at hn;rw[sc_e hn dcq];refine runW hc ?_;exact fin rfl
 have he:h.cls=[]:=by rw[qag] at hc;simpa using hc
 rw[ul (show ¬(idB h.obj=false\/h.cls≠[]) by simp[he,hi])] at hn;rw[sc_z hn];refine rcW hc (sv h.why hf.2) ?_;cases name h.why
 .exact za
 exact za
theorem qer(l:List Hld)(hl:uj l):Den prog T 148 [hlds l] (chkV (ji l)):=by
 have hl0:=hl.1;refine ab call148 func148 51 ?_;by_cases h16:64<l.length
 .refine run ?_;refine fin ?_;simp only[chkV,ji,jn h16]
 refine run ?_;refine aj ⟨[4,0],[],[],[]⟩ l.length (fun k=>∀i,i<k->lz l i=0) omq ?_;rintro k ⟨hk,hall⟩;by_cases hlt:k<l.length
 .obtain⟨h,hh,-,hm⟩:=ac hlt;have hff:=hl.2 h hm
  have out:∀e:Int,lz l k=e->e≠0->chkV (ji l)=.tup [vi k,vi e]:=fun e he hne=>by
   rw[ji,kf h16 hlt hall zfo,he]
  have nxt:lz l k=0->∀i,i<k+1->lz l i=0:=fun hz i hi=>by
   by_cases e:i=k
   .exact zc6
   exact zb3
  refine rcW hh (qfi h) ?_;by_cases hb:badH h
  .rw[um hb,out 2 (je5 hh hb) dcq];exact za
  rw[ul hb];have hr:=jyn hh hb;rcases jsk hlt h with⟨hpv,q,h0,hq,hle⟩|⟨hpv,h0|⟨q,h0,hq,hle⟩⟩
  .exact zef
  all_goals
   rw[ul zex] at hr
   first
    |refine runW (ai hh hq) ?_
    |refine runW hh ?_
   refine call (qm2 h hff) ?_;rw[<- hr];by_cases hz:lz l k=0
   .first
     |(refine run ?_;exact round (k+1) ⟨omq,nxt hz⟩ omq)
   rw[out _ rfl hz];exact za
 refine run ?_;refine fin ?_;simp only[chkV,ji,ir h16 fun i hi=>hall i omq]
theorem jkd(hi:inS h.frm h.til d=false):pb os ps h f d=false:=by simp[pb,hi]
theorem jx6(hi:inS h.frm h.til d=true):pb os ps h f d=pj os ps h f d:=by simp[pb,hi]
theorem qaq(hk:h.kind=1):pj os ps h f d=decide (h.obj=f.id):=by simp[pj,hk]
theorem qap(hk:h.kind=2):pj os ps h f d=(chain os f.ofc d).any (fun y=>decide (h.obj=y)):=by simp[pj,hk]
theorem qao(hk:h.kind=3):pj os ps h f d=(decide ((bu ps f d).2=0) && bx (bu ps f d).1 h.cls):=by simp[pj,hk]
theorem joi(h1:h.kind≠1)(h2:h.kind≠2)(h3:h.kind≠3):pj os ps h f d=false:=by simp[pj,h1,h2,h3]
theorem jxa(os:List Ofc)(n d:Int):(chain os n d).length<=1048578:=by
 unfold chain;split
 .simp
 split
 .simp
 exact jv0 os d 1048577 _
theorem jgk{l:List Plan}(hl:Fits l)(hf:f.Fit)(d:Int):(bu l f d).1.length<=1048576:=by
 unfold bu;split
 .simp
 split
 .simp
 split
 .simp
 exact jv9 hl _ _ _ hf.1
theorem qgk(l:List Int)(x:Int)(hl:l.length<=1048578):Den prog T 22 [ints l,vi x] (vb (l.any fun y=>decide (x=y))):=by
 have h0:Den prog T 67 [ints l,vi x] (vi (ix (fun y=>decide (x=y)) l)):=by
  refine ab call67 func67 19 ?_;refine run ?_;refine aj ⟨[8,0,1,7],[],[],[]⟩ l.length (fun k=>∀n∈l.take k,decide (x=n)=false) smq ?_;rintro k ⟨hk,hall⟩;by_cases hlt:k<l.length
  .obtain⟨y,hy,-,-⟩:=ac hlt;by_cases hxy:x=y
   .exact zd0
   exact zcv
  refine run ?_;exact fin (ah (ov (p:=fun n=>decide (x=n)) hall hlt))
 refine ab call22 func22 9 ?_;refine rc h0 ?_;exact zbv
theorem qqj(h:Hld)(f:Fil):Den prog T 341 [.row h.cs,.row f.cs] (vb (decide (h.obj=f.id))):=by
 refine ab call341 func341 8 ?_;exact za
theorem qqi(L:LibC T)(os:List Ofc)(h:Hld)(f:Fil)(d:Int)(ho:gq os):Den prog T 342 [.row [ofcs os],.row f.cs,.row [vi d],.row h.cs] (vb ((chain os f.ofc d).any fun y=>decide (h.obj=y))):=by
 refine ab call342 func342 13 ?_;refine rc (qnb L os f.ofc d ho).den ?_;refine rc (qgk _ h.obj (jxa os f.ofc d)) ?_;exact za
theorem qqh(L:LibC T)(ps:List Plan)(h:Hld)(f:Fil)(d:Int)(hp:Fits ps)(hf:f.Fit)(hh:h.Fit):Den prog T 344 [.row [ay ps],.row f.cs,.row [vi d],.row h.cs] (vb (decide ((bu ps f d).2=0) && bx (bu ps f d).1 h.cls)):=by
 have hcl:=jgk hp hf d;refine ab call344 func344 22 ?_;refine rc (jx4 L ps f d hp hf) ?_;by_cases hz:(bu ps f d).2=0
 .refine rc (jkb L _ h.cls hcl hh.1) ?_;refine run ?_;refine fin (ae ?_)
  first|rfl|(simp[hz];done)|trace_state
 refine run ?_;refine fin (ae ?_)
 first|rfl|(simp[hz];done)|trace_state
theorem qje(L:LibC T)(os:List Ofc)(ps:List Plan)(h:Hld)(f:Fil)(d:Int)(ho:gq os)(hp:Fits ps)(hh:h.Fit)(hf:f.Fit):
  Den prog T 285 [ofcs os,ay ps,.agg h.cs,.agg f.cs,vi d] (vb (pb os ps h f d)):=by
 refine ab call285 func285 43 ?_;by_cases h1:d<h.frm
 .rw[jkd (by simp[inS];omega)];exact za
 by_cases h2:h.til<=d
 .rw[jkd (by simp[inS];omega)];exact za
 rw[jx6 (by simp[inS];omega)];by_cases k0:h.kind<=0
 .rw[joi omq omq omq];exact za
 by_cases k4:4<=h.kind
 .rw[joi omq omq omq];exact za
 by_cases k1:h.kind=1
 .rw[qaq k1];refine rcW k1 (qqj h f) ?_;exact za
 by_cases k2:h.kind=2
 .rw[qap k2];refine rcW k2 (qqi L os h f d ho) ?_;exact za
 have k3:h.kind=3:=omq;rw[qao k3];refine rcW k3 (qqh L ps h f d hp hf hh) ?_;exact za
theorem qeq(os:List Ofc)(ps:List Plan)(h:Hld)(f:Fil)(d:Int)(ho:gq os)(hp:Fits ps)(hh:h.Fit)(hf:f.Fit):
  Den prog T 242 [ofcs os,ay ps,.agg h.cs,.agg f.cs,vi d] (vb (pb os ps h f d)):=by
 have hcl:=jgk hp hf d;refine ab call242 func242 72 ?_;refine rc (rz h.frm h.til d) ?_;cases hin:inS h.frm h.til d
 .rw[jkd hin];exact za
 rw[jx6 hin];by_cases k1:h.kind=1
 .rw[qaq k1];exact za
 by_cases k2:h.kind=2
 .rw[qap k2];refine run ?_;refine uh (qfx os f.ofc d ho) ?_;have hcn:=jxa os f.ofc d;generalize chain os f.ofc d=C at hcn;refine run ?_;refine aj ⟨[12,7,11],[7],[],[]⟩ C.length (fun k=>∀y∈C.take k,decide (h.obj=y)=false) smq ?_;rintro k ⟨hk,hall⟩;by_cases hlt:k<C.length
  .obtain⟨y,hy,-,-⟩:=ac hlt;by_cases hxy:y=h.obj
   .rw[jj hy (by simp[hxy])];refine runW hy ?_;exact fin rfl
   refine runW hy ?_;exact round (k+1) ⟨omq,an (q:=fun y:Int=>decide (h.obj=y)=false) hall hy (by simp;exact fun e=>hxy e.symm)⟩ omq
  rw[nh hall hlt];exact za
 by_cases k3:h.kind=3
 .rw[qao k3];refine rc (jx1 ps hp) ?_;cases hg:goodL ps
  .rw[jz7 hg];exact za
  refine rc (jtb ps f d hp hf hg) ?_;by_cases hz:(bu ps f d).2=0
  .refine rc (jcw _ h.cls hcl hh.1) ?_;refine run ?_;refine fin (ae ?_)
   first|rfl|(simp[hz];done)|trace_state
  refine run ?_;refine fin (ae ?_)
  first|rfl|(simp[hz];done)|trace_state
 rw[joi k1 k2 k3];exact za
theorem jw2(os:List Ofc)(ps:List Plan)(f:Fil)(d:Int){k:Nat}(hk:l[k]?=some h):
  cg os ps (l.take (k+1)) f d=cg os ps (l.take k) f d++(if pb os ps h f d=true then [h.id] else []):=by
 unfold cg;rw[List.take_add_one,hk];simp only[Option.toList_some,qw4,vy,qwq,List.filter_nil];split<;>rfl
theorem qgs(L:LibC T)(os:List Ofc)(ps:List Plan)(l:List Hld)(f:Fil)(d:Int)(ho:gq os)(hp:Fits ps)(hl:uj l)(hf:f.Fit):
  DenO prog T 214 [ofcs os,ay ps,hlds l,.agg f.cs,vi d] 3 (ints (cg os ps l f d)):=by
 have hl0:=hl.1;refine lf call214 func214 33 ?_;refine run ?_
 refine loop ⟨[0,1,4,8,11,14,15,16],[8],[11],[(11,3,1)]⟩ (fun y:Nat×List Int=>y.1<=l.length/\y.2.length<=y.1/\y.2=cg os ps (l.take y.1) f d) (fun y=>l.length-y.1)
  (fun y=>⟨33,[(0,.v (ofcs os)),(1,.v (ay ps)),(4,.v (vi d)),(8,.p 8 0),(11,.v (ints y.2)),(14,.v (hlds l)),(15,.v (vi l.length)),(16,.v (vi y.1))],[(8,.var f.cs)],[(3,[11])]⟩) (0,[]) ⟨omq,smq,by simp[cg]⟩ ?_
 rintro⟨k,out⟩ ⟨hk,hlen,ho'⟩;simp only at hk hlen ho';by_cases hlt:k<l.length
 .obtain⟨h,hh,-,hm⟩:=ac hlt;have hsn:=jw2 os ps f d hh;rw[<- ho'] at hsn;refine rcW hh (qje L os ps h f d ho hp (hl.2 h hm) hf) ?_;cases hc:pb os ps h f d
  .exact zb1
  rw[hc] at hsn;have hap:out.map Cint++[[V.val (.int .i64 h.id)]]=(out++[h.id]).map Cint:=by simp
  refine runW hap ?_;exact zcj
 refine run ?_;refine finO (.of ?_);rw[ho',xn omq]
theorem qe4(os:List Ofc)(ps:List Plan)(l:List Hld)(f:Fil)(d:Int)(ho:gq os)(hp:Fits ps)(hl:uj l)(hf:f.Fit):
  DenO prog T 161 [ofcs os,ay ps,hlds l,.agg f.cs,vi d] 3 (ints (cg os ps l f d)):=by
 have hl0:=hl.1;refine lf call161 func161 38 ?_;refine run ?_
 refine loop ⟨[0,1,2,4,8,11,12],[8],[11],[]⟩ (fun y:Nat×List Int=>y.1<=l.length/\y.2.length<=y.1/\y.2=cg os ps (l.take y.1) f d) (fun y=>l.length-y.1)
  (fun y=>⟨38,[(0,.v (ofcs os)),(1,.v (ay ps)),(2,.v (hlds l)),(4,.v (vi d)),(8,.p 8 0),(11,.v (ints y.2)),(12,.v (vi y.1))],[(8,.var f.cs)],[(3,[11])]⟩) (0,[]) ⟨omq,smq,by simp[cg]⟩ ?_
 rintro⟨k,out⟩ ⟨hk,hlen,ho'⟩;simp only at hk hlen ho';by_cases hlt:k<l.length
 .obtain⟨h,hh,-,hm⟩:=ac hlt;have hsn:=jw2 os ps f d hh;rw[<- ho'] at hsn;refine rcW hh (qeq os ps h f d ho hp (hl.2 h hm) hf) ?_;cases hc:pb os ps h f d
  .exact zb1
  rw[hc] at hsn;have hap:out.map Cint++[[V.val (.int .i64 h.id)]]=(out++[h.id]).map Cint:=by simp
  refine runW (ai hh hap) ?_;exact zcj
 refine run ?_;refine finO (.of ?_);rw[ho',xn omq]
theorem qiw(a b:List Int)(ha:a.length<=1048576):Den prog T 109 [ints a,ints b] (vb (decide (a=b))):=by
 refine ab call109 func109 26 ?_;by_cases hl:a.length=b.length
 .refine run ?_;refine aj ⟨[13,0,1,12],[],[],[]⟩ a.length (fun k=>(a=b↔a.drop k=b.drop k)) smq ?_;rintro k ⟨hk,hall⟩;by_cases hlt:k<a.length
  .obtain⟨x,hx,hd,-⟩:=ac hlt;obtain⟨y,hy,he,-⟩:=ac (l:=b) (k:=k) omq;by_cases hxy:x=y
   .exact zbf
   refine runW (ai hx hy) ?_;refine fin (ae ?_)
   symm
   exact zdc
  refine run ?_;refine fin (ae ?_)
  symm;rw[decide_eq_true_iff,hall,dv hlt,dv (l:=b) omq]
 refine run ?_;refine fin (ae ?_);exact zck
theorem jcy(a b:List Int)(ha:a.length<=1048576):Den prog T 48 [ints a,ints b] (vb (decide (a=b))):=by
 refine ab call48 func48 26 ?_;by_cases hl:a.length=b.length
 .refine run ?_;refine aj ⟨[5,0,1],[],[],[]⟩ a.length (fun k=>(a=b↔a.drop k=b.drop k)) smq ?_;rintro k ⟨hk,hall⟩;by_cases hlt:k<a.length
  .obtain⟨x,hx,hd,-⟩:=ac hlt;obtain⟨y,hy,he,-⟩:=ac (l:=b) (k:=k) omq;by_cases hxy:x=y
   .exact zbf
   refine runW (ai hx hy) ?_;refine fin (ae ?_)
   symm
   exact zdc
  refine run ?_;refine fin (ae ?_)
  symm;rw[decide_eq_true_iff,hall,dv hlt,dv (l:=b) omq]
 refine run ?_;refine fin (ae ?_);exact zck
def jb1(h:Hld):Bool:= !(decide (100<h.cls.length) || decide (100<h.why.length))
def fewH(l:List Hld):Bool:= !((decide (12<l.length) && decide (l.length<=64)) || decide (69<l.length)) && l.all jb1
theorem qn8(l:List Hld)(hl0:l.length<=2097152)(hl:∀h∈l,h.Fit):Den prog T 63 [hlds l] (vb (fewH l)):=by
 refine ab call63 func63 39 ?_;by_cases g:(12<l.length/\l.length<=64)\/69<l.length
 .have hf:fewH l=false:=by
   rcases g with⟨g1,g2⟩|g
   .simp[fewH,g1,g2]
   simp[fewH,g]
  rw[hf];by_cases a1:l.length<=64
  .have a2:12<l.length:=omq;exact za
  have a2:12<l.length:=omq;have a3:69<l.length:=omq;exact za
 have hq:fewH l=l.all jb1:=by
  have e1:(decide (12<l.length) && decide (l.length<=64))=false:=by
   cases e:decide (12<l.length)
   .rfl
   have:12<l.length:=by simpa using e
   simp;omega
  have e2:decide (69<l.length)=false:=by simp;omega
  simp only[fewH,e1,e2,xx,qvl,yc]
 have go:∀Q:Prop,(12<l.length->¬l.length<=64->Q)->(¬ 12<l.length->Q)->Q:=fun Q a b=>by
  by_cases a1:12<l.length
  .exact a a1 omq
  exact b a1
 rw[hq];have a3:¬ 69<l.length:=omq;refine go _ (fun a1 a2=>?_) (fun a1=>?_) <;>
 .refine run ?_;refine aj ⟨[3,0],[],[],[]⟩ l.length (fun k=>∀p∈l.take k,jb1 p=true) smq ?_;rintro k ⟨hk,hall⟩;by_cases hlt:k<l.length
  .obtain⟨x,hx,hd,hm⟩:=ac hlt;obtain⟨f1,f2⟩:=hl x hm;by_cases g1:100<x.cls.length
   .refine runW hx ?_;refine fin (ae ?_);rw[kr hx (by simp[jb1,g1])]
   by_cases g2:100<x.why.length
   .refine runW hx ?_;refine fin (ae ?_);rw[kr hx (by simp[jb1,g2])]
   refine runW hx ?_;exact round (k+1) ⟨omq,an (q:=fun p:Hld=>jb1 p=true) hall hx (by simp[jb1,g1,g2])⟩ omq
  refine run ?_;refine fin (ae ?_);rw[jat hall hlt]
theorem qqd(l:List Hld)(hl:uj l):Den prog T 63 [hlds l] (vb (fewH l)):=qn8 l (xa hl.1 dcq) hl.2
theorem qn2(a:List Hld)(ha:a.length<=1048576):Den prog T 46 [hlds a,hlds a] (vb true):=by
 refine ab call46 func46 26 ?_;refine run ?_;refine bp ⟨[5,0,1],[],[],[]⟩ (fun k:Nat=>k<=a.length) (fun k=>a.length-k) (fun k=>[(5,.v (vi k))]) 0 omq ?_;intro k hk;by_cases hlt:k<a.length
 .obtain⟨x,hx,hd,-⟩:=ac hlt;refine runW hx ?_;exact zy
 exact za
end Go.Arc
