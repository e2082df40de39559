/- A part of this claim. -/
import Derived.Test.YtdljpbdmcgmalaaGreatDoorWR
import Derived.Test.YtdljpbdmcgmalaaGreatDoorBaW
set_option maxRecDepth 100000
namespace Go.Arc
open Go.Ab Go.RowKit Go.Proofs Tryz
variable {T : Lay}
abbrev yi (n:Nat):V:=vi ((1600+n:Nat):Int)
theorem yr_mod (n k:Nat) (h:1600 % k=0):(((1600+n:Nat):Int)).tmod (k:Int)=((n % k:Nat):Int):=by
 rw[jcp,Nat.add_mod,h,Nat.zero_add,Nat.mod_mod]
theorem yr_sub (n:Nat):((1600+n:Nat):Int)-1600=(n:Int):=om
theorem add_div (n a k:Nat):((n:Int)+(a:Int)).tdiv (k:Int)=(((n+a) / k:Nat):Int):=by
 rw[<- jht]; rfl
theorem den_leap (n:Nat):Den prog T 380 [yi n] (vb (jbj n)):=by
 refine ja0 call380 func380 16 ?_;have h4:(((1600+n:Nat):Int)).tmod 4=((n % 4:Nat):Int):=yr_mod n 4 rfl;have h100:(((1600+n:Nat):Int)).tmod 100=((n % 100:Nat):Int):=yr_mod n 100 rfl;have h400:(((1600+n:Nat):Int)).tmod 400=((n % 400:Nat):Int):=yr_mod n 400 rfl;have hl:jbj n=(decide (n % 4=0) && (decide (n % 100≠0) || decide (n % 400=0))):=rfl;by_cases a4:n % 4=0
 ·by_cases a100:n % 100=0
  ·by_cases a400:n % 400=0
   ·refine runW (ai h4 (ai h100 (ai h400 (ai a4 (ai a100 a400))))) ?_;refine fin (ja3 ?_);rw[hl];simp[a4,a100,a400]
   ·refine runW (ai h4 (ai h100 (ai h400 (ai a4 a100)))) ?_;refine fin (ja3 ?_);rw[hl];simp[a4,a100,a400]
  ·refine runW (ai h4 (ai h100 (ai h400 a4))) ?_;refine fin (ja3 ?_);rw[hl];simp[a4,a100]
 ·refine runW (ai h4 (ai h100 h400)) ?_;refine fin (ja3 ?_);rw[hl];simp[a4]
theorem jmw (n:Nat) (hn:n<=4000):Den prog T 360 [yi n] (vi (bgn n)):=by
 refine ja0 call360 func360 20 ?_;have h4:((n:Int)+3).tdiv 4=(((n+3) / 4:Nat):Int):=add_div n 3 4;have h100:((n:Int)+99).tdiv 100=(((n+99) / 100:Nat):Int):=add_div n 99 100;have h400:((n:Int)+399).tdiv 400=(((n+399) / 400:Nat):Int):=add_div n 399 400;have hb:(bgn n:Int)=365*(n:Int)+(((n+3) / 4:Nat):Int)-(((n+99) / 100:Nat):Int)+(((n+399) / 400:Nat):Int):=by unfold bgn; omega
 refine runW (ai (yr_sub n) (ai h4 (ai h100 h400))) ?_;exact fin (ja5 hb.symm)
theorem lenM_le (l:Bool) (m:Nat):lenM l m<=31:=by
 unfold lenM;split
 ·decide
 ·rcases m with _ | m
  ·decide
  ·rcases Nat.lt_or_ge m 12 with h | h
   ·have:m=0\/m=1\/m=2\/m=3\/m=4\/m=5\/m=6\/m=7\/m=8\/m=9\/m=10\/m=11:=om
    rcases this with rfl | rfl | rfl | rfl | rfl | rfl | rfl | rfl | rfl | rfl | rfl | rfl <;> decide
   ·rw[show m+1-1=m from rfl,List.getElem?_eq_none (by simpa [mlens] using h)]; decide
theorem lenM_ge {l:Bool} {m:Nat} (h1:1<=m) (h2:m<=12):28<=lenM l m:=by
 have:m=1\/m=2\/m=3\/m=4\/m=5\/m=6\/m=7\/m=8\/m=9\/m=10\/m=11\/m=12:=om
 rcases this with rfl | rfl | rfl | rfl | rfl | rfl | rfl | rfl | rfl | rfl | rfl | rfl <;> cases l <;> decide
theorem sumM_le (l:Bool):∀m:Nat,sumM l m<=31*m
 | 0=>Nat.zero_le _
 | m+1=>by
  unfold sumM;split
  ·omega
  ·have:=sumM_le l m;have:=lenM_le l m;omega
abbrev mlv:V:= .agg [vi 31,vi 28,vi 31,vi 30,vi 31,vi 30,vi 31,vi 31,vi 30,vi 31,vi 30,vi 31]
theorem jrk:Den prog T 381 [] mlv:=by
 refine ja0 call381 func381 2 ?_;exact zt
theorem jmi (n m:Nat) (hn:n<=2870) (h1:1<=m) (h2:m<=12):Den prog T 359 [yi n,vi m] (vi (lenM (jbj n) m)):=by
  refine ja0 call359 func359 29 ?_;have hm:m=1\/m=2\/m=3\/m=4\/m=5\/m=6\/m=7\/m=8\/m=9\/m=10\/m=11\/m=12:=om
  by_cases e2:m=2
  · subst e2;refine rc (den_leap n) ?_;cases hl:jbj n
    · refine rc jrk ?_;exact za
    · exact za
  · have hlen:lenM (jbj n) m=lenM false m:=by unfold lenM; rw[if_neg (fun h=>e2 h.1),if_neg (fun h=>e2 h.1)]
    rw[hlen];rcases hm with rfl | rfl | rfl | rfl | rfl | rfl | rfl | rfl | rfl | rfl | rfl | rfl
    all_goals first
      | exact absurd rfl e2
      | (refine run ?_
         refine call jrk ?_;refine run ?_
         exact fin rfl)
structure DateOk (n m dd:Nat):Prop where
 y1:n<=2870
 m1:1<=m
 m2:m<=12
 d1:1<=dd
 d2:dd<=lenM (jbj n) m
abbrev ofN (n m dd:Nat):Nat:=bgn n+sumM (jbj n) m+dd-1
abbrev ofV (n m dd:Nat):V:=if 1048575<ofN n m dd then .tup [vi 0,vi 2] else .tup [vi (ofN n m dd),vi 0]
theorem jp9 (l:Bool) {m:Nat} (h:1<=m):sumM l (m+1)=sumM l m+lenM l m:=by
 conv=>lhs; unfold sumM
 rw[if_neg om]
theorem den_Of (n m dd:Nat) (h:DateOk n m dd):Den prog T 358 [yi n,vi m,vi dd] (ofV n m dd):=by
 obtain ⟨hn,h1,h2,d1,d2⟩:=h;have hb:=bgn_le n;have hl31:=lenM_le (jbj n) m;refine ja0 call358 func358 39 ?_;refine rc (jmi n m hn h1 h2) ?_;refine rcW (eq_false (show ¬((lenM (jbj n) m:Nat):Int)<(dd:Int) by omega)) (jmw n om) ?_
 have e1:((bgn n:Nat):Int)+(dd:Int)-1=((ofN n 1 dd:Nat):Int):=by
  show _=((bgn n+0+dd-1:Nat):Int)
  omega
 refine runW e1 ?_;refine jb6 ⟨[9,10,0,1],[],[],[]⟩ (fun k:Nat=>1<=k/\k<=m) (fun k=>m-k) (fun k=>[(9,.v (vi ((ofN n k dd:Nat):Int))),(10,.v (vi k))]) 1 ⟨Nat.le_refl _,h1⟩ ?_
 ·rintro k ⟨hk1,hk2⟩;have hs:=sumM_le (jbj n) k;have hl:=lenM_le (jbj n) k;by_cases hlt:k<m
  ·refine rc (jmi n k hn hk1 om) ?_
   have e:((ofN n k dd:Nat):Int)+((lenM (jbj n) k:Nat):Int)=((ofN n (k+1) dd:Nat):Int):=by
    unfold ofN;rw[jp9 _ hk1];omega
   have hx:ofN n (k+1) dd<=2000000:=by
    unfold ofN;rw[jp9 _ hk1];omega
   refine runW e ?_;exact round (k+1) ⟨om,om⟩ om
  ·have hk:k=m:=om
   subst hk;unfold ofV;by_cases hx:1048575<ofN n k dd
   ·rw[if_pos hx];exact za
   ·rw[if_neg hx];exact za
theorem resS4 {P:Program} {st:St} {a b c d:V} {x y z u:ResultVar} (h1:resV P st x=some a) (h2:resV P st y=some b) (h3:resV P st z=some c) (h4:resV P st u=some d):resS P st [x,y,z,u]=some (.tup [a,b,c,d]):=by simp[resS,resL,h1,h2,h3,h4]
theorem fin4 {P:Program} {rs:List ResultVar} {r r':V} {st:St} (hr:r'=r) (h:resS P st rs=some r':=by exact resS4 rfl rfl rfl rfl):fpost P rs r .rt st:= .inl ⟨r',h,.of hr⟩
theorem bgn_400 (q r:Nat):bgn (400*q+r)=146097*q+bgn r:=by unfold bgn; omega
theorem bgn_low (d:Nat):bgn (400*(d / 146097)+d % 146097 / 366)<=d:=by
 rw[bgn_400];have h1:=bgn_le (d % 146097 / 366);have h2:=Nat.div_add_mod d 146097;have h3:=Nat.div_add_mod (d % 146097) 366;omega
theorem bgn_yr {d m:Nat} (h:bgn m<=d):m<=yr d:=by
 rcases Nat.lt_or_ge (yr d) m with hlt | hge
 ·have h1:=bgn_mono (show yr d+1<=m by omega);have h2:=(yr_spec d).2;omega
 ·exact hge
theorem yr_le {d:Nat} (h:d<=1048575):yr d<=2870:=by
 rcases Nat.lt_or_ge 2870 (yr d) with hlt | hge
 ·have h1:=bgn_mono (show 2871<=yr d by omega);have h2:=(yr_spec d).1;have h3:bgn 2871=1048612:=by decide
  omega
 ·exact hge
theorem den_isDay (d:Nat) (h:d<=1048575):Den prog T 379 [vi d] (vb true):=by
 refine ja0 call379 func379 9 ?_;exact za
abbrev dateV (d:Nat):V:= .tup [yi (date d).1,vi ((date d).2.1:Nat),vi (((date d).2.2+1:Nat):Int),vi 0]
theorem den_Date (d:Nat) (h:d<=1048575):Den prog T 357 [vi d] (dateV d):=by
 have hy:=yr_le h;have hin:=in_year d;obtain ⟨l,hl⟩:∃l,jbj (yr d)=l:=⟨_,rfl⟩;rw[hl] at hin;have hms:=mon_spec hin
 have hdate:dateV d= .tup [yi (yr d),vi ((mon l (d-bgn (yr d))).1:Nat),vi (((mon l (d-bgn (yr d))).2+1:Nat):Int),vi 0]:=by
  unfold dateV date;rw[hl]
 rw[hdate];refine ja0 call357 func357 44 ?_;have h1:((d:Int)).tdiv 146097=((d / 146097:Nat):Int):=jht d 146097;have h2:((d:Int)).tmod 146097=((d % 146097:Nat):Int):=jcp d 146097;have h3:(((d % 146097:Nat):Int)).tdiv 366=((d % 146097 / 366:Nat):Int):=jht (d % 146097) 366;have hlow:=bgn_low d;refine rc (den_isDay d h) ?_;have hq:d / 146097<=8:=om
 have hr:d % 146097 / 366<=400:=om
 refine runW (ai h1 (ai h2 h3)) ?_;have e0:1600+400*((d / 146097:Nat):Int)+((d % 146097 / 366:Nat):Int)=((1600+(400*(d / 146097)+d % 146097 / 366):Nat):Int):=om
 rw[e0];refine jb6 ⟨[2,0],[],[],[]⟩ (fun y:Nat=>bgn y<=d) (fun y=>yr d-y) (fun y=>[(2,.v (yi y))]) (400*(d / 146097)+d % 146097 / 366) hlow ?_;intro y hyd;have hyy:=bgn_yr hyd;have e1:((1600+y:Nat):Int)+1=((1600+(y+1):Nat):Int):=om
 have hb1:=bgn_le (y+1);refine rcW e1 (jmw (y+1) om) ?_;by_cases hlt:bgn (y+1)<=d
 ·refine runW e1 ?_;exact round (y+1) hlt (by have:=bgn_yr hlt; omega)
 ·have hyr:yr d=y:=yr_at hyd om;rw[hyr] at hy hms hin hl ⊢;have hb0:=bgn_le y;refine rc (jmw y om) ?_;have e2:(d:Int)-((bgn y:Nat):Int)=((d-bgn y:Nat):Int):=om
  refine runW e2 ?_;obtain ⟨d0,hd0⟩:∃d0,d-bgn y=d0:=⟨_,rfl⟩;rw[hd0] at hms hin ⊢;refine jb6 ⟨[0,3,2],[],[],[]⟩ (fun z:Nat×Nat×Nat=>1<=z.2.1/\z.2.1+z.1=13/\z.2.2<sumM l 13-sumM l z.2.1/\monF l z.1 z.2.1 z.2.2=mon l d0) (fun z=>z.1) (fun z=>[(0,.v (vi z.2.2)),(3,.v (vi z.2.1))]) (12,1,d0) ⟨Nat.le_refl _,rfl,by simpa [sumM] using hin,rfl⟩ ?_;rintro ⟨k,m,dd⟩ ⟨g1,g2,g3,g4⟩;simp only at g1 g2 g3 g4
  have hk:k≠0:=fun e=>by
   have:m=13:=om
   subst this; omega
  obtain ⟨k',rfl⟩:∃k',k=k'+1:=⟨k-1,om⟩;have hlen:=jmi (T:=T) y m hy g1 om;rw[hl] at hlen;have h31:=lenM_le l m;have hs13:sumM l 13<=31*13:=sumM_le l 13;refine rc hlen ?_;by_cases hdd:dd<lenM l m
  ·have e3:monF l (k'+1) m dd=(m,dd):=by simp only[monF]; rw[if_pos hdd]
   rw[<- g4,e3];have e5:(dd:Int)+1=((dd+1:Nat):Int):=om
   refine runW e5 ?_;exact fin4 rfl
  ·have e3:monF l (k'+1) m dd=monF l k' (m+1) (dd-lenM l m):=by simp only[monF]; rw[if_neg hdd]
   rw[e3] at g4;have e4:(dd:Int)-((lenM l m:Nat):Int)=((dd-lenM l m:Nat):Int):=om
   refine rc hlen ?_;refine runW e4 ?_;exact round (k',m+1,dd-lenM l m) ⟨by simp only; omega,by simp only; omega,by simp only; rw[jp9 l g1]; omega,g4⟩ zeh
theorem date_ok (d:Nat) (h:d<=1048575):DateOk (date d).1 (date d).2.1 ((date d).2.2+1):=by
 have hms:=mon_spec (in_year d);exact ⟨yr_le h,hms.1,hms.2.1,om,hms.2.2.1⟩
theorem yearsN_le (d k:Nat):yearsN d k<=1048575:=by
 unfold yearsN;simp only;split
 ·exact Nat.le_refl _
 ·exact Nat.min_le_right _ _
theorem den_Years (d k:Nat) (h:d<=1048575) (hk:k<=200):Den prog T 307 [vi d,vi k] (.tup [vi (yearsN d k:Nat),vi 0]):=by
 obtain ⟨hn,h1,h2,d1,d2⟩:=date_ok d h;have hdv:dateV d= .tup [yi (date d).1,vi ((date d).2.1:Nat),vi (((date d).2.2+1:Nat):Int),vi 0]:=rfl;have hD:=den_Date (T:=T) d h;have hy:yearsN d k=if 2870<(date d).1+k then 1048575 else min (bgn ((date d).1+k)+sumM (jbj ((date d).1+k)) (date d).2.1+min ((date d).2.2+1) (lenM (jbj ((date d).1+k)) (date d).2.1)-1) 1048575:=rfl
 rw[hdv] at hD;rw[hy];obtain ⟨y,ey⟩:∃y,(date d).1=y:=⟨_,rfl⟩;obtain ⟨m,em⟩:∃m,(date d).2.1=m:=⟨_,rfl⟩;obtain ⟨q,eq⟩:∃q,(date d).2.2=q:=⟨_,rfl⟩;rw[ey,em,eq] at hD;rw[ey] at hn d2;rw[em] at h1 h2 d2;rw[eq] at d1 d2;rw[ey,em,eq];refine ja0 call307 func307 47 ?_;refine rc hD ?_;have e0:((1600+y:Nat):Int)+(k:Int)=((1600+(y+k):Nat):Int):=om
 by_cases hx:2870<y+k
 ·rw[if_pos hx];refine runW e0 ?_;exact fin rfl
 ·rw[if_neg hx];have hL:=jmi (T:=T) (y+k) m om h1 h2;refine rcW e0 hL ?_;have hl28:=lenM_ge (l:=jbj (y+k)) h1 h2;obtain ⟨L,eL⟩:∃L,lenM (jbj (y+k)) m=L:=⟨_,rfl⟩;rw[eL] at hl28 ⊢;have hb:=bgn_le (y+k);have hs:=sumM_le (jbj (y+k)) m;by_cases hc:L<q+1
  ·have hO:=den_Of (T:=T) (y+k) m L ⟨om,h1,h2,om,by rw[eL]; exact Nat.le_refl _⟩;rw[show min (q+1) L=L from Nat.min_eq_right om];unfold ofV ofN at hO;obtain ⟨v,ev⟩:∃v,bgn (y+k)+sumM (jbj (y+k)) m+L-1=v:=⟨_,rfl⟩;rw[ev] at hO ⊢;have hcc:(L:Int)<(((q+1:Nat)):Int):=om
   refine rcW hcc hO ?_;by_cases hv:1048575<v
   ·rw[if_pos hv,Nat.min_eq_right om];exact za
   ·rw[if_neg hv,Nat.min_eq_left om];exact za
  ·have hO:=den_Of (T:=T) (y+k) m (q+1) ⟨om,h1,h2,om,by rw[eL]; omega⟩;rw[show min (q+1) L=q+1 from Nat.min_eq_left om];unfold ofV ofN at hO;obtain ⟨v,ev⟩:∃v,bgn (y+k)+sumM (jbj (y+k)) m+(q+1)-1=v:=⟨_,rfl⟩;rw[ev] at hO ⊢;have hcc:¬(L:Int)<(((q+1:Nat)):Int):=om
   refine rcW (eq_false hcc) hO ?_;by_cases hv:1048575<v
   ·rw[if_pos hv,Nat.min_eq_right om];exact za
   ·rw[if_neg hv,Nat.min_eq_left om];exact za
theorem den_YearEnd (d:Nat) (h:d<=1048575):Den prog T 308 [vi d] (.tup [vi (yearEndN d:Nat),vi 0]):=by
 have hn:=yr_le h;have hD:=den_Date (T:=T) d h;have hdv:dateV d= .tup [yi (yr d),vi ((date d).2.1:Nat),vi (((date d).2.2+1:Nat):Int),vi 0]:=rfl;rw[hdv] at hD;refine ja0 call308 func308 23 ?_;refine rc hD ?_;have e0:((1600+yr d:Nat):Int)+1=((1600+(yr d+1):Nat):Int):=om
 refine rcW e0 (jmw (yr d+1) om) ?_;have hg:=bgn_ge (yr d+1);unfold yearEndN;obtain ⟨v,ev⟩:∃v,bgn (yr d+1)=v:=⟨_,rfl⟩;rw[ev] at hg ⊢;have hb:=bgn_le (yr d+1);rw[ev] at hb;by_cases hc:(1048575:Int)<(v:Int)-1
 ·refine runW hc ?_;refine fin ?_;rw[Nat.min_eq_right om];rfl
 ·refine runW (eq_false hc) ?_;refine fin ?_;rw[Nat.min_eq_left om];have:((v-1:Nat):Int)=(v:Int)-1:=om
  rw[this]
theorem den_validR (f u:Int):Den prog T 277 [span f u] (vb (jaq f u)):=by
 refine ja0 call277 func277 18 ?_;unfold jaq;by_cases h1:0<=f <;> by_cases h2:f<u <;> by_cases h3:u<=1048576 <;> (refine run ?_; refine fin (ja3 ?_); simp; try omega)
theorem den_Find1R (r:Rul) (n:Int):Den prog T 297 [.agg r.cs,.row [vi n]] (vb (isIdR n r)):=by
 refine ja0 call297 func297 8 ?_;exact za
theorem jpx (l:List Rul) (f:FuncId) (cap:List V) (p:Rul->Bool) (hl:l.length<=1048576) (hp:∀e∈l,Den prog T f (.agg e.cs::cap) (vb (p e))):
   Den prog T 296 [ruls l,.func f cap] (vi (ix p l)):=by
  refine ja0 call296 func296 19 ?_;exact ixPf
theorem den_FindR (l:List Rul) (n:Int) (hl:l.length<=1048576):Den prog T 239 [ruls l,vi n] (vi (findR l n)):=by
 refine ja0 call239 func239 8 ?_;refine rc (jpx l _ _ (isIdR n) hl fun r _=>den_Find1R r n) ?_;exact za
theorem jdq {l:List Rul} {i:Nat} {r:Rul} (hi:l[i]? = some r) (hb:badR r):je1 l i=2:=by simp only[je1,hi]; rw[if_pos hb]
theorem faultR_r {l:List Rul} {i:Nat} {r:Rul} (hi:l[i]? = some r) (hb:¬badR r):je1 l i=if prevR l i r=true then 5 else jdk r:=by simp only[je1,hi]; rw[if_neg hb]
theorem jbl (r:Rul):badR r↔(idB r.id=false\/r.yrs<0\/200<r.yrs\/r.act<1\/3<r.act\/jaq r.frm r.til=false):=Iff.rfl
theorem prevR_0 (l:List Rul) (r:Rul):prevR l 0 r=false:=by unfold prevR; rw[if_pos rfl]
theorem prevR_s {l:List Rul} {i:Nat} {r q:Rul} (h0:i≠0) (hq:l[i-1]? = some q):prevR l i r=decide (r.id<=q.id):=by unfold prevR; rw[if_neg h0,hq]
theorem jnx {l:List Rul} {i:Nat} (hi:i<l.length) (r:Rul):(prevR l i r=true/\∃q,i≠0/\l[i-1]? = some q/\r.id<=q.id)\/(prevR l i r=false/\(i=0\/∃q,i≠0/\l[i-1]? = some q/\¬r.id<=q.id)):=by
 by_cases h0:i=0
 ·right; rw[h0]; exact ⟨prevR_0 l r,.inl rfl⟩
 ·obtain ⟨q,hq,-,-⟩:=ja1 (l:=l) (k:=i-1) om;by_cases hle:r.id<=q.id
  ·left; exact ⟨by rw[prevR_s h0 hq]; simp[hle],q,h0,hq,hle⟩
  ·right; exact ⟨by rw[prevR_s h0 hq]; simp[hle],.inr ⟨q,h0,hq,hle⟩⟩
inductive RestR (r:Rul):Prop
 | p3 (h:ja6 r.cls=none) (e:jdk r=3)
 | n4 (l:List Nat) (h:ja6 r.cls=some l) (hn:name r.trg=false) (e:jdk r=4)
 | q4 (l:List Nat) (h:ja6 r.cls=some l) (hn:name r.trg=true) (hq:jcj r.trg=true) (e:jdk r=4)
 | k1 (l:List Nat) (h:ja6 r.cls=some l) (hn:name r.trg=true) (hq:jcj r.trg=false) (ha:r.act=3) (ho:(r.trg == jg2)=false) (e:jdk r=1)
 | y1 (l:List Nat) (h:ja6 r.cls=some l) (hn:name r.trg=true) (hq:jcj r.trg=false) (ha:r.act=3) (ho:(r.trg == jg2)=true) (hy:r.yrs≠0) (e:jdk r=1)
 | e1 (l:List Nat) (h:ja6 r.cls=some l) (hn:name r.trg=true) (hq:jcj r.trg=false) (ha:r.act=3) (ho:(r.trg == jg2)=true) (hy:r.yrs=0) (he:r.yend=true) (e:jdk r=1)
 | k0 (l:List Nat) (h:ja6 r.cls=some l) (hn:name r.trg=true) (hq:jcj r.trg=false) (ha:r.act=3) (ho:(r.trg == jg2)=true) (hy:r.yrs=0) (he:r.yend=false) (e:jdk r=0)
 | z0 (l:List Nat) (h:ja6 r.cls=some l) (hn:name r.trg=true) (hq:jcj r.trg=false) (ha:r.act≠3) (e:jdk r=0)
theorem rest_cases (r:Rul):RestR r:=by
 cases hp:ja6 r.cls with
 | none=>exact .p3 hp (by unfold jdk; rw[hp]; rfl)
 | some l=>
  have e0:jdk r=if name r.trg=false\/jcj r.trg=true then 4 else if r.act=3/\(r.trg≠jg2\/r.yrs≠0\/r.yend=true) then 1 else 0:=by unfold jdk; rw[hp]; rfl
  cases hn:name r.trg with
  | false=>exact .n4 l hp hn (by rw[e0,if_pos (.inl hn)])
  | true=>
   cases hq:jcj r.trg with
   | true=>exact .q4 l hp hn hq (by rw[e0,if_pos (.inr hq)])
   | false=>
    have e1:jdk r=if r.act=3/\(r.trg≠jg2\/r.yrs≠0\/r.yend=true) then 1 else 0:=by rw[e0,if_neg (by simp[hn,hq])]
    by_cases ha:r.act=3
    ·cases ho:r.trg == jg2 with
     | false=>exact .k1 l hp hn hq ha ho (by rw[e1,if_pos ⟨ha,.inl (by simpa using ho)⟩])
     | true=>
      have ho':r.trg=jg2:=by simpa using ho
      by_cases hy:r.yrs=0
      ·cases he:r.yend with
       | true=>exact .e1 l hp hn hq ha ho hy he (by rw[e1,if_pos ⟨ha,.inr (.inr he)⟩])
       | false=>exact .k0 l hp hn hq ha ho hy he (by rw[e1,if_neg (by simp[ho',hy,he])])
      ·exact .y1 l hp hn hq ha ho hy (by rw[e1,if_pos ⟨ha,.inr (.inl hy)⟩])
    ·exact .z0 l hp hn hq ha (by rw[e1,if_neg (by simp[ha])])
set_option maxHeartbeats 4000000 in
theorem den_checkR1 (L:LibC T) (l:List Rul) (i:Nat) (hl:FitsR l) (hi:i<l.length):Den prog T 213 [ruls l,vi i] (vi (je1 l i)):=by
 obtain ⟨hl0,hf⟩:=hl;obtain ⟨r,hr,-,hm⟩:=ja1 hi;obtain ⟨hf1,hf2⟩:=hf r hm;refine ja0 call213 func213 98 ?_;refine rcW hr (jhr L r.cls hf1) ?_;cases hp:ja6 r.cls with
 | none=>
  rw[jeu hp];by_cases a1:r.id<1
  ·exact zbh
  by_cases a2:1073741824<r.id
  ·exact zbh
  by_cases b1:r.yrs<0
  ·rw[jdq hr ((jbl r).2 (.inr (.inl b1)))];exact za
  by_cases b2:200<r.yrs
  ·rw[jdq hr ((jbl r).2 (.inr (.inr (.inl b2))))];exact za
  by_cases b3:r.act<1
  ·rw[jdq hr ((jbl r).2 (.inr (.inr (.inr (.inl b3)))))];exact za
  by_cases b4:3<r.act
  ·rw[jdq hr ((jbl r).2 (.inr (.inr (.inr (.inr (.inl b4))))))];exact za
  refine rc (den_validR r.frm r.til) ?_;cases b5:jaq r.frm r.til
  ·rw[jdq hr ((jbl r).2 (.inr (.inr (.inr (.inr (.inr b5))))))];exact za
  rw[faultR_r hr fun hb=>by
   rcases (jbl r).1 hb with h | h | h | h | h | h
   ·simp[idB] at h; omega
   ·exact b1 h
   ·exact b2 h
   ·exact b3 h
   ·exact b4 h
   ·rw[b5] at h; cases h]
  rcases jnx hi r with ⟨hpv,q,h0,hq,hle⟩ | ⟨hpv,h0 | ⟨q,h0,hq,hle⟩⟩
  ·exact zbo
  all_goals
   rw[if_neg zej];rw[show jdk r=3 by unfold jdk; rw[hp]; rfl]
   first
    | (subst h0; refine run ?_)
    | refine runW hq ?_
   exact fin rfl
 | some pl=>
  rw[jet hp];by_cases a1:r.id<1
  ·exact zbh
  by_cases a2:1073741824<r.id
  ·exact zbh
  by_cases b1:r.yrs<0
  ·rw[jdq hr ((jbl r).2 (.inr (.inl b1)))];exact za
  by_cases b2:200<r.yrs
  ·rw[jdq hr ((jbl r).2 (.inr (.inr (.inl b2))))];exact za
  by_cases b3:r.act<1
  ·rw[jdq hr ((jbl r).2 (.inr (.inr (.inr (.inl b3)))))];exact za
  by_cases b4:3<r.act
  ·rw[jdq hr ((jbl r).2 (.inr (.inr (.inr (.inr (.inl b4))))))];exact za
  refine rc (den_validR r.frm r.til) ?_;cases b5:jaq r.frm r.til
  ·rw[jdq hr ((jbl r).2 (.inr (.inr (.inr (.inr (.inr b5))))))];exact za
  rw[faultR_r hr fun hb=>by
   rcases (jbl r).1 hb with h | h | h | h | h | h
   ·simp[idB] at h; omega
   ·exact b1 h
   ·exact b2 h
   ·exact b3 h
   ·exact b4 h
   ·rw[b5] at h; cases h]
  rcases jnx hi r with ⟨hpv,q,h0,hq,hle⟩ | ⟨hpv,h0 | ⟨q,h0,hq,hle⟩⟩
  ·exact zbo
  all_goals
   rw[if_neg zej]
   first
    | (subst h0; refine run ?_)
    | refine runW hq ?_
   refine call (jiq L r.trg hf2) ?_;rcases rest_cases r with ⟨h,e⟩ | ⟨_,h,hn,e⟩ | ⟨_,h,hn,hq',e⟩ | ⟨_,h,hn,hq',ha,ho,e⟩ | ⟨_,h,hn,hq',ha,ho,hy,e⟩ | ⟨_,h,hn,hq',ha,ho,hy,he,e⟩ | ⟨_,h,hn,hq',ha,ho,hy,he,e⟩ | ⟨_,h,hn,hq',ha,e⟩
   ·rw[hp] at h; cases h
   ·rw[e,hn];exact za
   ·rw[e,hn];refine rc (jjk r.trg) ?_;rw[hq'];exact za
   ·rw[e,hn];refine rc (jjk r.trg) ?_;rw[hq'];exact zc4
   ·rw[e,hn];refine rc (jjk r.trg) ?_;rw[hq'];exact zc7
   ·rw[e,hn];refine rc (jjk r.trg) ?_;rw[hq'];exact zk
   ·rw[e,hn];refine rc (jjk r.trg) ?_;rw[hq'];exact zk
   ·rw[e,hn];refine rc (jjk r.trg) ?_;rw[hq'];exact za
theorem den_CheckR (L:LibC T) (l:List Rul) (hl:FitsR l):Den prog T 149 [ruls l] (chkV (jcu l)):=by
 have hl0:=hl.1;refine ja0 call149 func149 22 ?_;by_cases h16:64<l.length
 ·refine run ?_;refine fin ?_;simp only[chkV,jcu,jdz h16]
 refine run ?_;refine ja7 ⟨[11,0,10],[],[],[]⟩ l.length (fun k=>∀i,i<k->je1 l i=0) om ?_;rintro k ⟨hk,hall⟩;by_cases hlt:k<l.length
 ·refine rc (den_checkR1 L l k hl hlt) ?_;by_cases hz:je1 l k=0
  ·refine run ?_;refine round (k+1) ⟨om,fun i hi=> ?_⟩ om;by_cases e:i=k
   ·exact zcr
   ·exact zb2
  ·refine run ?_;refine fin ?_;simp only[chkV,jcu,jeb h16 hlt hall hz]
 ·refine run ?_;refine fin ?_;simp only[chkV,jcu,jds h16 fun i hi=>hall i om]
theorem u8_34 {b:UInt8} (h:b.toNat=34):b=34:=UInt8.toNat_inj.1 h
theorem quoted_cons (b:UInt8) (r:Str):jcj (b::r)=((b == 34) || jcj r):=rfl
theorem den_quotedR (s:Str) (hl:s.length<=1048576):Den prog T 230 [.str s] (vb (jcj s)):=by
 refine ja0 call230 func230 14 ?_;refine run ?_;refine ja7 ⟨[3,0],[],[],[]⟩ s.length (fun k=>jcj s=jcj (s.drop k)) sm ?_;rintro k ⟨hk,hall⟩;by_cases hlt:k<s.length
 ·obtain ⟨x,hx,hd,-⟩:=ja1 hlt;rw[hd,quoted_cons] at hall;by_cases h1:x.toNat=34
  ·refine runW hx ?_;refine fin (ja3 ?_);rw[hall,u8_34 h1];rfl
  ·refine runW hx ?_;refine round (k+1) ⟨om,?_⟩ om
   have:(x == 34)=false:=by
    cases h:x == 34
    ·rfl
    ·have:=eq_of_beq h;rw[this] at h1;exact absurd rfl h1
   rw[hall,this,Bool.false_or]
 ·refine run ?_;refine fin (ja3 ?_);rw[hall,List.drop_eq_nil_of_le om];rfl
set_option maxHeartbeats 1000000 in
theorem den_faultR1 (r:Rul):Den prog T 170 [.agg r.cs] (vi (if badR r then 2 else 0)):=by
 refine ja0 call170 func170 37 ?_;by_cases a1:r.id<1
 ·rw[if_pos ((jbl r).2 (.inl (by simp[idB]; omega)))];exact za
 by_cases a2:1073741824<r.id
 ·rw[if_pos ((jbl r).2 (.inl (by simp[idB]; omega)))];exact za
 by_cases b1:r.yrs<0
 ·rw[if_pos ((jbl r).2 (.inr (.inl b1)))];exact za
 by_cases b2:200<r.yrs
 ·rw[if_pos ((jbl r).2 (.inr (.inr (.inl b2))))];exact za
 by_cases b3:r.act<1
 ·rw[if_pos ((jbl r).2 (.inr (.inr (.inr (.inl b3)))))];exact za
 by_cases b4:3<r.act
 ·rw[if_pos ((jbl r).2 (.inr (.inr (.inr (.inr (.inl b4))))))];exact za
 refine rc (jkn r.frm r.til) ?_;cases b5:jaq r.frm r.til
 ·rw[if_pos ((jbl r).2 (.inr (.inr (.inr (.inr (.inr b5))))))];exact za
 ·rw[if_neg fun hb=>by
   rcases (jbl r).1 hb with h | h | h | h | h | h
   ·simp[idB] at h; omega
   ·exact b1 h
   ·exact b2 h
   ·exact b3 h
   ·exact b4 h
   ·rw[b5] at h; cases h]
  exact za
set_option maxHeartbeats 1000000 in
theorem den_restR1 (r:Rul) (hf:r.Fit):Den prog T 171 [.agg r.cs] (vi (jdk r)):=by
 obtain ⟨hf1,hf2⟩:=hf;refine ja0 call171 func171 33 ?_;refine rc (jo4 r.cls hf1) ?_;rcases rest_cases r with ⟨h,e⟩ | ⟨_,h,hn,e⟩ | ⟨_,h,hn,hq',e⟩ | ⟨_,h,hn,hq',ha,ho,e⟩ | ⟨_,h,hn,hq',ha,ho,hy,e⟩ | ⟨_,h,hn,hq',ha,ho,hy,he,e⟩ | ⟨_,h,hn,hq',ha,ho,hy,he,e⟩ | ⟨_,h,hn,hq',ha,e⟩
 ·rw[e,h];exact za
 all_goals
  rw[h,e];refine rc (jhm r.trg hf2) ?_;rw[hn]
 ·exact za
 all_goals
  refine rc (den_quotedR r.trg hf2) ?_;rw[hq']
 ·exact za
 ·exact zc4
 ·exact zc7
 ·exact zk
 ·exact zk
 ·exact za
set_option maxHeartbeats 1000000 in
theorem den_CheckRRef (l:List Rul) (hl:FitsR l):Den prog T 107 [ruls l] (chkV (jcu l)):=by
 have hl0:=hl.1;refine ja0 call107 func107 51 ?_;by_cases h16:64<l.length
 ·refine run ?_;refine fin ?_;simp only[chkV,jcu,jdz h16]
 refine run ?_;refine ja7 ⟨[4,0],[],[],[]⟩ l.length (fun k=>∀i,i<k->je1 l i=0) om ?_;rintro k ⟨hk,hall⟩;by_cases hlt:k<l.length
 ·obtain ⟨h,hh,-,hm⟩:=ja1 hlt;have hff:=hl.2 h hm
  have out:∀e:Int,je1 l k=e->e≠0->chkV (jcu l)= .tup [vi k,vi e]:=fun e he hne=>by
   rw[jcu,jeb h16 hlt hall zfa,he]
  have nxt:je1 l k=0->∀i,i<k+1->je1 l i=0:=fun hz i hi=>by
   by_cases e:i=k
   ·exact zcr
   ·exact zb2
  refine rcW hh (den_faultR1 h) ?_;by_cases hb:badR h
  ·rw[if_pos hb,out 2 (jdq hh hb) dc];exact za
  ·rw[if_neg hb];have hr:=faultR_r hh hb;rcases jnx hlt h with ⟨hpv,q,h0,hq,hle⟩ | ⟨hpv,h0 | ⟨q,h0,hq,hle⟩⟩
   ·exact zd4
   all_goals
    rw[if_neg zej] at hr
    first
     | refine runW (ai hh hq) ?_
     | refine runW hh ?_
    refine call (den_restR1 h hff) ?_;rw[<- hr];by_cases hz:je1 l k=0
    ·first
      | (refine run ?_; exact round (k+1) ⟨om,nxt hz⟩ om)
    ·rw[out _ rfl hz];exact za
 ·refine run ?_;refine fin ?_;simp only[chkV,jcu,jds h16 fun i hi=>hall i om]
theorem depth_le6 (s:Str):jaz s<=6:=by
 unfold jaz;cases h:ja6 s with
 | none=>exact Nat.zero_le _
 | some l=>
  unfold ja6 at h;split at h
  ·split at h
   ·cases h; assumption
   ·cases h
  ·cases h
theorem depth_some {s:Str} {l:List Nat} (h:ja6 s=some l):l.length=jaz s:=by unfold jaz; rw[h]
theorem depth_none {s:Str} (h:ja6 s=none):jaz s=0:=by unfold jaz; rw[h]
theorem inS_out1 {f u d:Int} (h:d<f):inS f u d=false:=by unfold inS; simp; omega
theorem inS_out2 {f u d:Int} (h:u<=d):inS f u d=false:=by unfold inS; simp; omega
theorem inS_in {f u d:Int} (h:f<=d) (h':d<u):inS f u d=true:=by unfold inS; simp[h,h']
set_option maxHeartbeats 1000000 in
theorem den_Apply (L:LibC T) (l:List Rul) (s:Str) (d:Int) (hl:FitsR l) (hs:s.length<=1048576):DenO prog T 238 [ruls l,.str s,vi d] 3 (ints (jc6 l s d)):=by
 have hl0:=hl.1;refine jhk call238 func238 61 ?_;refine run ?_
 refine loop ⟨[1,2,7,8,13,14,15],[],[8],[(8,3,1)]⟩ (fun y:Nat×Nat×List Int=>y.1<=l.length/\y.2.1=jau (l.take y.1) s d/\y.2.2=jc6 (l.take y.1) s d/\y.2.2.length<=y.1/\y.2.1<=6) (fun y=>l.length-y.1)
  (fun y=>⟨61,[(1,.v (.str s)),(2,.v (vi d)),(7,.v (vi y.2.1)),(8,.v (ints y.2.2)),(13,.v (ruls l)),(14,.v (vi l.length)),(15,.v (vi y.1))],[],[(3,[8])]⟩) (0,0,[]) ⟨Nat.zero_le _,rfl,rfl,Nat.le_refl _,dc⟩ ?_
 rintro ⟨k,m,out⟩ ⟨hk,hmost,hout,hol,hm⟩;simp only at hk hmost hout hol hm;subst hmost hout;by_cases hlt:k<l.length
 ·obtain ⟨x,hx,-,hxm⟩:=ja1 hlt;have hts:=jm4 hx;have hfx:=hl.2 x hxm;have hdl:=depth_le6 x.cls;by_cases a1:d<x.frm
  ·have ha:appB s d x=false:=by unfold appB; rw[inS_out1 a1]; rfl
   refine runW hx ?_;refine round (k+1,jau (l.take k) s d,jc6 (l.take k) s d) ⟨by simp only; omega,by simp only; rw[hts,jmc ha],by simp only; rw[hts,apply_no ha],by simp only; omega,hm⟩ zeh
  by_cases a2:x.til<=d
  ·have ha:appB s d x=false:=by unfold appB; rw[inS_out2 a2]; rfl
   refine runW hx ?_;refine round (k+1,jau (l.take k) s d,jc6 (l.take k) s d) ⟨by simp only; omega,by simp only; rw[hts,jmc ha],by simp only; rw[hts,apply_no ha],by simp only; omega,hm⟩ zeh
  refine rcW hx (jp1 L s x.cls hs hfx.1) ?_;cases hw:jc5 s x.cls
  ·have ha:appB s d x=false:=by unfold appB; rw[hw,Bool.and_false]
   refine run ?_;refine round (k+1,jau (l.take k) s d,jc6 (l.take k) s d) ⟨by simp only; omega,by simp only; rw[hts,jmc ha],by simp only; rw[hts,apply_no ha],by simp only; omega,hm⟩ zeh
  ·have ha:appB s d x=true:=by unfold appB; rw[hw,inS_in om om]; rfl
   refine rc (jhr L x.cls hfx.1) ?_;cases hp:ja6 x.cls with
   | none=>
    have hd0:=depth_none hp;rw[jeu hp];have hzz:(0:Int)=((jaz x.cls:Nat):Int):=om
    rcases Nat.lt_trichotomy (jau (l.take k) s d) (jaz x.cls) with g | g | g
    ·refine runW (ai hzz (eq_true (show ((jau (l.take k) s d:Nat):Int)<((jaz x.cls:Nat):Int) by omega))) ?_;refine round (k+1,jaz x.cls,[x.id]) ⟨by simp only; omega,by simp only; rw[hts,jh3 ha,Nat.max_eq_right om],by simp only; rw[hts,apply_gt ha g],by simp only[List.length_cons,List.length_nil]; omega,hdl⟩ zeh
    ·have hap:(jc6 (l.take k) s d).map Cint++[[V.val (.int .i64 x.id)]]=(jc6 (l.take k) s d++[x.id]).map Cint:=by simp
     refine runW (ai hzz (ai (eq_false (show ¬((jau (l.take k) s d:Nat):Int)<((jaz x.cls:Nat):Int) by omega)) (ai (show ((jaz x.cls:Nat):Int)=((jau (l.take k) s d:Nat):Int) by omega) hap))) ?_;refine round (k+1,jau (l.take k) s d,jc6 (l.take k) s d++[x.id]) ⟨by simp only; omega,by simp only; rw[hts,jh3 ha,Nat.max_eq_left om],by simp only; rw[hts,apply_eq ha g.symm],by simp only[List.length_append,List.length_cons,List.length_nil]; omega,hm⟩ zeh
    ·refine runW (ai hzz (ai (eq_false (show ¬((jau (l.take k) s d:Nat):Int)<((jaz x.cls:Nat):Int) by omega)) (eq_false (show ¬((jaz x.cls:Nat):Int)=((jau (l.take k) s d:Nat):Int) by omega)))) ?_;refine round (k+1,jau (l.take k) s d,jc6 (l.take k) s d) ⟨by simp only; omega,by simp only; rw[hts,jh3 ha,Nat.max_eq_left om],by simp only; rw[hts,apply_lt ha g],by simp only; omega,hm⟩ zeh
   | some pl=>
    have hd0:=depth_some hp;rw[jet hp];rcases Nat.lt_trichotomy (jau (l.take k) s d) (jaz x.cls) with g | g | g
    ·refine runW (ai hd0 (eq_true (show ((jau (l.take k) s d:Nat):Int)<((jaz x.cls:Nat):Int) by omega))) ?_;refine round (k+1,jaz x.cls,[x.id]) ⟨by simp only; omega,by simp only; rw[hts,jh3 ha,Nat.max_eq_right om],by simp only; rw[hts,apply_gt ha g],by simp only[List.length_cons,List.length_nil]; omega,hdl⟩ zeh
    ·have hap:(jc6 (l.take k) s d).map Cint++[[V.val (.int .i64 x.id)]]=(jc6 (l.take k) s d++[x.id]).map Cint:=by simp
     refine runW (ai hd0 (ai (eq_false (show ¬((jau (l.take k) s d:Nat):Int)<((jaz x.cls:Nat):Int) by omega)) (ai (show ((jaz x.cls:Nat):Int)=((jau (l.take k) s d:Nat):Int) by omega) hap))) ?_;refine round (k+1,jau (l.take k) s d,jc6 (l.take k) s d++[x.id]) ⟨by simp only; omega,by simp only; rw[hts,jh3 ha,Nat.max_eq_left om],by simp only; rw[hts,apply_eq ha g.symm],by simp only[List.length_append,List.length_cons,List.length_nil]; omega,hm⟩ zeh
    ·refine runW (ai hd0 (ai (eq_false (show ¬((jau (l.take k) s d:Nat):Int)<((jaz x.cls:Nat):Int) by omega)) (eq_false (show ¬((jaz x.cls:Nat):Int)=((jau (l.take k) s d:Nat):Int) by omega)))) ?_;refine round (k+1,jau (l.take k) s d,jc6 (l.take k) s d) ⟨by simp only; omega,by simp only; rw[hts,jh3 ha,Nat.max_eq_left om],by simp only; rw[hts,apply_lt ha g],by simp only; omega,hm⟩ zeh
 ·have hkl:k=l.length:=om
  subst hkl;rw[List.take_length];exact zbi
theorem fitR1 {r:Rul} (h:r.Fit):FitsR [r]:=⟨sm,fun x hx=>by simp at hx; subst hx; exact h⟩
theorem goodR1 {r:Rul} (h:goodR [r]=true):0<=r.yrs/\r.yrs<=200:=by
 have h0:(jcu [r]).2=0:=by simpa [goodR] using h
 have h1:=(jh8 h0).2 0 sm;have hb:¬badR r:=fun hb=>by rw[jdq (l:=[r]) (i:=0) rfl hb] at h1; cases h1
 refine ⟨?_,?_⟩
 ·rcases Int.lt_or_le r.yrs 0 with g | g
  ·exact absurd ((jbl r).2 (.inr (.inl g))) hb
  ·exact g
 ·rcases Int.lt_or_le 200 r.yrs with g | g
  ·exact absurd ((jbl r).2 (.inr (.inr (.inl g)))) hb
  ·exact g
theorem datB_goodD (a b:Int):datB a b=jdd a b:=by
 unfold datB jdd;by_cases h1:0<=a <;> by_cases h2:a<=b <;> by_cases h3:b<=1048575 <;> simp[h1,h2,h3]
theorem dueV_n {r:Rul} {a b:Int} (h:¬(goodR [r]=true/\datB a b=true)):dueV r a b= .tup [vi 0,vi 1]:=by unfold dueV dueR; rw[if_neg h]
theorem dueV_s {r:Rul} {a b:Int} (h:goodR [r]=true/\datB a b=true):dueV r a b= .tup [vi ((if r.yend=true then yearEndN (yearsN b.toNat r.yrs.toNat) else yearsN b.toNat r.yrs.toNat:Nat):Int),vi 0]:=by unfold dueV dueR; rw[if_pos h]
theorem den_Due (L:LibC T) (r:Rul) (a b:Int) (hf:r.Fit):Den prog T 241 [.agg r.cs,datg a b] (dueV r a b):=by
 refine ja0 call241 func241 39 ?_;refine rc (den_CheckR L [r] (fitR1 hf)) ?_;by_cases g1:(jcu [r]).2=0
 ·have hg:goodR [r]=true:=by simp[goodR,g1]
  obtain ⟨y1,y2⟩:=goodR1 hg;refine rc (jqz a b) ?_;cases hd:jdd a b
  ·rw[dueV_n (by rw[datB_goodD,hd]; simp)];exact za
  ·rw[dueV_s ⟨hg,by rw[datB_goodD,hd]⟩];have hdd:0<=a/\a<=b/\b<=1048575:=by simpa [jdd] using hd
   have hY:=den_Years (T:=T) b.toNat r.yrs.toNat om om;have eb:((b.toNat:Nat):Int)=b:=om
   have ey:((r.yrs.toNat:Nat):Int)=r.yrs:=om
   rw[eb,ey] at hY;refine rc hY ?_;have hY2:=yearsN_le b.toNat r.yrs.toNat;obtain ⟨v,ev⟩:∃v,yearsN b.toNat r.yrs.toNat=v:=⟨_,rfl⟩;rw[ev] at hY2 ⊢;cases he:r.yend
   ·refine runW he ?_;exact fin rfl
   ·refine rcW he (den_YearEnd v hY2) ?_;exact za
 ·have hg:goodR [r]=false:=by simp[goodR,g1]
  rw[dueV_n (by rw[hg]; simp)];exact za
def je6 (r:Rul):Bool:= !(decide (100<r.cls.length) || decide (100<r.trg.length))
def fewR (l:List Rul):Bool:= !((decide (12<l.length) && decide (l.length<=64)) || decide (69<l.length)) && l.all je6
theorem all_snocR {l:List Rul} {k:Nat} {x:Rul} (h:l[k]? = some x) (p:Rul->Bool):(l.take (k+1)).all p=((l.take k).all p && p x):=by
 rw[jm4 h,List.all_append]; simp
theorem den_FewR (l:List Rul) (hl:FitsR l):Den prog T 81 [ruls l] (vb (fewR l)):=by
 have hl0:=hl.1;refine ja0 call81 func81 39 ?_;by_cases h1:12<l.length
 ·by_cases h2:l.length<=64
  ·have hf:fewR l=false:=by unfold fewR; simp[h1,h2]
   rw[hf];exact za
  ·by_cases h3:69<l.length
   ·have hf:fewR l=false:=by unfold fewR; simp[h3]
    rw[hf];exact za
   ·have hf:fewR l=l.all je6:=by unfold fewR; simp[h1,h2,h3]
    rw[hf];refine run ?_;refine ja7 ⟨[3,0],[],[],[]⟩ l.length (fun k=>(l.take k).all je6=true) rfl ?_;rintro k ⟨hk,hall⟩;by_cases hlt:k<l.length
    ·obtain ⟨x,hx,-,hm⟩:=ja1 hlt;obtain ⟨f1,f2⟩:=hl.2 x hm;by_cases c1:100<x.cls.length
     ·have hb:l.all je6=false:=by rw[List.all_eq_false]; exact ⟨x,hm,by simp[je6,c1]⟩
      rw[hb];exact ze
     by_cases c2:100<x.trg.length
     ·have hb:l.all je6=false:=by rw[List.all_eq_false]; exact ⟨x,hm,by simp[je6,c2]⟩
      rw[hb];exact ze
     exact zdd
    ·have hkl:k=l.length:=om
     rw[hkl,List.take_length] at hall;rw[hall];exact za
 ·have hf:fewR l=l.all je6:=by
   have h3:¬ 69<l.length:=om
   unfold fewR; simp[h1,h3]
  rw[hf];refine run ?_;refine ja7 ⟨[3,0],[],[],[]⟩ l.length (fun k=>(l.take k).all je6=true) rfl ?_;rintro k ⟨hk,hall⟩;by_cases hlt:k<l.length
  ·obtain ⟨x,hx,-,hm⟩:=ja1 hlt;obtain ⟨f1,f2⟩:=hl.2 x hm;by_cases c1:100<x.cls.length
   ·have hb:l.all je6=false:=by rw[List.all_eq_false]; exact ⟨x,hm,by simp[je6,c1]⟩
    rw[hb];exact ze
   by_cases c2:100<x.trg.length
   ·have hb:l.all je6=false:=by rw[List.all_eq_false]; exact ⟨x,hm,by simp[je6,c2]⟩
    rw[hb];exact ze
   exact zdd
  ·have hkl:k=l.length:=om
   rw[hkl,List.take_length] at hall;rw[hall];exact za
structure Lok where
 r:Rgs
 f:Fil
 d:Int
 rls:List Rul
 due:Int
 by':Int
abbrev Lok.cs (x:Lok):List V:=[ofcs x.r.ofs,jad x.r.pls,fils x.r.fls,ruls x.r.rls,hlds x.r.hls,clks x.r.cks,sels x.r.sls,prps x.r.pps,apvs x.r.aps,crts x.r.crs,deps x.r.dps,vi x.r.chg,
 vi x.f.id,vi x.f.ofc,vi x.f.opn,vi x.f.cld,.str x.f.cls,.str x.f.title,vi x.f.pts,ntss x.f.nts,vi x.d,ruls x.rls,vi x.due,vi x.by']
theorem den_keeps (q:Rul):Den prog T 253 [.agg q.cs] (vb (keepB q)):=by
 refine ja0 call253 func253 6 ?_;exact za
theorem den_transfers (q:Rul):Den prog T 259 [.agg q.cs] (vb (moveB q)):=by
 refine ja0 call259 func259 6 ?_;exact za
theorem any_comm (l:List Int) (x:Int):(l.any fun y=>decide (x=y))=l.any fun n=>decide (n=x):=by
 congr 1
 funext y
 by_cases h:x=y
 ·subst h; rfl
 ·rw[decide_eq_false h,decide_eq_false (fun e=>h e.symm)]
theorem jo3 (x:Lok) (day:Int) (l:List Int) (hl:l.length<=1048576):Den prog T 310 [.agg x.cs,vi day,ints l] (vb (jdr x.d x.f day l)):=by
 refine ja0 call310 func310 18 ?_;unfold jdr;by_cases h:day<=x.d
 ·refine rc (jmg l x.f.id hl) ?_;rw[any_comm];refine run ?_;exact zr
 ·refine run ?_;exact zr
theorem den_ixCrt (l:List Crt) (f:FuncId) (cap:List V) (p:Crt->Bool) (hl:l.length<=1048576) (hp:∀e∈l,Den prog T f (.agg e.cs::cap) (vb (p e))):
   Den prog T 192 [crts l,.func f cap] (vi (ix p l)):=by
  refine ja0 call192 func192 19 ?_;exact ixPf
theorem den_anyCrt (l:List Crt) (f:FuncId) (cap:List V) (p:Crt->Bool) (hl:l.length<=1048576) (hp:∀e∈l,Den prog T f (.agg e.cs::cap) (vb (p e))):
   Den prog T 122 [crts l,.func f cap] (vb (l.any p)):=by
  refine ja0 call122 func122 9 ?_;refine rc (den_ixCrt l f cap p hl hp) ?_;exact zbk
theorem den_ixDep (l:List Dep) (f:FuncId) (cap:List V) (p:Dep->Bool) (hl:l.length<=1048576) (hp:∀e∈l,Den prog T f (.agg e.cs::cap) (vb (p e))):
   Den prog T 127 [deps l,.func f cap] (vi (ix p l)):=by
  refine ja0 call127 func127 19 ?_;exact ixPf
theorem den_anyDep (l:List Dep) (f:FuncId) (cap:List V) (p:Dep->Bool) (hl:l.length<=1048576) (hp:∀e∈l,Den prog T f (.agg e.cs::cap) (vb (p e))):
   Den prog T 69 [deps l,.func f cap] (vb (l.any p)):=by
  refine ja0 call69 func69 9 ?_;refine rc (den_ixDep l f cap p hl hp) ?_;exact zbk
theorem den_ixSel (l:List Sel) (f:FuncId) (cap:List V) (p:Sel->Bool) (hl:l.length<=1048576) (hp:∀e∈l,Den prog T f (.agg e.cs::cap) (vb (p e))):
   Den prog T 365 [sels l,.func f cap] (vi (ix p l)):=by
  refine ja0 call365 func365 19 ?_;exact ixPf
theorem den_anySel (l:List Sel) (f:FuncId) (cap:List V) (p:Sel->Bool) (hl:l.length<=1048576) (hp:∀e∈l,Den prog T f (.agg e.cs::cap) (vb (p e))):
   Den prog T 313 [sels l,.func f cap] (vb (l.any p)):=by
  refine ja0 call313 func313 9 ?_;refine rc (den_ixSel l f cap p hl hp) ?_;exact zbk
theorem den_destroyed1 (x:Lok) (c:Crt) (hc:c.fls.length<=1048576):Den prog T 309 [.agg c.cs,.row x.cs] (vb (jdr x.d x.f c.day c.fls)):=by
 refine ja0 call309 func309 10 ?_;refine rc (jo3 x c.day c.fls hc) ?_;exact za
theorem den_moved1 (x:Lok) (c:Dep):Den prog T 311 [.agg c.cs,.row x.cs] (vb (jdr x.d x.f c.day [c.fil])):=by
 refine ja0 call311 func311 11 ?_;refine rc (jo3 x c.day [c.fil] sm) ?_;exact za
theorem den_selected1 (x:Lok) (c:Sel) (hc:c.fls.length<=1048576):Den prog T 314 [.agg c.cs,.row x.cs] (vb (jdr x.d x.f c.day c.fls)):=by
 refine ja0 call314 func314 10 ?_;refine rc (jo3 x c.day c.fls hc) ?_;exact za
theorem den_destroyedL (x:Lok) (h:x.r.Fit):Den prog T 251 [.agg x.cs] (vb (gone1 x.r x.f x.d)):=by
 refine ja0 call251 func251 8 ?_;refine rc (den_anyCrt x.r.crs _ _ (fun c=>jdr x.d x.f c.day c.fls) h.crs.1 fun c hc=>den_destroyed1 x c (h.crs.2 c hc).1) ?_;exact za
theorem den_movedL (x:Lok) (h:x.r.Fit):Den prog T 252 [.agg x.cs] (vb (gone2 x.r x.f x.d)):=by
 refine ja0 call252 func252 8 ?_;refine rc (den_anyDep x.r.dps _ _ (fun c=>jdr x.d x.f c.day [c.fil]) h.dps fun c _=>den_moved1 x c) ?_;exact za
theorem den_selectedL (x:Lok) (h:x.r.Fit):Den prog T 260 [.agg x.cs] (vb (selB x.r x.f x.d)):=by
 refine ja0 call260 func260 8 ?_;refine rc (den_anySel x.r.sls _ _ (fun s=>jdr x.d x.f s.day s.fls) h.sls.1 fun c hc=>den_selected1 x c (h.sls.2 c hc)) ?_;exact za
theorem wk_aggs {l m:List V} (h:Wks l m) (ho:(m.all fun v=>v.one)=true):Wk (.agg l) (.agg m):= .agg h.len (fun c hc=>List.all_eq_true.1 ho c hc) fun j v u e1 e2=>by
 obtain ⟨v',h1,h2⟩:=h.get e2;rw[e1] at h1;cases h1;exact h2
def lokOf (r:Rgs) (f:Fil) (d:Int):Lok:=⟨r,f,d,jb2 r f d,(jfr f d (jb2 r f d) (-1,0)).1,(jfr f d (jb2 r f d) (-1,0)).2⟩
abbrev lokZ:List V:=[.val (.slice none 0 0),.val (.slice none 0 0),.val (.slice none 0 0),.val (.slice none 0 0),.val (.slice none 0 0),.val (.slice none 0 0),.val (.slice none 0 0),.val (.slice none 0 0),.val (.slice none 0 0),.val (.slice none 0 0),.val (.slice none 0 0),vi 0,
 vi 0,vi 0,vi 0,vi 0,.str [],.str [],vi 0,.val (.slice none 0 0),vi 0,.val (.slice none 0 0),vi 0,vi 0]
theorem stepL_of (f:Fil) (d:Int) (x:Int×Int) (q:Rul) {a b:Int} (h:trig f q.trg d=some (a,b)):
  (dueR q a b=none/\jfp f d x q=x)\/∃t,dueR q a b=some t/\((x.1<t/\jfp f d x q=(t,q.id))\/(¬x.1<t/\jfp f d x q=x)):=by
 have hd:=dueF_yes h;cases hr:dueR q a b with
 | none=>exact .inl ⟨rfl,stepL_none (hd.trans hr)⟩
 | some t=>
  refine .inr ⟨t,rfl,?_⟩;by_cases hx:x.1<t
  ·exact .inl ⟨hx,stepL_lt (hd.trans hr) hx⟩
  ·exact .inr ⟨hx,stepL_ge (hd.trans hr) hx⟩
abbrev gr73:List Gent:=[⟨bz 14 0,14,.one 0 0⟩,⟨bz 14 1,13,.one 2 0⟩,⟨bz 14 5,12,.one 4 0⟩,⟨bz 14 21,11,.one 6 0⟩,⟨bz 14 85,10,.alt [(1,2),(3,0),(5,1)]⟩,⟨bz 14 93,9,.alt [(1,3),(5,4)]⟩,⟨bz 14 117,9,.alt [(1,1),(3,3),(7,4)]⟩,⟨bz 14 87,9,.alt [(3,1),(5,0)]⟩,⟨bz 14 119,8,.alt [(3,3),(7,5)]⟩,⟨bz 14 95,8,.alt [(5,2)]⟩,⟨bz 14 125,8,.alt [(1,1),(7,2)]⟩,⟨bz 14 245,8,.alt [(1,2),(3,1)]⟩,⟨bz 14 127,7,.alt [(7,2)]⟩,⟨bz 14 253,7,.one 8 2⟩,⟨bz 14 247,7,.alt [(3,0)]⟩,⟨bz 14 255,6,.one 8 2⟩,⟨bz 14 509,6,.alt [(1,1),(9,0)]⟩,⟨bz 14 1021,5,.alt [(1,1),(10,2)]⟩,⟨bz 14 511,5,.alt [(9,0)]⟩,⟨bz 14 1023,4,.alt [(10,1)]⟩,⟨bz 14 2045,4,.alt [(1,0)]⟩,⟨bz 14 2047,3,.alt [(11,0)]⟩,⟨bz 14 4095,2,.one 12 0⟩,⟨bz 14 8191,1,.alt [(13,0)]⟩,⟨bz 14 16383,0,.fin⟩]
set_option maxHeartbeats 4000000 in
theorem den_newLook (L:LibC T) (r:Rgs) (f:Fil) (d:Int) (hr:r.Fit) (hf:f.Fit) (hg:goodR r.rls=true):Den prog T 199 [.agg r.cs,.agg f.cs,vi d] (.agg (lokOf r f d).cs):=by
 have hl0:=hr.rls.1;have hcl:=classR_len hr.pls hf d;refine ja0 call199 func199 95 ?_;refine rc (den_Class L r.pls f d hr.pls hf) ?_;by_cases hz:(jb4 r.pls f d).2=0
 ·refine runW hz ?_;refine callO (den_Apply L r.rls (jb4 r.pls f d).1 d hr.rls hcl) ?_;rw[rulesF_ids hz];have hlen:=rulesF_len r f d;have hmem:∀q∈jb2 r f d,q∈r.rls:=fun q h=>rulesF_mem h;unfold lokOf;obtain ⟨rs,hrs⟩:∃rs,jb2 r f d=rs:=⟨_,rfl⟩;rw[hrs] at hlen hmem ⊢;refine run ?_
  refine loop ⟨[2,3,4,6,7,37,38,39],[3,4,6,7],[8000000021],[(8000000021,111,8)]⟩ (fun k:Nat=>k<=rs.length) (fun k=>rs.length-k)
   (fun k=>⟨95,[(2,.v (vi d)),(3,.p 3 0),(4,.p 4 0),(6,.p 6 0),(7,.p 7 0),(37,.v (.slice 1 (List.map Cint (List.map (fun x=>x.id) rs)))),(38,.v (vi rs.length)),(39,.v (vi k))],
    [(3,.var r.cs),(4,.var f.cs),(6,.var lokZ),(7,.var (Lok.cs ⟨r,f,d,rs.take k,-1,0⟩))],[(111,[8000000021])]⟩) 0 (Nat.zero_le _) ?_
  intro k hk;by_cases hlt:k<rs.length
  ·obtain ⟨x,hx,-,hm⟩:=ja1 hlt;obtain ⟨i,hi,hxi,hfi⟩:=findR_mem hg (hmem x hm);have hts:(rs.take k).map Rul.cs++[x.cs]=(rs.take (k+1)).map Rul.cs:=by rw[jm4 hx]; simp
   refine runD hx ?_;refine jat gr73 ?_
   refine jea (fun _:Unit=>True) ⟨[2,3,4,6,7,37,38,39],[3,4,6,7],[8000000021],[]⟩ (fun _=>⟨95,[(2,.v (vi d)),(3,.p 3 0),(4,.p 4 0),(6,.p 6 0),(7,.p 7 0),(37,.v (.slice 1 (List.map Cint (List.map (fun x=>x.id) rs)))),(38,.v (vi rs.length)),(39,.v (vi k))],
    [(3,.var r.cs),(4,.var f.cs),(6,.var lokZ),(7,.var (Lok.cs ⟨r,f,d,rs.take (k+1),-1,0⟩))],[(111,[8000000021])]⟩) (fun st st' hk h=>jbx _ hk h) (fun _ _=> ?_) (fun K' hK=> ?_)
   ·exact zc8
   ·refine jab hx ?_
    try simp only[and_self_left]
    repeat' (with_reducible refine ai ?_ ?_)
    all_goals
     refine call (den_FindR r.rls x.id hl0) ?_;rw[hfi];refine jab (ai hxi hts) ?_
     try simp only[and_self,and_self_left,and_self_right]
     repeat' (with_reducible refine ai ?_ ?_)
     all_goals exact jdu hK () trivial
  ·have hkl:k=rs.length:=om
   subst hkl;rw[List.take_length];refine run ?_
   refine loop ⟨[2,4,6,7,58,59,60],[4,6,7],[],[]⟩ (fun k:Nat=>k<=rs.length) (fun k=>rs.length-k)
    (fun k=>⟨95,[(2,.v (vi d)),(4,.p 4 0),(6,.p 6 0),(7,.p 7 0),(58,.v (ruls rs)),(59,.v (vi rs.length)),(60,.v (vi k))],
     [(4,.var f.cs),(6,.var lokZ),(7,.var (Lok.cs ⟨r,f,d,rs,(jfr f d (rs.take k) (-1,0)).1,(jfr f d (rs.take k) (-1,0)).2⟩))],[]⟩) 0 (Nat.zero_le _) ?_
   intro k hk;by_cases hlt:k<rs.length
   ·obtain ⟨x,hx,-,hm⟩:=ja1 hlt;have hfx:=hr.rls.2 x (hmem x hm);have hsn:=lateF_snoc f d (-1,0) hx;obtain ⟨y,hy⟩:∃y,jfr f d (rs.take k) (-1,0)=y:=⟨_,rfl⟩;rw[hy] at hsn ⊢;have hS:∀z,jfp f d y x=z->(jfr f d (rs.take (k+1)) (-1,0))=z:=fun z hz=>by rw[hsn,hz]
    refine rcW hx (jrs f x.trg d hf) ?_;cases ht:trig f x.trg d with
    | none=>
     rw[trigV,ht];have hS':=hS y (stepL_none (dueF_no ht));refine runW hx ?_;exact zcm
    | some t=>
     obtain ⟨a,b⟩:=t;rw[trigV,ht];refine rcW hx (den_Due L x a b hfx) ?_;rcases stepL_of f d y x ht with ⟨h1,h2⟩ | ⟨t,h1,⟨h2,h3⟩ | ⟨h2,h3⟩⟩
     ·have hS':=hS y h2;rw[dueV,h1];refine runW hx ?_;exact zcm
     ·have hS':=hS _ h3;rw[dueV,h1];refine runD (ai hx (eq_true h2)) ?_;refine aw_tree (.one 0 (.one 1 (.one 3 (.alt 2 (.alt 4 (.one 5 (.alt 6 .done .nil)) .nil) (.alt 4 (.alt 2 (.one 5 (.alt 6 .done .nil)) .nil) .nil))))) ?_;refine runTree hx ?_;refine run ?_;exact zcm
     ·have hS':=hS y h3;rw[dueV,h1];refine runW (ai hx (eq_false h2)) ?_;exact zcm
   ·have hkl:k=rs.length:=om
    subst hkl;rw[List.take_length];exact za
 ·rw[lokOf,rulesF_bad hz];refine runW hz ?_;refine finW (wk_aggs ?_ rfl)
  repeat (first | exact .nil | refine .cons (.refl _) ?_ | refine .cons (.nil _) ?_)
theorem den_anyRul (l:List Rul) (f:FuncId) (cap:List V) (p:Rul->Bool) (hl:l.length<=1048576) (hp:∀e∈l,Den prog T f (.agg e.cs::cap) (vb (p e))):
   Den prog T 258 [ruls l,.func f cap] (vb (l.any p)):=by
  refine ja0 call258 func258 9 ?_;refine rc (jpx l f cap p hl hp) ?_;exact zbk
def firR (o:Option Rul):Int:=match o with | some q=>q.id | none=>0
theorem den_first (x:Lok) (h:FuncId) (cap:List V) (p:Rul->Bool) (hl:x.rls.length<=1048576) (hp:∀q∈x.rls,Den prog T h (.agg q.cs::cap) (vb (p q))):
  Den prog T 246 [.agg x.cs,.func h cap] (.tup [vi (firR (x.rls.find? p)),vb (x.rls.find? p).isSome]):=by
 refine ja0 call246 func246 19 ?_;refine rc (jpx x.rls h cap p hl hp) ?_;rcases jee p x.rls with ⟨h1,h2⟩ | ⟨k,q,h1,hk,h3,-,h2⟩
 ·rw[h1,h2];exact za
 ·rw[h1,h2];refine runW h3 ?_;exact fin rfl
abbrev pvV (b:Nat):V:= .val (.pointer (some ⟨b,0,none⟩))
theorem jlf (k:Int) (is:Bool) (b:Nat):Den prog T 242 [vi k,vb is,pvV b] (.func 243 [.row [vi k],pvV b,.row [vb is]]):=by
 refine ja0 call242 func242 7 ?_;exact za
theorem den_ruled (x:Lok) (k:Int) (h:FuncId) (cap:List V) (b:Nat):Den prog T 244 [vi k,.func h cap,.row x.cs,pvV b] (.func 245 [.row x.cs,.row [.func h cap],.row [vi k],pvV b]):=by
 refine ja0 call244 func244 8 ?_;exact za
theorem den_waits (x:Lok) (q:Rul) (hf:x.f.Fit):Den prog T 247 [.agg q.cs,.row x.cs] (vb (jdj x.f x.d q)):=by
 refine ja0 call247 func247 18 ?_;refine rc (jrs x.f q.trg x.d hf) ?_;unfold jdj;cases h:trig x.f q.trg x.d with
 | none=>
  rw[trigV,h];exact za
 | some t=>
  rw[trigV,h];exact za
theorem jmu (x:Lok) (k:Int) (h:FuncId) (cap:List V) (b:Nat):Den prog T 248 [vi k,.func h cap,.row x.cs,pvV b] (.func 249 [.row [vi k],.row x.cs,pvV b,.row [.func h cap]]):=by
 refine ja0 call248 func248 8 ?_;exact za
abbrev vcs (k f d r u:Int) (h:V):List V:=[vi k,vi f,vi d,vi r,vi u,h]
abbrev vBlk (k f d r u:Int) (h:V) (b:Nat):List (Nat×Blk):=[(999000,.var (vcs k f d r u h) (some b))]
theorem jl1 (k k0 f d r u:Int) (h:V) (is:Bool) (b:Nat):DenS prog T 243 (vBlk k0 f d r u h b) [] [.v (.row [vi k]),.p 999000 0,.v (.row [vb is])] (vBlk k f d r u h b) [] (.v (vb is)):=by
 refine jes follows (fun args w=>call243 args w) func243 rfl 7 rfl rfl ?_;refine run ?_;exact zb6
theorem den_ruled1 (x:Lok) (g:FuncId) (cap:List V) (p:Rul->Bool) (hl:x.rls.length<=1048576) (hp:∀q∈x.rls,Den prog T g (.agg q.cs::cap) (vb (p q))) (k k0 f d r u:Int) (h:V) (b:Nat):
  DenS prog T 245 (vBlk k0 f d r u h b) [] [.v (.row x.cs),.v (.row [.func g cap]),.v (.row [vi k]),.p 999000 0] (vBlk k f d (firR (x.rls.find? p)) u h b) [] (.v (vb (x.rls.find? p).isSome)):=by
 refine jes follows (fun args w=>call245 args w) func245 rfl 18 rfl rfl ?_;refine rc (den_first x g cap p hl hp) ?_;refine run ?_;exact zb6
theorem jow (x:Lok) (g:FuncId) (cap:List V) (is:Bool) (hp:Den prog T g cap (vb is)) (k k0 f d r u:Int) (h:V) (b:Nat):
  DenS prog T 249 (vBlk k0 f d r u h b) [] [.v (.row [vi k]),.v (.row x.cs),.p 999000 0,.v (.row [.func g cap])] (vBlk k f d x.by' x.due h b) [] (.v (vb is)):=by
 refine jes follows (fun args w=>call249 args w) func249 rfl 15 rfl rfl ?_;refine runD trivial ?_;refine aw_tree ((.one 1 (.one 3 (.alt 0 (.one 5 (.alt 2 (.alt 4 (.alt 6 (.one 7 (.alt 8 (.one 9 (.alt 10 .done .nil)) .nil)) .nil) (.alt 6 (.one 7 (.alt 4 (.alt 8 (.one 9 (.alt 10 .done .nil)) .nil) (.alt 8 (.alt 4 (.one 9 (.alt 10 .done .nil)) .nil) .nil))) .nil)) (.alt 4 (.alt 2 (.alt 6 (.one 7 (.alt 8 (.one 9 (.alt 10 .done .nil)) .nil)) .nil) (.alt 6 (.alt 2 (.one 7 (.alt 8 (.one 9 (.alt 10 .done .nil)) .nil)) .nil) .nil)) (.alt 6 (.alt 2 (.one 7 (.alt 4 (.alt 8 (.one 9 (.alt 10 .done .nil)) .nil) (.alt 8 (.alt 4 (.one 9 (.alt 10 .done .nil)) .nil) .nil))) (.alt 4 (.alt 2 (.one 7 (.alt 8 (.one 9 (.alt 10 .done .nil)) .nil)) .nil) .nil)) .nil)))) (.alt 2 (.alt 0 (.one 5 (.alt 4 (.alt 6 (.one 7 (.alt 8 (.one 9 (.alt 10 .done .nil)) .nil)) .nil) (.alt 6 (.one 7 (.alt 4 (.alt 8 (.one 9 (.alt 10 .done .nil)) .nil) (.alt 8 (.alt 4 (.one 9 (.alt 10 .done .nil)) .nil) .nil))) .nil))) (.alt 4 (.alt 0 (.one 5 (.alt 6 (.one 7 (.alt 8 (.one 9 (.alt 10 .done .nil)) .nil)) .nil)) .nil) .nil)) (.alt 4 (.alt 0 (.one 5 (.alt 2 (.alt 6 (.one 7 (.alt 8 (.one 9 (.alt 10 .done .nil)) .nil)) .nil) (.alt 6 (.alt 2 (.one 7 (.alt 8 (.one 9 (.alt 10 .done .nil)) .nil)) .nil) .nil))) (.alt 2 (.alt 0 (.one 5 (.alt 6 (.one 7 (.alt 8 (.one 9 (.alt 10 .done .nil)) .nil)) .nil)) .nil) .nil)) .nil)))))) ?_;refine runTree trivial ?_;refine rc hp ?_;refine run ?_;exact zb6
theorem den_late (x:Lok):Den prog T 254 [.row x.cs] (vb (decide (x.d<=x.due))):=by
 refine ja0 call254 func254 7 ?_;exact za
theorem den_moves (x:Lok) (hr:x.r.Fit) (hl:x.rls.length<=1048576):Den prog T 257 [.row x.cs] (vb (x.rls.any moveB || selB x.r x.f x.d)):=by
 refine ja0 call257 func257 9 ?_;refine rc (den_anyRul x.rls _ [] moveB hl fun q _=>den_transfers q) ?_;cases h:x.rls.any moveB
 ·refine rc (den_selectedL x hr) ?_;exact za
 ·exact za
theorem den_yes:Den prog T 261 [] (vb true):=by
 refine ja0 call261 func261 1 ?_;exact za
theorem den_held (L:LibC T) (x:Lok) (hr:x.r.Fit) (hf:x.f.Fit) (k f d r u:Int) (h:V) (b:Nat):
  DenS prog T 255 (vBlk k f d r u h b) [] [.v (.row x.cs),.p 999000 0] (vBlk k f d r u (ints (jch x.r.ofs x.r.pls x.r.hls x.f x.d)) b) [] (.v (vb (decide (jch x.r.ofs x.r.pls x.r.hls x.f x.d≠[])))):=by
 refine jes follows (fun args w=>call255 args w) func255 rfl 22 rfl rfl ?_;refine rc (den_Holding L x.r.ofs x.r.pls x.r.hls x.f x.d hr.ofs hr.pls hr.hls hf).den ?_;refine run ?_;refine jgf (.v (.of (ja3 ?_)));cases jch x.r.ofs x.r.pls x.r.hls x.f x.d with
 | nil=>rfl
 | cons a l=>simp
theorem den_timed2 (L:LibC T) (x:Lok) (hr:x.r.Fit) (hf:x.f.Fit) (k k0 f d r u:Int) (h:V) (b:Nat):
  DenS prog T 249 (vBlk k0 f d r u h b) [] [.v (.row [vi k]),.v (.row x.cs),.p 999000 0,.v (.row [.func 255 [.row x.cs,pvV b]])] (vBlk k f d x.by' x.due (ints (jch x.r.ofs x.r.pls x.r.hls x.f x.d)) b) [] (.v (vb (decide (jch x.r.ofs x.r.pls x.r.hls x.f x.d≠[])))):=by
 refine jes follows (fun args w=>call249 args w) func249 rfl 15 rfl rfl ?_;refine runD trivial ?_;refine aw_tree ((.one 1 (.one 3 (.alt 0 (.one 5 (.alt 2 (.alt 4 (.alt 6 (.one 7 (.alt 8 (.one 9 (.alt 10 .done .nil)) .nil)) .nil) (.alt 6 (.one 7 (.alt 4 (.alt 8 (.one 9 (.alt 10 .done .nil)) .nil) (.alt 8 (.alt 4 (.one 9 (.alt 10 .done .nil)) .nil) .nil))) .nil)) (.alt 4 (.alt 2 (.alt 6 (.one 7 (.alt 8 (.one 9 (.alt 10 .done .nil)) .nil)) .nil) (.alt 6 (.alt 2 (.one 7 (.alt 8 (.one 9 (.alt 10 .done .nil)) .nil)) .nil) .nil)) (.alt 6 (.alt 2 (.one 7 (.alt 4 (.alt 8 (.one 9 (.alt 10 .done .nil)) .nil) (.alt 8 (.alt 4 (.one 9 (.alt 10 .done .nil)) .nil) .nil))) (.alt 4 (.alt 2 (.one 7 (.alt 8 (.one 9 (.alt 10 .done .nil)) .nil)) .nil) .nil)) .nil)))) (.alt 2 (.alt 0 (.one 5 (.alt 4 (.alt 6 (.one 7 (.alt 8 (.one 9 (.alt 10 .done .nil)) .nil)) .nil) (.alt 6 (.one 7 (.alt 4 (.alt 8 (.one 9 (.alt 10 .done .nil)) .nil) (.alt 8 (.alt 4 (.one 9 (.alt 10 .done .nil)) .nil) .nil))) .nil))) (.alt 4 (.alt 0 (.one 5 (.alt 6 (.one 7 (.alt 8 (.one 9 (.alt 10 .done .nil)) .nil)) .nil)) .nil) .nil)) (.alt 4 (.alt 0 (.one 5 (.alt 2 (.alt 6 (.one 7 (.alt 8 (.one 9 (.alt 10 .done .nil)) .nil)) .nil) (.alt 6 (.alt 2 (.one 7 (.alt 8 (.one 9 (.alt 10 .done .nil)) .nil)) .nil) .nil))) (.alt 2 (.alt 0 (.one 5 (.alt 6 (.one 7 (.alt 8 (.one 9 (.alt 10 .done .nil)) .nil)) .nil)) .nil) .nil)) .nil)))))) ?_;refine runTree trivial ?_;refine run ?_;refine jdv (callS [(999000,999000)] (den_held L x hr hf k f d x.by' x.due h b) (.cons (.v _) (.cons (.pn rfl rfl) .nil)) ?_ ?_)
 ·exact zg
 refine run ?_;exact zb6
def vdtB (f d:Int) (b0 b1 b2 b3 b4 b5 b6 b7 b8 b9:Bool) (r5 r6 y u:Int) (hs:List Int):Vdt:=
 if b0=true then ⟨0,f,d,0,0,[]⟩ else if b1=true then ⟨1,f,d,0,0,[]⟩ else if b2=true then ⟨2,f,d,0,0,[]⟩ else if b3=true then ⟨0,f,d,0,0,[]⟩ else if b4=true then ⟨3,f,d,0,0,[]⟩ else
 if b5=true then ⟨4,f,d,r5,0,[]⟩ else if b6=true then ⟨5,f,d,r6,0,[]⟩ else if b7=true then ⟨6,f,d,y,u,[]⟩ else if b8=true then ⟨7,f,d,y,u,hs⟩ else if b9=true then ⟨9,f,d,y,u,[]⟩ else ⟨8,f,d,y,u,[]⟩
def vdtL (x:Lok):Vdt:=vdtB x.f.id x.d (decide (state x.f x.d=0)) (gone1 x.r x.f x.d) (gone2 x.r x.f x.d) (decide ((x.rls.length:Int)=0)) (decide (state x.f x.d=1)) (x.rls.find? keepB).isSome (x.rls.find? (jdj x.f x.d)).isSome (decide (x.d<=x.due))
 (decide (jch x.r.ofs x.r.pls x.r.hls x.f x.d≠[])) (x.rls.any moveB || selB x.r x.f x.d) (firR (x.rls.find? keepB)) (firR (x.rls.find? (jdj x.f x.d))) x.by' x.due (jch x.r.ofs x.r.pls x.r.hls x.f x.d)
theorem vdt_L (r:Rgs) (f:Fil) (d:Int):vdtL (lokOf r f d)=vdt r f d:=by
 have e:∀l:List Rul,decide ((l.length:Int)=0)=decide (l=[]):=fun l=>by cases l <;> simp; omega
 unfold vdtL vdt vdtB lokOf;simp only[e,decide_eq_true_eq,Bool.or_eq_true];split
 ·rfl
 split
 ·rfl
 split
 ·rfl
 split
 ·rfl
 split
 ·rfl
 cases (jb2 r f d).find? keepB with
 | some q=>rfl
 | none=>
  cases (jb2 r f d).find? (jdj f d) with
  | some q=>rfl
  | none=>rfl
theorem jhd (k f d r u:Int):Wk (.agg (vcs k f d r u (.val (.slice none 0 0)))) (.agg (Vdt.cs ⟨k,f,d,r,u,[]⟩)):=by
 refine .agg rfl (fun c hc=> ?_) fun j v w hv hw=> ?_
 ·simp only[List.mem_cons,List.not_mem_nil,or_false] at hc;rcases hc with rfl | rfl | rfl | rfl | rfl | rfl <;> rfl
 ·rcases j with _ | _ | _ | _ | _ | _ | j
  ·exact zbw
  ·exact zbw
  ·exact zbw
  ·exact zbw
  ·exact zbw
  ·simp at hv hw; subst hv hw; exact .nil 1
  ·simp at hv
def rowsV (x:Lok) (b:Nat) (b0 b1 b2 b3 b4:Bool):List (List V):=[[.func 243 [.row [vi 0],pvV b,.row [vb b0]]],
 [.func 243 [.row [vi 1],pvV b,.row [vb b1]]],
 [.func 243 [.row [vi 2],pvV b,.row [vb b2]]],
 [.func 243 [.row [vi 0],pvV b,.row [vb b3]]],
 [.func 243 [.row [vi 3],pvV b,.row [vb b4]]],
 [.func 245 [.row x.cs,.row [.func 253 []],.row [vi 4],pvV b]],
 [.func 245 [.row x.cs,.row [.func 247 [.row x.cs]],.row [vi 5],pvV b]],
 [.func 249 [.row [vi 6],.row x.cs,pvV b,.row [.func 254 [.row x.cs]]]],
 [.func 249 [.row [vi 7],.row x.cs,pvV b,.row [.func 255 [.row x.cs,pvV b]]]],
 [.func 249 [.row [vi 9],.row x.cs,pvV b,.row [.func 257 [.row x.cs]]]],
 [.func 249 [.row [vi 8],.row x.cs,pvV b,.row [.func 261 []]]]]
def bAt (b0 b1 b2 b3 b4 b5 b6 b7 b8 b9:Bool):Nat->Bool
 | 0=>b0
 | 1=>b1
 | 2=>b2
 | 3=>b3
 | 4=>b4
 | 5=>b5
 | 6=>b6
 | 7=>b7
 | 8=>b8
 | 9=>b9
 | _=>true
def vAt (f d r5 r6 y u:Int) (hs:List Int):Nat->List V
 | 0=>vcs 0 f d 0 0 (.val (.slice none 0 0))
 | 1=>vcs 0 f d 0 0 (.val (.slice none 0 0))
 | 2=>vcs 1 f d 0 0 (.val (.slice none 0 0))
 | 3=>vcs 2 f d 0 0 (.val (.slice none 0 0))
 | 4=>vcs 0 f d 0 0 (.val (.slice none 0 0))
 | 5=>vcs 3 f d 0 0 (.val (.slice none 0 0))
 | 6=>vcs 4 f d r5 0 (.val (.slice none 0 0))
 | 7=>vcs 5 f d r6 0 (.val (.slice none 0 0))
 | 8=>vcs 6 f d y u (.val (.slice none 0 0))
 | 9=>vcs 7 f d y u (ints hs)
 | 10=>vcs 9 f d y u (ints hs)
 | _=>vcs 8 f d y u (ints hs)
theorem vAt_six (f d r5 r6 y u:Int) (hs:List Int):∀k,∃k1 k2 k3 k4 k5 k6,vAt f d r5 r6 y u hs k=[k1,k2,k3,k4,k5,k6]
 | 0=>⟨_,_,_,_,_,_,rfl⟩
 | 1=>⟨_,_,_,_,_,_,rfl⟩
 | 2=>⟨_,_,_,_,_,_,rfl⟩
 | 3=>⟨_,_,_,_,_,_,rfl⟩
 | 4=>⟨_,_,_,_,_,_,rfl⟩
 | 5=>⟨_,_,_,_,_,_,rfl⟩
 | 6=>⟨_,_,_,_,_,_,rfl⟩
 | 7=>⟨_,_,_,_,_,_,rfl⟩
 | 8=>⟨_,_,_,_,_,_,rfl⟩
 | 9=>⟨_,_,_,_,_,_,rfl⟩
 | 10=>⟨_,_,_,_,_,_,rfl⟩
 | _+11=>⟨_,_,_,_,_,_,rfl⟩
def RowD (T:Lay) (b:Nat) (v:Nat->List V) (bs:Nat->Bool) (rows:List (List V)) (k:Nat):Prop:=
 ∃g cap ts,rows[k]? = some [.func g cap]/\DenS prog T g [(999000,.var (v k) (some b))] [] ts [(999000,.var (v (k+1)) (some b))] [] (.v (vb (bs k)))/\∀h:List (Nat×Blk),nmOf (Go.Ab.look 3 h)=some b->ArgsM [(999000,3)] h ts (cap.map .v)
theorem fin_row (f d:Int) (b0 b1 b2 b3 b4 b5 b6 b7 b9:Bool) (r5 r6 y u:Int) (hs:List Int) (b8:Bool) (hb8:b8=decide (hs≠[])) (h5:b5=false->r5=0):
  ∀k,k<11->(∀j,j<k->bAt b0 b1 b2 b3 b4 b5 b6 b7 b8 b9 j=false)->bAt b0 b1 b2 b3 b4 b5 b6 b7 b8 b9 k=true->Wk (.agg (vAt f d r5 r6 y u hs (k+1))) (.agg (vdtB f d b0 b1 b2 b3 b4 b5 b6 b7 b8 b9 r5 r6 y u hs).cs):=by
 intro k hk hall hb;have g0:0<k->b0=false:=fun h=>hall 0 h;have g1:1<k->b1=false:=fun h=>hall 1 h;have g2:2<k->b2=false:=fun h=>hall 2 h;have g3:3<k->b3=false:=fun h=>hall 3 h;have g4:4<k->b4=false:=fun h=>hall 4 h;have g5:5<k->b5=false:=fun h=>hall 5 h;have g6:6<k->b6=false:=fun h=>hall 6 h;have g7:7<k->b7=false:=fun h=>hall 7 h;have g8:8<k->b8=false:=fun h=>hall 8 h;have g9:9<k->b9=false:=fun h=>hall 9 h
 match k,hk with
 | 0,_=>have hb:b0=true:=hb; subst hb; exact jhd _ _ _ _ _
 | 1,_=>rw[g0 om]; have hb:b1=true:=hb; subst hb; exact jhd _ _ _ _ _
 | 2,_=>rw[g0 om,g1 om]; have hb:b2=true:=hb; subst hb; exact jhd _ _ _ _ _
 | 3,_=>rw[g0 om,g1 om,g2 om]; have hb:b3=true:=hb; subst hb; exact jhd _ _ _ _ _
 | 4,_=>rw[g0 om,g1 om,g2 om,g3 om]; have hb:b4=true:=hb; subst hb; exact jhd _ _ _ _ _
 | 5,_=>rw[g0 om,g1 om,g2 om,g3 om,g4 om]; have hb:b5=true:=hb; subst hb; exact jhd _ _ _ _ _
 | 6,_=>rw[g0 om,g1 om,g2 om,g3 om,g4 om,g5 om]; have hb:b6=true:=hb; subst hb; exact jhd _ _ _ _ _
 | 7,_=>rw[g0 om,g1 om,g2 om,g3 om,g4 om,g5 om,g6 om]; have hb:b7=true:=hb; subst hb; exact jhd _ _ _ _ _
 | 8,_=>rw[g0 om,g1 om,g2 om,g3 om,g4 om,g5 om,g6 om,g7 om]; have hb:b8=true:=hb; rw[hb]; exact .refl _
 | 9,_=>
  have g8':=g8 om;have he:hs=[]:=by rw[g8'] at hb8; simpa using hb8.symm
  rw[g0 om,g1 om,g2 om,g3 om,g4 om,g5 om,g6 om,g7 om,g8']; have hb:b9=true:=hb; rw[hb,he]; exact .refl _
 | 10,_=>
  have g8':=g8 om;have he:hs=[]:=by rw[g8'] at hb8; simpa using hb8.symm
  rw[g0 om,g1 om,g2 om,g3 om,g4 om,g5 om,g6 om,g7 om,g8',g9 om,he]; exact .refl _
set_option maxHeartbeats 8000000 in
theorem den_decide (L:LibC T) (x:Lok) (hr:x.r.Fit) (hf:x.f.Fit) (hl:x.rls.length<=1048576):Den prog T 200 [.agg x.cs] (.agg (vdtL x).cs):=by
 have hc1:=den_destroyedL (T:=T) x hr;have hc2:=den_movedL (T:=T) x hr;have hc5:=fun (k k0 f d r u:Int) (h:V) (b:Nat)=>den_ruled1 (T:=T) x 253 [] keepB hl (fun q _=>den_keeps q) k k0 f d r u h b;have hc6:=fun (k k0 f d r u:Int) (h:V) (b:Nat)=>den_ruled1 (T:=T) x 247 [.row x.cs] (jdj x.f x.d) hl (fun q _=>den_waits x q hf) k k0 f d r u h b;have hc7:=fun (k k0 f d r u:Int) (h:V) (b:Nat)=>jow (T:=T) x _ _ _ (den_late x) k k0 f d r u h b;have hc8:=fun (k k0 f d r u:Int) (h:V) (b:Nat)=>den_timed2 (T:=T) L x hr hf k k0 f d r u h b;have hc9:=fun (k k0 f d r u:Int) (h:V) (b:Nat)=>jow (T:=T) x _ _ _ (den_moves x hr hl) k k0 f d r u h b;have hc10:=fun (k k0 f d r u:Int) (h:V) (b:Nat)=>jow (T:=T) x _ _ _ den_yes k k0 f d r u h b;unfold vdtL;obtain ⟨b0,h0⟩:∃b,decide (state x.f x.d=0)=b:=⟨_,rfl⟩;obtain ⟨b1,h1⟩:∃b,gone1 x.r x.f x.d=b:=⟨_,rfl⟩;obtain ⟨b2,h2⟩:∃b,gone2 x.r x.f x.d=b:=⟨_,rfl⟩;obtain ⟨b3,h3⟩:∃b,decide ((x.rls.length:Int)=0)=b:=⟨_,rfl⟩;obtain ⟨b4,h4⟩:∃b,decide (state x.f x.d=1)=b:=⟨_,rfl⟩;obtain ⟨o5,h5⟩:∃b,x.rls.find? keepB=b:=⟨_,rfl⟩;obtain ⟨o6,h6⟩:∃b,x.rls.find? (jdj x.f x.d)=b:=⟨_,rfl⟩;obtain ⟨b7,h7⟩:∃b,decide (x.d<=x.due)=b:=⟨_,rfl⟩;obtain ⟨hs,h8⟩:∃b,jch x.r.ofs x.r.pls x.r.hls x.f x.d=b:=⟨_,rfl⟩;obtain ⟨b9,h9⟩:∃b,(x.rls.any moveB || selB x.r x.f x.d)=b:=⟨_,rfl⟩;rw[h1] at hc1;rw[h2] at hc2;rw[h5] at hc5;rw[h6] at hc6;rw[h7] at hc7;rw[h8] at hc8;rw[h9] at hc9;rw[h0,h1,h2,h3,h4,h5,h6,h7,h8,h9];refine ja0 call200 func200 78 ?_;refine runMk trivial ?_;refine aw_name 3 ?_;intro b hb;clear hb;refine rc (den_State x.f x.d) ?_;refine rcW h0 (jlf 0 b0 b) ?_;refine rc hc1 ?_;refine rc (jlf 1 b1 b) ?_;refine rc hc2 ?_;refine rc (jlf 2 b2 b) ?_;refine rcW h3 (jlf 0 b3 b) ?_;refine rc (den_State x.f x.d) ?_;refine rcW h4 (jlf 3 b4 b) ?_;refine rc (den_ruled x 4 _ _ b) ?_;refine rc (den_ruled x 5 _ _ b) ?_;refine rc (jmu x 6 _ _ b) ?_;refine rc (jmu x 7 _ _ b) ?_;refine rc (jmu x 9 _ _ b) ?_;refine rc (jmu x 8 _ _ b) ?_;refine run ?_
 have hrows:∀k,k<11->RowD T b (vAt x.f.id x.d (firR o5) (firR o6) x.by' x.due hs) (bAt b0 b1 b2 b3 b4 o5.isSome o6.isSome b7 (decide (hs≠[])) b9) (rowsV x b b0 b1 b2 b3 b4) k:=fun k hk=>by
  match k,hk with
  | 0,_=>exact ⟨_,_,_,rfl,jl1 0 0 _ _ _ _ _ b0 b,fun h e=> .cons (.v _) (.cons (.pn rfl e) (.cons (.v _) .nil))⟩
  | 1,_=>exact ⟨_,_,_,rfl,jl1 1 0 _ _ _ _ _ b1 b,fun h e=> .cons (.v _) (.cons (.pn rfl e) (.cons (.v _) .nil))⟩
  | 2,_=>exact ⟨_,_,_,rfl,jl1 2 1 _ _ _ _ _ b2 b,fun h e=> .cons (.v _) (.cons (.pn rfl e) (.cons (.v _) .nil))⟩
  | 3,_=>exact ⟨_,_,_,rfl,jl1 0 2 _ _ _ _ _ b3 b,fun h e=> .cons (.v _) (.cons (.pn rfl e) (.cons (.v _) .nil))⟩
  | 4,_=>exact ⟨_,_,_,rfl,jl1 3 0 _ _ _ _ _ b4 b,fun h e=> .cons (.v _) (.cons (.pn rfl e) (.cons (.v _) .nil))⟩
  | 5,_=>exact ⟨_,_,_,rfl,hc5 4 3 _ _ _ _ _ b,fun h e=> .cons (.v _) (.cons (.v _) (.cons (.v _) (.cons (.pn rfl e) .nil)))⟩
  | 6,_=>exact ⟨_,_,_,rfl,hc6 5 4 _ _ _ _ _ b,fun h e=> .cons (.v _) (.cons (.v _) (.cons (.v _) (.cons (.pn rfl e) .nil)))⟩
  | 7,_=>exact ⟨_,_,_,rfl,hc7 6 5 _ _ _ _ _ b,fun h e=> .cons (.v _) (.cons (.v _) (.cons (.pn rfl e) (.cons (.v _) .nil)))⟩
  | 8,_=>exact ⟨_,_,_,rfl,hc8 7 6 _ _ _ _ _ b,fun h e=> .cons (.v _) (.cons (.v _) (.cons (.pn rfl e) (.cons (.v _) .nil)))⟩
  | 9,_=>exact ⟨_,_,_,rfl,hc9 9 7 _ _ _ _ _ b,fun h e=> .cons (.v _) (.cons (.v _) (.cons (.pn rfl e) (.cons (.v _) .nil)))⟩
  | 10,_=>exact ⟨_,_,_,rfl,hc10 8 9 _ _ _ _ _ b,fun h e=> .cons (.v _) (.cons (.v _) (.cons (.pn rfl e) (.cons (.v _) .nil)))⟩
 have hfin:=fin_row x.f.id x.d b0 b1 b2 b3 b4 o5.isSome o6.isSome b7 b9 (firR o5) (firR o6) x.by' x.due hs (decide (hs≠[])) rfl (fun h=>by cases o5 with | none=>rfl | some q=>cases h);obtain ⟨R,hR⟩:∃R,rowsV x b b0 b1 b2 b3 b4=R:=⟨_,rfl⟩;have hRl:R.length=11:=by rw[<- hR]; rfl
 rw[hR] at hrows;obtain ⟨W,hW⟩:∃W,vdtB x.f.id x.d b0 b1 b2 b3 b4 o5.isSome o6.isSome b7 (decide (hs≠[])) b9 (firR o5) (firR o6) x.by' x.due hs=W:=⟨_,rfl⟩;rw[hW] at hfin ⊢;obtain ⟨B,hB⟩:∃B,bAt b0 b1 b2 b3 b4 o5.isSome o6.isSome b7 (decide (hs≠[])) b9=B:=⟨_,rfl⟩;have hB10:B 10=true:=by rw[<- hB]; rfl
 rw[hB] at hfin hrows;obtain ⟨A,hA⟩:∃A,vAt x.f.id x.d (firR o5) (firR o6) x.by' x.due hs=A:=⟨_,rfl⟩;have hA0:A 0=vcs 0 x.f.id x.d 0 0 (.val (.slice none 0 0)):=by rw[<- hA]; rfl
 have hAl:∀k,∃k1 k2 k3 k4 k5 k6,A k=[k1,k2,k3,k4,k5,k6]:=fun k=>by rw[<- hA]; exact vAt_six _ _ _ _ _ _ _ k
 rw[hA] at hfin hrows
 refine loop ⟨[2,3,68,69,70],[2,3],[],[]⟩ (fun k:Nat=>k<11/\∀j,j<k->B j=false) (fun k=>11-k)
  (fun k=>⟨78,[(2,.p 2 0),(3,.p 3 0),(68,.v (.slice 1 R)),(69,.v (vi 11)),(70,.v (vi k))],[(2,.var (vcs 0 0 0 0 0 (.val (.slice none 0 0)))),(3,.var (A k) (some b))],[]⟩) 0 ⟨dc,fun j h=>absurd h (Nat.not_lt_zero j)⟩ ?_ (by rw[hA0,<- hR]; rfl)
 rintro k ⟨hk,hall⟩;obtain ⟨g,cap,ts,hg,hden,hargs⟩:=hrows k hk;have hkR:k<R.length:=om
 refine runW hg ?_;refine jdv (callS [(999000,3)] hden (hargs _ rfl) ?_ ?_)
 ·intro y hy;simp only[List.mem_singleton] at hy;subst hy;exact ⟨3,_,rfl,rfl,rfl,.inr rfl,rfl⟩
 cases hbk:B k
 ·have hk':k+1<11:=by
   by_cases h:k+1<11
   ·exact h
   ·have:k=10:=om
    subst this;rw[hB10] at hbk; cases hbk
  refine run ?_;refine round (k+1) ⟨hk',fun j hj=> ?_⟩ om;by_cases hjk:j=k
  ·subst hjk; exact hbk
  ·exact hall j om
 ·have hf:=hfin k hk hall hbk;obtain ⟨k1,k2,k3,k4,k5,k6,he⟩:=hAl (k+1);rw[he] at hf ⊢;refine run ?_;exact finW hf
end Go.Arc
