/- A part of this claim. -/
import Derived.Test.YtpaallejmocmaaaGreatDoorBaW
set_option maxHeartbeats 8000000
set_option maxRecDepth 100000
namespace Go.Arc
open Go.Ab Go.RowKit Go.Proofs Tryz
variable {T : Lay}
variable {i:Nat}{P:Program}{st:St}{s:Str}{a:Int}{b:Int}{u:Int}
abbrev yi(n:Nat):V:=vi ((1600+n:Nat):Int)
theorem jc8(n k:Nat)(h:1600 % k=0):(((1600+n:Nat):Int)).tmod (k:Int)=((n % k:Nat):Int):=by
 rw[fo,Nat.add_mod,h,vx,Nat.mod_mod]
theorem jpi(n:Nat):((1600+n:Nat):Int)-1600=(n:Int):=omq
theorem jpg(n a k:Nat):((n:Int)+(a:Int)).tdiv (k:Int)=(((n+a) / k:Nat):Int):=by
 rw[<- na];rfl
theorem qpz(n:Nat):Den prog T 385 [yi n] (vb (az n)):=by
 refine ab call385 func385 16 ?_;have h4:(((1600+n:Nat):Int)).tmod 4=((n % 4:Nat):Int):=jc8 n 4 rfl;have h100:(((1600+n:Nat):Int)).tmod 100=((n % 100:Nat):Int):=jc8 n 100 rfl;have h400:(((1600+n:Nat):Int)).tmod 400=((n % 400:Nat):Int):=jc8 n 400 rfl;have hl:az n=(decide (n % 4=0) && (decide (n % 100≠0) || decide (n % 400=0))):=rfl;by_cases a4:n % 4=0
 .by_cases a100:n % 100=0
  .by_cases a400:n % 400=0
   .exact zen
   refine runW (ai h4 (ai h100 (ai h400 (ai a4 a100)))) ?_;exact zco
  exact zd1
 refine runW (ai h4 (ai h100 h400)) ?_;refine fin (ae ?_);rw[hl];simp[a4]
theorem jh0(n:Nat)(hn:n<=4000):Den prog T 340 [yi n] (vi (bgn n)):=by
 refine ab call340 func340 20 ?_;have h4:((n:Int)+3).tdiv 4=(((n+3) / 4:Nat):Int):=jpg n 3 4;have h100:((n:Int)+99).tdiv 100=(((n+99) / 100:Nat):Int):=jpg n 99 100;have h400:((n:Int)+399).tdiv 400=(((n+399) / 400:Nat):Int):=jpg n 399 400;have hb:(bgn n:Int)=365*(n:Int)+(((n+3) / 4:Nat):Int)-(((n+99) / 100:Nat):Int)+(((n+399) / 400:Nat):Int):=by unfold bgn;omega
 refine runW (ai (jpi n) (ai h4 (ai h100 h400))) ?_;exact fin (ah hb.symm)
theorem jap(l:Bool)(m:Nat):lenM l m<=31:=by
 unfold lenM;split
 .decide
 rcases m with _|m
 .decide
 rcases vo m 12 with h|h
 .have:m=0\/m=1\/m=2\/m=3\/m=4\/m=5\/m=6\/m=7\/m=8\/m=9\/m=10\/m=11:=omq;rcases this with rfl|rfl|rfl|rfl|rfl|rfl|rfl|rfl|rfl|rfl|rfl|rfl<;>decide
 rw[show m+1-1=m from rfl,yy (by simpa [qd7] using h)];decide
theorem qai{l:Bool}{m:Nat}(h1:1<=m)(h2:m<=12):28<=lenM l m:=by
 have:m=1\/m=2\/m=3\/m=4\/m=5\/m=6\/m=7\/m=8\/m=9\/m=10\/m=11\/m=12:=omq;rcases this with rfl|rfl|rfl|rfl|rfl|rfl|rfl|rfl|rfl|rfl|rfl|rfl<;>cases l<;>decide
theorem jbx(l:Bool):∀m:Nat,sumM l m<=31*m
 |0=>uq _
 |m+1=>by
  unfold sumM;split
  .omega
  have:=jbx l m;have:=jap l m;omega
abbrev mlv:V:=.agg [vi 31,vi 28,vi 31,vi 30,vi 31,vi 30,vi 31,vi 31,vi 30,vi 31,vi 30,vi 31]
theorem jsx:Den prog T 386 [] mlv:=by
 refine ab call386 func386 2 ?_;exact zba
theorem jgh(n m:Nat)(hn:n<=2870)(h1:1<=m)(h2:m<=12):Den prog T 339 [yi n,vi m] (vi (lenM (az n) m)):=by
  refine ab call339 func339 29 ?_;have hm:m=1\/m=2\/m=3\/m=4\/m=5\/m=6\/m=7\/m=8\/m=9\/m=10\/m=11\/m=12:=omq;by_cases e2:m=2
  . subst e2;refine rc (qpz n) ?_;cases hl:az n
    . refine rc jsx ?_;exact za
    exact za
  have hlen:lenM (az n) m=lenM false m:=by unfold lenM;rw[ul (fun h=>e2 h.1),ul (fun h=>e2 h.1)]
  rw[hlen];rcases hm with rfl|rfl|rfl|rfl|rfl|rfl|rfl|rfl|rfl|rfl|rfl|rfl
  all_goals first
    |exact absurd rfl e2
    | (refine run ?_
       refine call jsx ?_;refine run ?_
       exact fin rfl)
structure DateOk (n m dd:Nat):Prop where
 y1:n<=2870
 m1:1<=m
 m2:m<=12
 d1:1<=dd
 d2:dd<=lenM (az n) m
abbrev ofN(n m dd:Nat):Nat:=bgn n+sumM (az n) m+dd-1
abbrev ofV(n m dd:Nat):V:=if 1048575<ofN n m dd then .tup [vi 0,vi 2] else .tup [vi (ofN n m dd),vi 0]
theorem jbj(l:Bool){m:Nat}(h:1<=m):sumM l (m+1)=sumM l m+lenM l m:=by
 conv=>lhs;unfold sumM
 rw[ul omq]
theorem qct(n m dd:Nat)(h:DateOk n m dd):Den prog T 338 [yi n,vi m,vi dd] (ofV n m dd):=by
 obtain⟨hn,h1,h2,d1,d2⟩:=h;have hb:=pd n;have hl31:=jap (az n) m;refine ab call338 func338 39 ?_;refine rc (jgh n m hn h1 h2) ?_;refine rcW (un (show ¬((lenM (az n) m:Nat):Int)<(dd:Int) by omega)) (jh0 n omq) ?_
 have e1:((bgn n:Nat):Int)+(dd:Int)-1=((ofN n 1 dd:Nat):Int):=by
  show _=((bgn n+0+dd-1:Nat):Int)
  omega
 refine runW e1 ?_;refine bp ⟨[9,10,0,1],[],[],[]⟩ (fun k:Nat=>1<=k/\k<=m) (fun k=>m-k) (fun k=>[(9,.v (vi ((ofN n k dd:Nat):Int))),(10,.v (vi k))]) 1 ⟨uv _,h1⟩ ?_;rintro k ⟨hk1,hk2⟩;have hs:=jbx (az n) k;have hl:=jap (az n) k;by_cases hlt:k<m
 .refine rc (jgh n k hn hk1 omq) ?_
  have e:((ofN n k dd:Nat):Int)+((lenM (az n) k:Nat):Int)=((ofN n (k+1) dd:Nat):Int):=by
   exact zeo
  have hx:ofN n (k+1) dd<=2000000:=by
   exact zeo
  refine runW e ?_;exact round (k+1) ⟨omq,omq⟩ omq
 have hk:k=m:=omq;subst hk;unfold ofV;by_cases hx:1048575<ofN n k dd
 .rw[um hx];exact za
 rw[ul hx];exact za
theorem resS4{a b c d:V}{x y z u:ResultVar}(h1:resV P st x=some a)(h2:resV P st y=some b)(h3:resV P st z=some c)(h4:resV P st u=some d):resS P st [x,y,z,u]=some (.tup [a,b,c,d]):=by simp[resS,resL,h1,h2,h3,h4]
theorem fin4{rs:List ResultVar}{r r':V}(hr:r'=r)(h:resS P st rs=some r':=by exact resS4 rfl rfl rfl rfl):sl P rs r .rt st:=.inl ⟨r',h,.of hr⟩
theorem qsu(q r:Nat):bgn (400*q+r)=146097*q+bgn r:=by unfold bgn;omega
theorem qst(d:Nat):bgn (400*(d / 146097)+d % 146097 / 366)<=d:=by
 rw[qsu];have h1:=pd (d % 146097 / 366);have h2:=qw1 d 146097;have h3:=qw1 (d % 146097) 366;omega
theorem jic{d m:Nat}(h:bgn m<=d):m<=yr d:=by
 rcases vo (yr d) m with hlt|hge
 .have h1:=jn6 (show yr d+1<=m by omega);have h2:=(jnp d).2;omega
 exact hge
theorem jes{d:Nat}(h:d<=1048575):yr d<=2870:=by
 rcases vo 2870 (yr d) with hlt|hge
 .have h1:=jn6 (show 2871<=yr d by omega);have h2:=(jnp d).1;have h3:bgn 2871=1048612:=by decide
  omega
 exact hge
theorem qmq(d:Nat)(h:d<=1048575):Den prog T 384 [vi d] (vb true):=by
 refine ab call384 func384 9 ?_;exact za
abbrev rk(d:Nat):V:=.tup [yi (date d).1,vi ((date d).2.1:Nat),vi (((date d).2.2+1:Nat):Int),vi 0]
theorem jz1(d:Nat)(h:d<=1048575):Den prog T 337 [vi d] (rk d):=by
 have hy:=jes h;have hin:=joj d;obtain⟨l,hl⟩:∃l,az (yr d)=l:=⟨_,rfl⟩;rw[hl] at hin;have hms:=jma hin
 have hdate:rk d=.tup [yi (yr d),vi ((mon l (d-bgn (yr d))).1:Nat),vi (((mon l (d-bgn (yr d))).2+1:Nat):Int),vi 0]:=by
  unfold rk date;rw[hl]
 rw[hdate];refine ab call337 func337 44 ?_;have h1:((d:Int)).tdiv 146097=((d / 146097:Nat):Int):=na d 146097;have h2:((d:Int)).tmod 146097=((d % 146097:Nat):Int):=fo d 146097;have h3:(((d % 146097:Nat):Int)).tdiv 366=((d % 146097 / 366:Nat):Int):=na (d % 146097) 366;have hlow:=qst d;refine rc (qmq d h) ?_;have hq:d / 146097<=8:=omq;have hr:d % 146097 / 366<=400:=omq;refine runW (ai h1 (ai h2 h3)) ?_;have e0:1600+400*((d / 146097:Nat):Int)+((d % 146097 / 366:Nat):Int)=((1600+(400*(d / 146097)+d % 146097 / 366):Nat):Int):=omq;rw[e0];refine bp ⟨[2,0],[],[],[]⟩ (fun y:Nat=>bgn y<=d) (fun y=>yr d-y) (fun y=>[(2,.v (yi y))]) (400*(d / 146097)+d % 146097 / 366) hlow ?_;intro y hyd;have hyy:=jic hyd;have e1:((1600+y:Nat):Int)+1=((1600+(y+1):Nat):Int):=omq;have hb1:=pd (y+1);refine rcW e1 (jh0 (y+1) omq) ?_;by_cases hlt:bgn (y+1)<=d
 .refine runW e1 ?_;exact round (y+1) hlt (by have:=jic hlt;omega)
 have hyr:yr d=y:=jqm hyd omq;rw[hyr] at hy hms hin hl ⊢;have hb0:=pd y;refine rc (jh0 y omq) ?_;have e2:(d:Int)-((bgn y:Nat):Int)=((d-bgn y:Nat):Int):=omq;refine runW e2 ?_;obtain⟨d0,hd0⟩:∃d0,d-bgn y=d0:=⟨_,rfl⟩;rw[hd0] at hms hin ⊢;refine bp ⟨[0,3,2],[],[],[]⟩ (fun z:Nat×Nat×Nat=>1<=z.2.1/\z.2.1+z.1=13/\z.2.2<sumM l 13-sumM l z.2.1/\monF l z.1 z.2.1 z.2.2=mon l d0) (fun z=>z.1) (fun z=>[(0,.v (vi z.2.2)),(3,.v (vi z.2.1))]) (12,1,d0) ⟨uv _,rfl,by simpa [sumM] using hin,rfl⟩ ?_;rintro⟨k,m,dd⟩ ⟨g1,g2,g3,g4⟩;simp only at g1 g2 g3 g4
 have hk:k≠0:=fun e=>by
  have:m=13:=omq;subst this;omega
 obtain⟨k',rfl⟩:∃k',k=k'+1:=⟨k-1,omq⟩;have hlen:=jgh (T:=T) y m hy g1 omq;rw[hl] at hlen;have h31:=jap l m;have hs13:sumM l 13<=31*13:=jbx l 13;refine rc hlen ?_;by_cases hdd:dd<lenM l m
 .have e3:monF l (k'+1) m dd=(m,dd):=by simp only[monF];rw[um hdd]
  rw[<- g4,e3];have e5:(dd:Int)+1=((dd+1:Nat):Int):=omq;refine runW e5 ?_;exact fin4 rfl
 have e3:monF l (k'+1) m dd=monF l k' (m+1) (dd-lenM l m):=by simp only[monF];rw[ul hdd]
 rw[e3] at g4;have e4:(dd:Int)-((lenM l m:Nat):Int)=((dd-lenM l m:Nat):Int):=omq;exact zbl
theorem qbn(d:Nat)(h:d<=1048575):DateOk (date d).1 (date d).2.1 ((date d).2.2+1):=by
 have hms:=jma (joj d);exact⟨jes h,hms.1,hms.2.1,omq,hms.2.2.1⟩
theorem jv8(d k:Nat):yearsN d k<=1048575:=by
 unfold yearsN;simp only;split
 .exact uv _
 exact Nat.min_le_right _ _
theorem qmy(d k:Nat)(h:d<=1048575)(hk:k<=200):Den prog T 280 [vi d,vi k] (.tup [vi (yearsN d k:Nat),vi 0]):=by
 obtain⟨hn,h1,h2,d1,d2⟩:=qbn d h;have hdv:rk d=.tup [yi (date d).1,vi ((date d).2.1:Nat),vi (((date d).2.2+1:Nat):Int),vi 0]:=rfl;have hD:=jz1 (T:=T) d h;have hy:yearsN d k=if 2870<(date d).1+k then 1048575 else min (bgn ((date d).1+k)+sumM (az ((date d).1+k)) (date d).2.1+min ((date d).2.2+1) (lenM (az ((date d).1+k)) (date d).2.1)-1) 1048575:=rfl
 rw[hdv] at hD;rw[hy];obtain⟨y,ey⟩:∃y,(date d).1=y:=⟨_,rfl⟩;obtain⟨m,em⟩:∃m,(date d).2.1=m:=⟨_,rfl⟩;obtain⟨q,eq⟩:∃q,(date d).2.2=q:=⟨_,rfl⟩;rw[ey,em,eq] at hD;rw[ey] at hn d2;rw[em] at h1 h2 d2;rw[eq] at d1 d2;rw[ey,em,eq];refine ab call280 func280 47 ?_;refine rc hD ?_;have e0:((1600+y:Nat):Int)+(k:Int)=((1600+(y+k):Nat):Int):=omq;by_cases hx:2870<y+k
 .rw[um hx];refine runW e0 ?_;exact fin rfl
 rw[ul hx];have hL:=jgh (T:=T) (y+k) m omq h1 h2;refine rcW e0 hL ?_;have hl28:=qai (l:=az (y+k)) h1 h2;obtain⟨L,eL⟩:∃L,lenM (az (y+k)) m=L:=⟨_,rfl⟩;rw[eL] at hl28 ⊢;have hb:=pd (y+k);have hs:=jbx (az (y+k)) m;by_cases hc:L<q+1
 .have hO:=qct (T:=T) (y+k) m L ⟨omq,h1,h2,omq,by rw[eL];exact uv _⟩;rw[show min (q+1) L=L from Nat.min_eq_right omq];unfold ofV ofN at hO;obtain⟨v,ev⟩:∃v,bgn (y+k)+sumM (az (y+k)) m+L-1=v:=⟨_,rfl⟩;rw[ev] at hO ⊢;have hcc:(L:Int)<(((q+1:Nat)):Int):=omq;refine rcW hcc hO ?_;by_cases hv:1048575<v
  .exact zbe
  exact zbi
 have hO:=qct (T:=T) (y+k) m (q+1) ⟨omq,h1,h2,omq,by rw[eL];omega⟩;rw[show min (q+1) L=q+1 from yh omq];unfold ofV ofN at hO;obtain⟨v,ev⟩:∃v,bgn (y+k)+sumM (az (y+k)) m+(q+1)-1=v:=⟨_,rfl⟩;rw[ev] at hO ⊢;have hcc:¬(L:Int)<(((q+1:Nat)):Int):=omq;refine rcW (un hcc) hO ?_;by_cases hv:1048575<v
 .exact zbe
 exact zbi
theorem qgq(d:Nat)(h:d<=1048575):Den prog T 281 [vi d] (.tup [vi (yearEndN d:Nat),vi 0]):=by
 have hn:=jes h;have hD:=jz1 (T:=T) d h;have hdv:rk d=.tup [yi (yr d),vi ((date d).2.1:Nat),vi (((date d).2.2+1:Nat):Int),vi 0]:=rfl;rw[hdv] at hD;refine ab call281 func281 23 ?_;refine rc hD ?_;have e0:((1600+yr d:Nat):Int)+1=((1600+(yr d+1):Nat):Int):=omq;refine rcW e0 (jh0 (yr d+1) omq) ?_;have hg:=qcw (yr d+1);unfold yearEndN;obtain⟨v,ev⟩:∃v,bgn (yr d+1)=v:=⟨_,rfl⟩;rw[ev] at hg ⊢;have hb:=pd (yr d+1);rw[ev] at hb;by_cases hc:(1048575:Int)<(v:Int)-1
 .refine runW hc ?_;refine fin ?_;rw[Nat.min_eq_right omq];rfl
 refine runW (un hc) ?_;refine fin ?_;rw[yh omq];have:((v-1:Nat):Int)=(v:Int)-1:=omq;rw[this]
theorem jwu(n:Nat):Den prog T 301 [yi n] (vb (az n)):=by
 refine ab call301 func301 16 ?_;have h4:(((1600+n:Nat):Int)).tmod 4=((n % 4:Nat):Int):=jc8 n 4 rfl;have h100:(((1600+n:Nat):Int)).tmod 100=((n % 100:Nat):Int):=jc8 n 100 rfl;have h400:(((1600+n:Nat):Int)).tmod 400=((n % 400:Nat):Int):=jc8 n 400 rfl;have hl:az n=(decide (n % 4=0) && (decide (n % 100≠0) || decide (n % 400=0))):=rfl;by_cases a400:n % 400=0
 .have a100:n % 100=0:=omq;have a4:n % 4=0:=omq;exact zen
 by_cases a4:n % 4=0
 .by_cases a100:n % 100=0
  .refine runW (ai h4 (ai h100 (ai h400 (ai a4 a100)))) ?_;exact zco
  exact zd1
 refine runW (ai h4 (ai h100 h400)) ?_;refine fin (ae ?_);rw[hl];simp[a4,a400]
theorem jka(n:Nat)(hn:n<=4000):Den prog T 349 [yi n] (vi (bgn n)):=by
 refine ab call349 func349 25 ?_;by_cases h0:n=0
 .subst h0;refine runW (jpi 0) ?_;exact fin rfl
 have e1:(n:Int)-1=((n-1:Nat):Int):=omq;have h4:(((n-1:Nat):Int)).tdiv 4=(((n-1) / 4:Nat):Int):=na (n-1) 4;have h100:(((n-1:Nat):Int)).tdiv 100=(((n-1) / 100:Nat):Int):=na (n-1) 100;have h400:(((n-1:Nat):Int)).tdiv 400=(((n-1) / 400:Nat):Int):=na (n-1) 400;have hb:(bgn n:Int)=365*(n:Int)+(((n-1) / 4:Nat):Int)+1-((((n-1) / 100:Nat):Int)+1)+(((n-1) / 400:Nat):Int)+1:=by unfold bgn;omega
 refine runW (ai (jpi n) (ai e1 (ai h4 (ai h100 h400)))) ?_;exact fin (ah hb.symm)
theorem jjb(n m:Nat)(hn:n<=2870)(h1:1<=m)(h2:m<=12):Den prog T 350 [yi n,vi m] (vi (lenM (az n) m)):=by
  refine ab call350 func350 29 ?_;have hm:m=1\/m=2\/m=3\/m=4\/m=5\/m=6\/m=7\/m=8\/m=9\/m=10\/m=11\/m=12:=omq;by_cases e2:m=2
  . subst e2;refine rc (jwu n) ?_;cases hl:az n
    . exact za
    exact za
  have hlen:lenM (az n) m=lenM false m:=by unfold lenM;rw[ul (fun h=>e2 h.1),ul (fun h=>e2 h.1)]
  rw[hlen];rcases hm with rfl|rfl|rfl|rfl|rfl|rfl|rfl|rfl|rfl|rfl|rfl|rfl
  all_goals first
    |exact absurd rfl e2
    | (refine run ?_
       exact fin rfl)
theorem jeh(n m dd:Nat)(h:DateOk n m dd):Den prog T 302 [yi n,vi m,vi dd] (ofV n m dd):=by
 obtain⟨hn,h1,h2,d1,d2⟩:=h;have hb:=pd n;have hl31:=jap (az n) m;refine ab call302 func302 37 ?_;refine rc (jjb n m hn h1 h2) ?_;refine rcW (un (show ¬((lenM (az n) m:Nat):Int)<(dd:Int) by omega)) (jka n omq) ?_
 have e1:((bgn n:Nat):Int)+(dd:Int)-1=((ofN n 1 dd:Nat):Int):=by
  show _=((bgn n+0+dd-1:Nat):Int)
  omega
 refine runW e1 ?_;refine bp ⟨[8,9,0,1],[],[],[]⟩ (fun k:Nat=>1<=k/\k<=m) (fun k=>m-k) (fun k=>[(8,.v (vi ((ofN n k dd:Nat):Int))),(9,.v (vi k))]) 1 ⟨uv _,h1⟩ ?_;rintro k ⟨hk1,hk2⟩;have hs:=jbx (az n) k;have hl:=jap (az n) k;by_cases hlt:k<m
 .refine rc (jjb n k hn hk1 omq) ?_
  have e:((ofN n k dd:Nat):Int)+((lenM (az n) k:Nat):Int)=((ofN n (k+1) dd:Nat):Int):=by
   exact zeo
  have hx:ofN n (k+1) dd<=2000000:=by
   exact zeo
  refine runW e ?_;exact round (k+1) ⟨omq,omq⟩ omq
 have hk:k=m:=omq;subst hk;unfold ofV;by_cases hx:1048575<ofN n k dd
 .rw[um hx];exact za
 rw[ul hx];exact za
theorem jt8(d:Nat)(h:d<=1048575):Den prog T 299 [vi d] (vb true):=by
 refine ab call299 func299 9 ?_;exact za
theorem jx3(d:Nat)(h:d<=1048575):Den prog T 300 [vi d] (rk d):=by
 have hy:=jes h;have hin:=joj d;obtain⟨l,hl⟩:∃l,az (yr d)=l:=⟨_,rfl⟩;rw[hl] at hin;have hms:=jma hin
 have hdate:rk d=.tup [yi (yr d),vi ((mon l (d-bgn (yr d))).1:Nat),vi (((mon l (d-bgn (yr d))).2+1:Nat):Int),vi 0]:=by
  unfold rk date;rw[hl]
 rw[hdate];refine ab call300 func300 41 ?_;have h1:((d:Int)).tdiv 366=((d / 366:Nat):Int):=na d 366
 have hlow:bgn (d / 366)<=d:=by
  have:=pd (d / 366);have:=qw1 d 366;omega
 have hq:d / 366<=3000:=omq;refine rc (jt8 d h) ?_;have e0:1600+((d / 366:Nat):Int)=((1600+d / 366:Nat):Int):=omq;refine runW (ai h1 e0) ?_;refine bp ⟨[6,0],[],[],[]⟩ (fun y:Nat=>bgn y<=d) (fun y=>yr d-y) (fun y=>[(6,.v (yi y))]) (d / 366) hlow ?_;intro y hyd;have hyy:=jic hyd;have e1:((1600+y:Nat):Int)+1=((1600+(y+1):Nat):Int):=omq;have hb1:=pd (y+1);refine rcW e1 (jka (y+1) omq) ?_;by_cases hlt:bgn (y+1)<=d
 .refine runW e1 ?_;exact round (y+1) hlt (by have:=jic hlt;omega)
 have hyr:yr d=y:=jqm hyd omq;rw[hyr] at hy hms hin hl ⊢;have hb0:=pd y;refine rc (jka y omq) ?_;have e2:(d:Int)-((bgn y:Nat):Int)=((d-bgn y:Nat):Int):=omq;refine runW e2 ?_;obtain⟨d0,hd0⟩:∃d0,d-bgn y=d0:=⟨_,rfl⟩;rw[hd0] at hms hin ⊢;refine bp ⟨[0,7,6],[],[],[]⟩ (fun z:Nat×Nat×Nat=>1<=z.2.1/\z.2.1+z.1=13/\z.2.2<sumM l 13-sumM l z.2.1/\monF l z.1 z.2.1 z.2.2=mon l d0) (fun z=>z.1) (fun z=>[(0,.v (vi z.2.2)),(7,.v (vi z.2.1))]) (12,1,d0) ⟨uv _,rfl,by simpa [sumM] using hin,rfl⟩ ?_;rintro⟨k,m,dd⟩ ⟨g1,g2,g3,g4⟩;simp only at g1 g2 g3 g4
 have hk:k≠0:=fun e=>by
  have:m=13:=omq;subst this;omega
 obtain⟨k',rfl⟩:∃k',k=k'+1:=⟨k-1,omq⟩;have hlen:=jjb (T:=T) y m hy g1 omq;rw[hl] at hlen;have h31:=jap l m;have hs13:sumM l 13<=31*13:=jbx l 13;refine rc hlen ?_;by_cases hdd:dd<lenM l m
 .have e3:monF l (k'+1) m dd=(m,dd):=by simp only[monF];rw[um hdd]
  rw[<- g4,e3];have e5:(dd:Int)+1=((dd+1:Nat):Int):=omq;refine runW e5 ?_;exact fin4 rfl
 have e3:monF l (k'+1) m dd=monF l k' (m+1) (dd-lenM l m):=by simp only[monF];rw[ul hdd]
 rw[e3] at g4;have e4:(dd:Int)-((lenM l m:Nat):Int)=((dd-lenM l m:Nat):Int):=omq;exact zbl
theorem qi0{l l':Bool}{m:Nat}(h:m≠2):lenM l m=lenM l' m:=by unfold lenM;rw[ul (fun e=>h e.1),ul (fun e=>h e.1)]
theorem qds(n m:Nat)(hn:2870<n)(hn':n<=4000):Den prog T 350 [yi n,vi m] (vi 0):=by
 refine ab call350 func350 29 ?_;exact za
theorem jfu(n m dd:Nat)(hn:2870<n)(hn':n<=4000)(hd:1<=dd):Den prog T 302 [yi n,vi m,vi dd] (.tup [vi 0,vi 2]):=by
 refine ab call302 func302 37 ?_;refine rc (qds n m hn hn') ?_;exact za
theorem qj6(d k:Nat)(h:d<=1048575)(hk:k<=200):Den prog T 240 [vi d,vi k] (.tup [vi (yearsN d k:Nat),vi 0]):=by
 obtain⟨hn,h1,h2,d1,d2⟩:=qbn d h;have hdv:rk d=.tup [yi (date d).1,vi ((date d).2.1:Nat),vi (((date d).2.2+1:Nat):Int),vi 0]:=rfl;have hD:=jx3 (T:=T) d h;have hy:yearsN d k=if 2870<(date d).1+k then 1048575 else min (bgn ((date d).1+k)+sumM (az ((date d).1+k)) (date d).2.1+min ((date d).2.2+1) (lenM (az ((date d).1+k)) (date d).2.1)-1) 1048575:=rfl
 rw[hdv] at hD;rw[hy];obtain⟨y,ey⟩:∃y,(date d).1=y:=⟨_,rfl⟩;obtain⟨m,em⟩:∃m,(date d).2.1=m:=⟨_,rfl⟩;obtain⟨q,eq⟩:∃q,(date d).2.2=q:=⟨_,rfl⟩;rw[ey,em,eq] at hD;rw[ey] at hn d2;rw[em] at h1 h2 d2;rw[eq] at d1 d2;rw[ey,em,eq];refine ab call240 func240 54 ?_;refine rc (jt8 d h) ?_;refine rc hD ?_;have e0:((1600+y:Nat):Int)+(k:Int)=((1600+(y+k):Nat):Int):=omq;by_cases e2:m=2
 .subst e2;by_cases e29:q+1=29
  .have hq:q=28:=omq;subst hq;refine rcW e0 (jwu (y+k)) ?_;cases hl:az (y+k)
   .by_cases hx:2870<y+k
    .rw[um hx];refine rcW e0 (jfu (y+k) 2 28 hx omq dcq) ?_;exact za
    rw[ul hx];have hO:=jeh (T:=T) (y+k) 2 28 ⟨omq,dcq,dcq,dcq,by rw[hl];decide⟩;rw[show min (28+1) (lenM false 2)=28 from rfl];unfold ofV ofN at hO;rw[hl] at hO;obtain⟨v,ev⟩:∃v,bgn (y+k)+sumM false 2+28-1=v:=⟨_,rfl⟩;rw[ev] at hO ⊢;refine rcW e0 hO ?_;by_cases hv:1048575<v
    .exact zbe
    exact zbi
   by_cases hx:2870<y+k
   .rw[um hx];refine rcW e0 (jfu (y+k) 2 29 hx omq dcq) ?_;exact za
   rw[ul hx];have hO:=jeh (T:=T) (y+k) 2 29 ⟨omq,dcq,dcq,dcq,by rw[hl];decide⟩;rw[show min (28+1) (lenM true 2)=29 from rfl];unfold ofV ofN at hO;rw[hl] at hO;obtain⟨v,ev⟩:∃v,bgn (y+k)+sumM true 2+29-1=v:=⟨_,rfl⟩;rw[ev] at hO ⊢;refine rcW e0 hO ?_;by_cases hv:1048575<v
   .exact zbe
   exact zbi
  have h29:lenM (az y) 2<=29:=by cases az y<;>decide
  have h28:28<=lenM (az (y+k)) 2:=qai dcq dcq;have hne:¬(((q+1:Nat)):Int)=29:=omq;refine runW (ai e0 (un hne)) ?_;by_cases hx:2870<y+k
  .rw[um hx];refine call (jfu (y+k) 2 (q+1) hx omq omq) ?_;exact za
  rw[ul hx,show min (q+1) (lenM (az (y+k)) 2)=q+1 from yh omq];have hO:=jeh (T:=T) (y+k) 2 (q+1) ⟨omq,dcq,dcq,omq,omq⟩;unfold ofV ofN at hO;obtain⟨v,ev⟩:∃v,bgn (y+k)+sumM (az (y+k)) 2+(q+1)-1=v:=⟨_,rfl⟩;rw[ev] at hO ⊢;refine call hO ?_;by_cases hv:1048575<v
  .exact zbe
  exact zbi
 have hlen:lenM (az y) m=lenM (az (y+k)) m:=qi0 e2;have hne:¬((m:Nat):Int)=2:=omq;refine runW (ai e0 (un hne)) ?_;by_cases hx:2870<y+k
 .rw[um hx];refine call (jfu (y+k) m (q+1) hx omq omq) ?_;exact za
 rw[ul hx,show min (q+1) (lenM (az (y+k)) m)=q+1 from yh omq];have hO:=jeh (T:=T) (y+k) m (q+1) ⟨omq,h1,h2,omq,omq⟩;unfold ofV ofN at hO;obtain⟨v,ev⟩:∃v,bgn (y+k)+sumM (az (y+k)) m+(q+1)-1=v:=⟨_,rfl⟩;rw[ev] at hO ⊢;refine call hO ?_;by_cases hv:1048575<v
 .exact zbe
 exact zbi
theorem qfp(d:Nat)(h:d<=1048575):Den prog T 241 [vi d] (.tup [vi (yearEndN d:Nat),vi 0]):=by
 have hn:=jes h;have hD:=jx3 (T:=T) d h;have hdv:rk d=.tup [yi (yr d),vi ((date d).2.1:Nat),vi (((date d).2.2+1:Nat):Int),vi 0]:=rfl;rw[hdv] at hD;refine ab call241 func241 28 ?_;refine rc hD ?_;have hO:=jeh (T:=T) (yr d) 12 31 ⟨hn,dcq,dcq,dcq,by cases az (yr d)<;>decide⟩
 have he:ofN (yr d) 12 31=bgn (yr d+1)-1:=by
  unfold ofN;rw[jho];cases az (yr d)<;>simp<;>decide
 unfold ofV at hO;rw[he] at hO;have hb:=pd (yr d+1);refine rc hO ?_;unfold yearEndN;by_cases hc:1048575<bgn (yr d+1)-1
 .rw[um hc,Nat.min_eq_right omq];exact za
 rw[ul hc,yh omq];exact za
theorem jjr:∀s:Str,(0<=Lib.indexByte s 34)↔fa s=true
 |[]=>by simp[Lib.indexByte,fa]
 |b::r=>by
  have ih:=jjr r;have hg:=Lib.indexByte_ge r 34;have e:Lib.indexByte (b::r) 34=if(b == 34)=true then 0 else if(Lib.indexByte r 34 == -1)=true then -1 else Lib.indexByte r 34+1:=rfl
  have q:fa (b::r)=((b == 34) || fa r):=rfl;rw[e,q];by_cases hb:(b == 34)=true
  .rw[um hb,hb];simp
  have hb':(b == 34)=false:=by simpa using hb
  rw[ul hb,hb',yb,<- ih];by_cases h1:Lib.indexByte r 34= -1
  .rw[um (by simp[h1]),h1]
  rw[ul (by simp[h1])];omega
theorem qht(s:Str):decide (0<=Lib.indexByte s 34)=fa s:=by
 cases h:fa s
 .have:¬ 0<=Lib.indexByte s 34:=fun g=>by rw[(jjr s).1 g] at h;cases h
  exact zdb
 simpa using(jjr s).2 h
theorem jbn(s:Str):Den prog T 179 [.str s,.str [34]] (vb (fa s)):=by
 refine⟨fun args w=>call179 args w,fun w F xs hF hl hx=>?_⟩;obtain⟨x,y,rfl,h1,h2⟩:=jey hx;obtain rfl:=cx h1;obtain rfl:=cx h2;refine(Any.strings_Contains_one Tryz.lays144 ⟨s.toArray⟩ 34 w).mono ?_;rintro e w' ⟨rfl,rfl⟩;refine⟨_,_,rfl,Ext.refl hF,?_⟩;have:=qht s;rw[<- this];exact .val _
theorem juf(f u:Int):Den prog T 313 [span f u] (vb (bm f u)):=by
 refine ab call313 func313 18 ?_;unfold bm;by_cases h1:0<=f<;>by_cases h2:f<u<;>by_cases h3:u<=1048576<;>(refine run ?_;refine fin (ae ?_);simp;try omega)
theorem qjc(r:Rul)(n:Int):Den prog T 270 [.agg r.cs,.row [vi n]] (vb (pq n r)):=by
 refine ab call270 func270 8 ?_;exact za
theorem jla(l:List Rul)(f:FuncId)(cap:List V)(p:Rul->Bool)(hl:l.length<=1048576)(hp:∀e∈l,Den prog T f (.agg e.cs::cap) (vb (p e))):
   Den prog T 269 [ruls l,.func f cap] (vi (ix p l)):=by
  refine ab call269 func269 19 ?_;exact ixPf
theorem qn7(l:List Rul)(n:Int)(hl:l.length<=1048576):Den prog T 197 [ruls l,vi n] (vi (jcr l n)):=by
 refine ab call197 func197 8 ?_;refine rc (jla l _ _ (pq n) hl fun r _=>qjc r n) ?_;exact za
theorem qfu(l:List Rul)(n:Int)(hl:l.length<=1048576):Den prog T 158 [ruls l,vi n] (vi (jcr l n)):=by
 refine ab call158 func158 20 ?_;refine run ?_;refine aj ⟨[5,0,1],[],[],[]⟩ l.length (fun k=>∀o∈l.take k,pq n o=false) smq ?_;rintro k ⟨hk,hall⟩;by_cases hlt:k<l.length
 .obtain⟨x,hx,-,-⟩:=ac hlt;by_cases hxn:x.id=n
  .refine runW hx ?_;exact fin (ah (nv (p:=pq n) hall hx (by simp[pq,hxn])))
  refine runW hx ?_;exact round (k+1) ⟨omq,an (q:=fun o:Rul=>pq n o=false) hall hx (by simp[pq,hxn])⟩ omq
 refine run ?_;exact fin (ah (ov (p:=pq n) hall hlt))
theorem jg{l:List Rul}{r:Rul}(hi:l[i]?=some r)(hb:badR r):jh l i=2:=by simp only[jh,hi];rw[um hb]
theorem jml{l:List Rul}{r:Rul}(hi:l[i]?=some r)(hb:¬badR r):jh l i=if mf l i r=true then 5 else ie r:=by simp only[jh,hi];rw[ul hb]
theorem db(r:Rul):badR r↔(idB r.id=false\/r.yrs<0\/200<r.yrs\/r.act<1\/3<r.act\/bm r.frm r.til=false):=Iff.rfl
theorem qrq(l:List Rul)(r:Rul):mf l 0 r=false:=by unfold mf;rw[um rfl]
theorem qa1{l:List Rul}{r q:Rul}(h0:i≠0)(hq:l[i-1]?=some q):mf l i r=decide (r.id<=q.id):=by unfold mf;rw[ul h0,hq]
theorem jj3{l:List Rul}(hi:i<l.length)(r:Rul):(mf l i r=true/\∃q,i≠0/\l[i-1]?=some q/\r.id<=q.id)\/(mf l i r=false/\(i=0\/∃q,i≠0/\l[i-1]?=some q/\¬r.id<=q.id)):=by
 by_cases h0:i=0
 .right;rw[h0];exact⟨qrq l r,.inl rfl⟩
 obtain⟨q,hq,-,-⟩:=ac (l:=l) (k:=i-1) omq;by_cases hle:r.id<=q.id
 .left;exact⟨by rw[qa1 h0 hq];simp[hle],q,h0,hq,hle⟩
 right;exact⟨by rw[qa1 h0 hq];simp[hle],.inr ⟨q,h0,hq,hle⟩⟩
inductive RestR (r:Rul):Prop
 |p3 (h:ak r.cls=none) (e:ie r=3)
 |n4 (l:List Nat) (h:ak r.cls=some l) (hn:name r.trg=false) (e:ie r=4)
 |q4 (l:List Nat) (h:ak r.cls=some l) (hn:name r.trg=true) (hq:fa r.trg=true) (e:ie r=4)
 |k1 (l:List Nat) (h:ak r.cls=some l) (hn:name r.trg=true) (hq:fa r.trg=false) (ha:r.act=3) (ho:(r.trg == ot)=false) (e:ie r=1)
 |y1 (l:List Nat) (h:ak r.cls=some l) (hn:name r.trg=true) (hq:fa r.trg=false) (ha:r.act=3) (ho:(r.trg == ot)=true) (hy:r.yrs≠0) (e:ie r=1)
 |e1 (l:List Nat) (h:ak r.cls=some l) (hn:name r.trg=true) (hq:fa r.trg=false) (ha:r.act=3) (ho:(r.trg == ot)=true) (hy:r.yrs=0) (he:r.yend=true) (e:ie r=1)
 |k0 (l:List Nat) (h:ak r.cls=some l) (hn:name r.trg=true) (hq:fa r.trg=false) (ha:r.act=3) (ho:(r.trg == ot)=true) (hy:r.yrs=0) (he:r.yend=false) (e:ie r=0)
 |z0 (l:List Nat) (h:ak r.cls=some l) (hn:name r.trg=true) (hq:fa r.trg=false) (ha:r.act≠3) (e:ie r=0)
theorem jtw(r:Rul):RestR r:=by
 cases hp:ak r.cls with
 |none=>exact .p3 hp (by unfold ie;rw[hp];rfl)
 |some l=>
  have e0:ie r=if name r.trg=false\/fa r.trg=true then 4 else if r.act=3/\(r.trg≠ot\/r.yrs≠0\/r.yend=true) then 1 else 0:=by unfold ie;rw[hp];rfl
  cases hn:name r.trg with
  |false=>exact .n4 l hp hn (by rw[e0,um (.inl hn)])
  |true=>
   cases hq:fa r.trg with
   |true=>exact .q4 l hp hn hq (by rw[e0,um (.inr hq)])
   |false=>
    have e1:ie r=if r.act=3/\(r.trg≠ot\/r.yrs≠0\/r.yend=true) then 1 else 0:=by rw[e0,ul (by simp[hn,hq])]
    by_cases ha:r.act=3
    .cases ho:r.trg == ot with
     |false=>exact .k1 l hp hn hq ha ho (by rw[e1,um ⟨ha,.inl (by simpa using ho)⟩])
     |true=>
      have ho':r.trg=ot:=by simpa using ho
      by_cases hy:r.yrs=0
      .cases he:r.yend with
       |true=>exact .e1 l hp hn hq ha ho hy he (by rw[e1,um ⟨ha,.inr (.inr he)⟩])
       |false=>exact .k0 l hp hn hq ha ho hy he (by rw[e1,ul (by simp[ho',hy,he])])
      exact .y1 l hp hn hq ha ho hy (by rw[e1,um ⟨ha,.inr (.inl hy)⟩])
    exact .z0 l hp hn hq ha (by rw[e1,ul (by simp[ha])])
theorem qgo(L:LibC T)(l:List Rul)(i:Nat)(hl:rn l)(hi:i<l.length):Den prog T 251 [ruls l,vi i] (vi (jh l i)):=by
 obtain⟨hl0,hf⟩:=hl;obtain⟨r,hr,-,hm⟩:=ac hi;obtain⟨hf1,hf2⟩:=hf r hm;refine ab call251 func251 98 ?_;refine rcW hr (te L r.cls hf1) ?_;cases hp:ak r.cls with
 |none=>
  rw[gv hp];by_cases a1:r.id<1
  .exact zbs
  by_cases a2:1073741824<r.id
  .exact zbs
  by_cases b1:r.yrs<0
  .rw[jg hr ((db r).2 (.inr (.inl b1)))];exact za
  by_cases b2:200<r.yrs
  .rw[jg hr ((db r).2 (.inr (.inr (.inl b2))))];exact za
  by_cases b3:r.act<1
  .rw[jg hr ((db r).2 (.inr (.inr (.inr (.inl b3)))))];exact za
  by_cases b4:3<r.act
  .rw[jg hr ((db r).2 (.inr (.inr (.inr (.inr (.inl b4))))))];exact za
  refine rc (juf r.frm r.til) ?_;cases b5:bm r.frm r.til
  .rw[jg hr ((db r).2 (.inr (.inr (.inr (.inr (.inr b5))))))];exact za
  rw[jml hr fun hb=>by
   rcases (db r).1 hb with h|h|h|h|h|h
   .simp[idB] at h;omega
   .exact b1 h
   .exact b2 h
   .exact b3 h
   .exact b4 h
   rw[b5] at h;cases h]
  rcases jj3 hi r with⟨hpv,q,h0,hq,hle⟩|⟨hpv,h0|⟨q,h0,hq,hle⟩⟩
  .exact zbr
  all_goals
   rw[ul zex];rw[show ie r=3 by unfold ie;rw[hp];rfl]
   first
    |(subst h0;refine run ?_)
    |refine runW hq ?_
   exact fin rfl
 |some pl=>
  rw[gu hp];by_cases a1:r.id<1
  .exact zbs
  by_cases a2:1073741824<r.id
  .exact zbs
  by_cases b1:r.yrs<0
  .rw[jg hr ((db r).2 (.inr (.inl b1)))];exact za
  by_cases b2:200<r.yrs
  .rw[jg hr ((db r).2 (.inr (.inr (.inl b2))))];exact za
  by_cases b3:r.act<1
  .rw[jg hr ((db r).2 (.inr (.inr (.inr (.inl b3)))))];exact za
  by_cases b4:3<r.act
  .rw[jg hr ((db r).2 (.inr (.inr (.inr (.inr (.inl b4))))))];exact za
  refine rc (juf r.frm r.til) ?_;cases b5:bm r.frm r.til
  .rw[jg hr ((db r).2 (.inr (.inr (.inr (.inr (.inr b5))))))];exact za
  rw[jml hr fun hb=>by
   rcases (db r).1 hb with h|h|h|h|h|h
   .simp[idB] at h;omega
   .exact b1 h
   .exact b2 h
   .exact b3 h
   .exact b4 h
   rw[b5] at h;cases h]
  rcases jj3 hi r with⟨hpv,q,h0,hq,hle⟩|⟨hpv,h0|⟨q,h0,hq,hle⟩⟩
  .exact zbr
  all_goals
   rw[ul zex]
   first
    |(subst h0;refine run ?_)
    |refine runW hq ?_
   refine call (jah L r.trg hf2) ?_;rcases jtw r with⟨h,e⟩|⟨_,h,hn,e⟩|⟨_,h,hn,hq',e⟩|⟨_,h,hn,hq',ha,ho,e⟩|⟨_,h,hn,hq',ha,ho,hy,e⟩|⟨_,h,hn,hq',ha,ho,hy,he,e⟩|⟨_,h,hn,hq',ha,ho,hy,he,e⟩|⟨_,h,hn,hq',ha,e⟩
   .rw[hp] at h;cases h
   .rw[e,hn];exact za
   .rw[e,hn];refine rc (jbn r.trg) ?_;rw[hq'];exact za
   .rw[e,hn];refine rc (jbn r.trg) ?_;rw[hq'];exact zdk
   .rw[e,hn];refine rc (jbn r.trg) ?_;rw[hq'];exact zdn
   .rw[e,hn];refine rc (jbn r.trg) ?_;rw[hq'];exact zo
   .rw[e,hn];refine rc (jbn r.trg) ?_;rw[hq'];exact zo
   rw[e,hn];refine rc (jbn r.trg) ?_;rw[hq'];exact za
theorem jup(L:LibC T)(l:List Rul)(hl:rn l):Den prog T 171 [ruls l] (chkV (fh l)):=by
 have hl0:=hl.1;refine ab call171 func171 22 ?_;by_cases h16:64<l.length
 .refine run ?_;refine fin ?_;simp only[chkV,fh,jn h16]
 refine run ?_;refine aj ⟨[11,0,10],[],[],[]⟩ l.length (fun k=>∀i,i<k->jh l i=0) omq ?_;rintro k ⟨hk,hall⟩;by_cases hlt:k<l.length
 .refine rc (qgo L l k hl hlt) ?_;by_cases hz:jh l k=0
  .refine run ?_;refine round (k+1) ⟨omq,fun i hi=>?_⟩ omq;by_cases e:i=k
   .exact zc6
   exact zb3
  refine run ?_;refine fin ?_;simp only[chkV,fh,kf h16 hlt hall hz]
 refine run ?_;refine fin ?_;simp only[chkV,fh,ir h16 fun i hi=>hall i omq]
theorem u8_34{b:UInt8}(h:b.toNat=34):b=34:=qvo.1 h
theorem qg9(b:UInt8)(r:Str):fa (b::r)=((b == 34) || fa r):=rfl
theorem qgh(s:Str)(hl:s.length<=1048576):Den prog T 295 [.str s] (vb (fa s)):=by
 refine ab call295 func295 14 ?_;refine run ?_;refine aj ⟨[3,0],[],[],[]⟩ s.length (fun k=>fa s=fa (s.drop k)) smq ?_;rintro k ⟨hk,hall⟩;by_cases hlt:k<s.length
 .obtain⟨x,hx,hd,-⟩:=ac hlt;rw[hd,qg9] at hall;by_cases h1:x.toNat=34
  .refine runW hx ?_;refine fin (ae ?_);rw[hall,u8_34 h1];rfl
  refine runW hx ?_;refine round (k+1) ⟨omq,?_⟩ omq
  have:(x == 34)=false:=by
   cases h:x == 34
   .rfl
   have:=eq_of_beq h;rw[this] at h1;exact absurd rfl h1
  rw[hall,this,yb]
 refine run ?_;refine fin (ae ?_);rw[hall,qvb omq];rfl
theorem qgl(r:Rul):Den prog T 225 [.agg r.cs] (vi (if badR r then 2 else 0)):=by
 refine ab call225 func225 37 ?_;by_cases a1:r.id<1
 .rw[um ((db r).2 (.inl (by simp[idB];omega)))];exact za
 by_cases a2:1073741824<r.id
 .rw[um ((db r).2 (.inl (by simp[idB];omega)))];exact za
 by_cases b1:r.yrs<0
 .rw[um ((db r).2 (.inr (.inl b1)))];exact za
 by_cases b2:200<r.yrs
 .rw[um ((db r).2 (.inr (.inr (.inl b2))))];exact za
 by_cases b3:r.act<1
 .rw[um ((db r).2 (.inr (.inr (.inr (.inl b3)))))];exact za
 by_cases b4:3<r.act
 .rw[um ((db r).2 (.inr (.inr (.inr (.inr (.inl b4))))))];exact za
 refine rc (jdf r.frm r.til) ?_;cases b5:bm r.frm r.til
 .rw[um ((db r).2 (.inr (.inr (.inr (.inr (.inr b5))))))];exact za
 rw[ul fun hb=>by
  rcases (db r).1 hb with h|h|h|h|h|h
  .simp[idB] at h;omega
  .exact b1 h
  .exact b2 h
  .exact b3 h
  .exact b4 h
  rw[b5] at h;cases h]
 exact za
theorem qid(r:Rul)(hf:r.Fit):Den prog T 226 [.agg r.cs] (vi (ie r)):=by
 obtain⟨hf1,hf2⟩:=hf;refine ab call226 func226 33 ?_;refine rc (jjc r.cls hf1) ?_;rcases jtw r with⟨h,e⟩|⟨_,h,hn,e⟩|⟨_,h,hn,hq',e⟩|⟨_,h,hn,hq',ha,ho,e⟩|⟨_,h,hn,hq',ha,ho,hy,e⟩|⟨_,h,hn,hq',ha,ho,hy,he,e⟩|⟨_,h,hn,hq',ha,ho,hy,he,e⟩|⟨_,h,hn,hq',ha,e⟩
 .rw[e,h];exact za
 all_goals
  rw[h,e];refine rc (sv r.trg hf2) ?_;rw[hn]
 .exact za
 all_goals
  refine rc (qgh r.trg hf2) ?_;rw[hq']
 .exact za
 .exact zdk
 .exact zdn
 .exact zo
 .exact zo
 exact za
theorem jru(l:List Rul)(hl:rn l):Den prog T 147 [ruls l] (chkV (fh l)):=by
 have hl0:=hl.1;refine ab call147 func147 51 ?_;by_cases h16:64<l.length
 .refine run ?_;refine fin ?_;simp only[chkV,fh,jn h16]
 refine run ?_;refine aj ⟨[4,0],[],[],[]⟩ l.length (fun k=>∀i,i<k->jh l i=0) omq ?_;rintro k ⟨hk,hall⟩;by_cases hlt:k<l.length
 .obtain⟨h,hh,-,hm⟩:=ac hlt;have hff:=hl.2 h hm
  have out:∀e:Int,jh l k=e->e≠0->chkV (fh l)=.tup [vi k,vi e]:=fun e he hne=>by
   rw[fh,kf h16 hlt hall zfo,he]
  have nxt:jh l k=0->∀i,i<k+1->jh l i=0:=fun hz i hi=>by
   by_cases e:i=k
   .exact zc6
   exact zb3
  refine rcW hh (qgl h) ?_;by_cases hb:badR h
  .rw[um hb,out 2 (jg hh hb) dcq];exact za
  rw[ul hb];have hr:=jml hh hb;rcases jj3 hlt h with⟨hpv,q,h0,hq,hle⟩|⟨hpv,h0|⟨q,h0,hq,hle⟩⟩
  .exact zef
  all_goals
   rw[ul zex] at hr
   first
    |refine runW (ai hh hq) ?_
    |refine runW hh ?_
   refine call (qid h hff) ?_;rw[<- hr];by_cases hz:jh l k=0
   .first
     |(refine run ?_;exact round (k+1) ⟨omq,nxt hz⟩ omq)
   rw[out _ rfl hz];exact za
 refine run ?_;refine fin ?_;simp only[chkV,fh,ir h16 fun i hi=>hall i omq]
theorem qft(l:List Rul)(hl:rn l):Den prog T 238 [ruls l] (vb (goodR l)):=by
 refine ab call238 func238 12 ?_;refine rc (jru l hl) ?_;refine run ?_;exact fin (ae rfl)
theorem jws(s:Str):bf s<=6:=by
 unfold bf;cases h:ak s with
 |none=>exact uq _
 |some l=>
  unfold ak at h;split at h
  .split at h
   .cases h;assumption
   cases h
  cases h
theorem jk4{l:List Nat}(h:ak s=some l):l.length=bf s:=by unfold bf;rw[h]
theorem jk5(h:ak s=none):bf s=0:=by unfold bf;rw[h]
theorem qph{f d:Int}(h:d<f):inS f u d=false:=by unfold inS;simp;omega
theorem qpg{f d:Int}(h:u<=d):inS f u d=false:=by unfold inS;simp;omega
theorem qtz{f d:Int}(h:f<=d)(h':d<u):inS f u d=true:=by unfold inS;simp[h,h']
theorem qnc(L:LibC T)(l:List Rul)(s:Str)(d:Int)(hl:rn l)(hs:s.length<=1048576):DenO prog T 196 [ruls l,.str s,vi d] 3 (ints (dp l s d)):=by
 have hl0:=hl.1;refine lf call196 func196 61 ?_;refine run ?_
 refine loop ⟨[1,2,7,8,13,14,15],[],[8],[(8,3,1)]⟩ (fun y:Nat×Nat×List Int=>y.1<=l.length/\y.2.1=ba (l.take y.1) s d/\y.2.2=dp (l.take y.1) s d/\y.2.2.length<=y.1/\y.2.1<=6) (fun y=>l.length-y.1)
  (fun y=>⟨61,[(1,.v (.str s)),(2,.v (vi d)),(7,.v (vi y.2.1)),(8,.v (ints y.2.2)),(13,.v (ruls l)),(14,.v (vi l.length)),(15,.v (vi y.1))],[],[(3,[8])]⟩) (0,0,[]) ⟨uq _,rfl,rfl,uv _,dcq⟩ ?_
 rintro⟨k,m,out⟩ ⟨hk,hmost,hout,hol,hm⟩;simp only at hk hmost hout hol hm;subst hmost hout;by_cases hlt:k<l.length
 .obtain⟨x,hx,-,hxm⟩:=ac hlt;have hts:=sx hx;have hfx:=hl.2 x hxm;have hdl:=jws x.cls;by_cases a1:d<x.frm
  .have ha:appB s d x=false:=by unfold appB;rw[qph a1];rfl
   refine runW hx ?_;refine round (k+1,ba (l.take k) s d,dp (l.take k) s d) ⟨by simp only;omega,by simp only;rw[hts,sz ha],by simp only;rw[hts,jnj ha],by simp only;omega,hm⟩ zev
  by_cases a2:x.til<=d
  .have ha:appB s d x=false:=by unfold appB;rw[qpg a2];rfl
   refine runW hx ?_;refine round (k+1,ba (l.take k) s d,dp (l.take k) s d) ⟨by simp only;omega,by simp only;rw[hts,sz ha],by simp only;rw[hts,jnj ha],by simp only;omega,hm⟩ zev
  refine rcW hx (jkb L s x.cls hs hfx.1) ?_;cases hw:bx s x.cls
  .have ha:appB s d x=false:=by unfold appB;rw[hw,xm]
   refine run ?_;refine round (k+1,ba (l.take k) s d,dp (l.take k) s d) ⟨by simp only;omega,by simp only;rw[hts,sz ha],by simp only;rw[hts,jnj ha],by simp only;omega,hm⟩ zev
  have ha:appB s d x=true:=by unfold appB;rw[hw,qtz omq omq];rfl
  refine rc (te L x.cls hfx.1) ?_;cases hp:ak x.cls with
  |none=>
   have hd0:=jk5 hp;rw[gv hp];have hzz:(0:Int)=((bf x.cls:Nat):Int):=omq;rcases qww (ba (l.take k) s d) (bf x.cls) with g|g|g
   .refine runW (ai hzz (uo (show ((ba (l.take k) s d:Nat):Int)<((bf x.cls:Nat):Int) by omega))) ?_;refine round (k+1,bf x.cls,[x.id]) ⟨by simp only;omega,by simp only;rw[hts,mr ha,Nat.max_eq_right omq],by simp only;rw[hts,jzk ha g],by simp only[List.length_cons,List.length_nil];omega,hdl⟩ zev
   .have hap:(dp (l.take k) s d).map Cint++[[V.val (.int .i64 x.id)]]=(dp (l.take k) s d++[x.id]).map Cint:=by simp
    refine runW (ai hzz (ai (un (show ¬((ba (l.take k) s d:Nat):Int)<((bf x.cls:Nat):Int) by omega)) (ai (show ((bf x.cls:Nat):Int)=((ba (l.take k) s d:Nat):Int) by omega) hap))) ?_;refine round (k+1,ba (l.take k) s d,dp (l.take k) s d++[x.id]) ⟨by simp only;omega,by simp only;rw[hts,mr ha,qw8 omq],by simp only;rw[hts,jzl ha g.symm],by simp only[ve,List.length_cons,List.length_nil];omega,hm⟩ zev
   refine runW (ai hzz (ai (un (show ¬((ba (l.take k) s d:Nat):Int)<((bf x.cls:Nat):Int) by omega)) (un (show ¬((bf x.cls:Nat):Int)=((ba (l.take k) s d:Nat):Int) by omega)))) ?_;refine round (k+1,ba (l.take k) s d,dp (l.take k) s d) ⟨by simp only;omega,by simp only;rw[hts,mr ha,qw8 omq],by simp only;rw[hts,jzj ha g],by simp only;omega,hm⟩ zev
  |some pl=>
   have hd0:=jk4 hp;rw[gu hp];rcases qww (ba (l.take k) s d) (bf x.cls) with g|g|g
   .refine runW (ai hd0 (uo (show ((ba (l.take k) s d:Nat):Int)<((bf x.cls:Nat):Int) by omega))) ?_;refine round (k+1,bf x.cls,[x.id]) ⟨by simp only;omega,by simp only;rw[hts,mr ha,Nat.max_eq_right omq],by simp only;rw[hts,jzk ha g],by simp only[List.length_cons,List.length_nil];omega,hdl⟩ zev
   .have hap:(dp (l.take k) s d).map Cint++[[V.val (.int .i64 x.id)]]=(dp (l.take k) s d++[x.id]).map Cint:=by simp
    refine runW (ai hd0 (ai (un (show ¬((ba (l.take k) s d:Nat):Int)<((bf x.cls:Nat):Int) by omega)) (ai (show ((bf x.cls:Nat):Int)=((ba (l.take k) s d:Nat):Int) by omega) hap))) ?_;refine round (k+1,ba (l.take k) s d,dp (l.take k) s d++[x.id]) ⟨by simp only;omega,by simp only;rw[hts,mr ha,qw8 omq],by simp only;rw[hts,jzl ha g.symm],by simp only[ve,List.length_cons,List.length_nil];omega,hm⟩ zev
   refine runW (ai hd0 (ai (un (show ¬((ba (l.take k) s d:Nat):Int)<((bf x.cls:Nat):Int) by omega)) (un (show ¬((bf x.cls:Nat):Int)=((ba (l.take k) s d:Nat):Int) by omega)))) ?_;refine round (k+1,ba (l.take k) s d,dp (l.take k) s d) ⟨by simp only;omega,by simp only;rw[hts,mr ha,qw8 omq],by simp only;rw[hts,jzj ha g],by simp only;omega,hm⟩ zev
 have hkl:k=l.length:=omq;subst hkl;rw[vk];exact zq
theorem qdb{r:Rul}(h:r.Fit):rn [r]:=⟨smq,fun x hx=>by simp at hx;subst hx;exact h⟩
theorem qco{r:Rul}(h:goodR [r]=true):0<=r.yrs/\r.yrs<=200:=by
 have h0:(fh [r]).2=0:=by simpa [goodR] using h
 have h1:=(om h0).2 0 smq;have hb:¬badR r:=fun hb=>by rw[jg (l:=[r]) (i:=0) rfl hb] at h1;cases h1
 refine⟨?_,?_⟩
 .rcases Int.lt_or_le r.yrs 0 with g|g
  .exact absurd ((db r).2 (.inr (.inl g))) hb
  exact g
 rcases Int.lt_or_le 200 r.yrs with g|g
 .exact absurd ((db r).2 (.inr (.inr (.inl g)))) hb
 exact g
theorem jgi(a b:Int):datB a b=dz a b:=by
 unfold datB dz;by_cases h1:0<=a<;>by_cases h2:a<=b<;>by_cases h3:b<=1048575<;>simp[h1,h2,h3]
theorem ji9{r:Rul}(h:¬(goodR [r]=true/\datB a b=true)):dueV r a b=.tup [vi 0,vi 1]:=by unfold dueV dueR;rw[ul h]
theorem qcr{r:Rul}(h:goodR [r]=true/\datB a b=true):dueV r a b=.tup [vi ((if r.yend=true then yearEndN (yearsN b.toNat r.yrs.toNat) else yearsN b.toNat r.yrs.toNat:Nat):Int),vi 0]:=by unfold dueV dueR;rw[um h]
theorem qso(L:LibC T)(r:Rul)(a b:Int)(hf:r.Fit):Den prog T 199 [.agg r.cs,datg a b] (dueV r a b):=by
 refine ab call199 func199 39 ?_;refine rc (jup L [r] (qdb hf)) ?_;by_cases g1:(fh [r]).2=0
 .have hg:goodR [r]=true:=by simp[goodR,g1]
  obtain⟨y1,y2⟩:=qco hg;refine rc (js5 a b) ?_;cases hd:dz a b
  .rw[ji9 (by rw[jgi,hd];simp)];exact za
  rw[qcr ⟨hg,by rw[jgi,hd]⟩];have hdd:0<=a/\a<=b/\b<=1048575:=by simpa [dz] using hd
  have hY:=qmy (T:=T) b.toNat r.yrs.toNat omq omq;have eb:((b.toNat:Nat):Int)=b:=omq;have ey:((r.yrs.toNat:Nat):Int)=r.yrs:=omq;rw[eb,ey] at hY;refine rc hY ?_;have hY2:=jv8 b.toNat r.yrs.toNat;obtain⟨v,ev⟩:∃v,yearsN b.toNat r.yrs.toNat=v:=⟨_,rfl⟩;rw[ev] at hY2 ⊢;cases he:r.yend
  .refine runW he ?_;exact fin rfl
  refine rcW he (qgq v hY2) ?_;exact za
 have hg:goodR [r]=false:=by simp[goodR,g1]
 rw[ji9 (by rw[hg];simp)];exact za
theorem qjd(r:Rul)(a b:Int)(hf:r.Fit):Den prog T 160 [.agg r.cs,datg a b] (dueV r a b):=by
 refine ab call160 func160 33 ?_;refine rc (qft [r] (qdb hf)) ?_;cases hg:goodR [r]
 .rw[ji9 (by rw[hg];simp)];exact za
 obtain⟨y1,y2⟩:=qco hg;refine rc (jt0 a b) ?_;cases hd:dz a b
 .rw[ji9 (by rw[jgi,hd];simp)];exact za
 rw[qcr ⟨hg,by rw[jgi,hd]⟩];have hdd:0<=a/\a<=b/\b<=1048575:=by simpa [dz] using hd
 have hY:=qj6 (T:=T) b.toNat r.yrs.toNat omq omq;have eb:((b.toNat:Nat):Int)=b:=omq;have ey:((r.yrs.toNat:Nat):Int)=r.yrs:=omq;rw[eb,ey] at hY;refine rc hY ?_;have hY2:=jv8 b.toNat r.yrs.toNat;obtain⟨v,ev⟩:∃v,yearsN b.toNat r.yrs.toNat=v:=⟨_,rfl⟩;rw[ev] at hY2 ⊢;cases he:r.yend
 .refine runW he ?_;exact fin rfl
 refine rcW he (qfp v hY2) ?_;exact za
def jw(r:Rul):Bool:= !(decide (100<r.cls.length) || decide (100<r.trg.length))
def fewR(l:List Rul):Bool:= !((decide (12<l.length) && decide (l.length<=64)) || decide (69<l.length)) && l.all jw
theorem jxj{l:List Rul}{k:Nat}{x:Rul}(h:l[k]?=some x)(p:Rul->Bool):(l.take (k+1)).all p=((l.take k).all p && p x):=by
 rw[sx h,List.all_append];simp
theorem qqb(l:List Rul)(hl:rn l):Den prog T 62 [ruls l] (vb (fewR l)):=by
 have hl0:=hl.1;refine ab call62 func62 39 ?_;by_cases h1:12<l.length
 .by_cases h2:l.length<=64
  .have hf:fewR l=false:=by unfold fewR;simp[h1,h2]
   rw[hf];exact za
  by_cases h3:69<l.length
  .have hf:fewR l=false:=by unfold fewR;simp[h3]
   rw[hf];exact za
  have hf:fewR l=l.all jw:=by unfold fewR;simp[h1,h2,h3]
  rw[hf];refine run ?_;refine aj ⟨[3,0],[],[],[]⟩ l.length (fun k=>(l.take k).all jw=true) rfl ?_;rintro k ⟨hk,hall⟩;by_cases hlt:k<l.length
  .obtain⟨x,hx,-,hm⟩:=ac hlt;obtain⟨f1,f2⟩:=hl.2 x hm;by_cases c1:100<x.cls.length
   .have hb:l.all jw=false:=by rw[List.all_eq_false];exact⟨x,hm,by simp[jw,c1]⟩
    rw[hb];exact zf
   by_cases c2:100<x.trg.length
   .have hb:l.all jw=false:=by rw[List.all_eq_false];exact⟨x,hm,by simp[jw,c2]⟩
    rw[hb];exact zf
   exact zd2
  have hkl:k=l.length:=omq;rw[hkl,vk] at hall;rw[hall];exact za
 have hf:fewR l=l.all jw:=by
  have h3:¬ 69<l.length:=omq;unfold fewR;simp[h1,h3]
 rw[hf];refine run ?_;refine aj ⟨[3,0],[],[],[]⟩ l.length (fun k=>(l.take k).all jw=true) rfl ?_;rintro k ⟨hk,hall⟩;by_cases hlt:k<l.length
 .obtain⟨x,hx,-,hm⟩:=ac hlt;obtain⟨f1,f2⟩:=hl.2 x hm;by_cases c1:100<x.cls.length
  .have hb:l.all jw=false:=by rw[List.all_eq_false];exact⟨x,hm,by simp[jw,c1]⟩
   rw[hb];exact zf
  by_cases c2:100<x.trg.length
  .have hb:l.all jw=false:=by rw[List.all_eq_false];exact⟨x,hm,by simp[jw,c2]⟩
   rw[hb];exact zf
  exact zd2
 have hkl:k=l.length:=omq;rw[hkl,vk] at hall;rw[hall];exact za
theorem qfy(l:List Rul)(s:Str)(d:Int)(hl:rn l)(hs:s.length<=1048576):DenO prog T 157 [ruls l,.str s,vi d] 3 (ints (dp l s d)):=by
 have hl0:=hl.1;refine lf call157 func157 97 ?_;refine run ?_;refine bp ⟨[7,8,0,1,2],[],[],[]⟩ (fun y:Nat×Nat=>y.1<=l.length/\y.2=ba (l.take y.1) s d/\y.2<=6) (fun y=>l.length-y.1) (fun y=>[(7,.v (vi y.2)),(8,.v (vi y.1))]) (0,0) ⟨uq _,rfl,dcq⟩ ?_;rintro⟨k,m⟩ ⟨hk,hmost,hm⟩;simp only at hk hmost hm;subst hmost;by_cases hlt:k<l.length
 .obtain⟨x,hx,-,hxm⟩:=ac hlt;have hts:=sx hx;have hfx:=hl.2 x hxm;have hdl:=jws x.cls;refine rcW hx (qb x.cls hfx.1) ?_;cases hp:ak x.cls with
  |none=>
   have hd0:=jk5 hp;have hzz:(0:Int)=((bf x.cls:Nat):Int):=omq;rw[gv hp];refine rcW hx (rz x.frm x.til d) ?_;cases hi:inS x.frm x.til d
   .have ha:appB s d x=false:=by unfold appB;rw[hi];rfl
    exact zh
   refine rcW hx (jcw s x.cls hs hfx.1) ?_;cases hw:bx s x.cls
   .have ha:appB s d x=false:=by unfold appB;rw[hw,xm]
    exact zh
   have ha:appB s d x=true:=by unfold appB;rw[hw,hi];rfl
   by_cases g:ba (l.take k) s d<bf x.cls
   .exact absurd g omq
   refine runW (un (show ¬((0:Int) > ((ba (l.take k) s d:Nat):Int)) by omega)) ?_;exact zcb
  |some pl=>
   have hd0:=jk4 hp;rw[gu hp];refine rcW hx (rz x.frm x.til d) ?_;cases hi:inS x.frm x.til d
   .have ha:appB s d x=false:=by unfold appB;rw[hi];rfl
    exact zh
   refine rcW hx (jcw s x.cls hs hfx.1) ?_;cases hw:bx s x.cls
   .have ha:appB s d x=false:=by unfold appB;rw[hw,xm]
    exact zh
   have ha:appB s d x=true:=by unfold appB;rw[hw,hi];rfl
   by_cases g:ba (l.take k) s d<bf x.cls
   .refine runW (ai hd0 (uo (show (((bf x.cls:Nat):Int) > ((ba (l.take k) s d:Nat):Int)) by omega))) ?_;exact round (k+1,bf x.cls) ⟨by simp only;omega,by simp only;rw[hts,mr ha,Nat.max_eq_right omq],hdl⟩ zev
   refine runW (ai hd0 (un (show ¬(((bf x.cls:Nat):Int) > ((ba (l.take k) s d:Nat):Int)) by omega))) ?_;exact zcb
 have hkl:k=l.length:=omq;subst hkl;rw[vk] at hm ⊢;rw[sw];obtain⟨M,hM⟩:∃M,ba l s d=M:=⟨_,rfl⟩;rw[hM] at hm ⊢;refine run ?_
 refine loop ⟨[0,1,2,7,11,12],[],[11],[(11,3,1)]⟩ (fun y:Nat×List Int=>y.1<=l.length/\y.2=gm (l.take y.1) s d M/\y.2.length<=y.1) (fun y=>l.length-y.1)
  (fun y=>⟨97,[(0,.v (ruls l)),(1,.v (.str s)),(2,.v (vi d)),(7,.v (vi M)),(11,.v (ints y.2)),(12,.v (vi y.1))],[],[(3,[11])]⟩) (0,[]) ⟨uq _,rfl,uv _⟩ ?_
 rintro⟨k,out⟩ ⟨hk,hout,hol⟩;simp only at hk hout hol;subst hout;by_cases hlt:k<l.length
 .obtain⟨x,hx,-,hxm⟩:=ac hlt;have hts:=sx hx;have hfx:=hl.2 x hxm;refine rcW hx (qb x.cls hfx.1) ?_;cases hp:ak x.cls with
  |none=>
   have hd0:=jk5 hp;have hzz:(0:Int)=((bf x.cls:Nat):Int):=omq;rw[gv hp];refine rcW hx (rz x.frm x.til d) ?_;cases hi:inS x.frm x.til d
   .have ha:appB s d x=false:=by unfold appB;rw[hi];rfl
    exact zc
   refine rcW hx (jcw s x.cls hs hfx.1) ?_;cases hw:bx s x.cls
   .have ha:appB s d x=false:=by unfold appB;rw[hw,xm]
    exact zc
   have ha:appB s d x=true:=by unfold appB;rw[hw,hi];rfl
   by_cases g:bf x.cls=M
   .have hap:(gm (l.take k) s d M).map Cint++[[V.val (.int .i64 x.id)]]=(gm (l.take k) s d M++[x.id]).map Cint:=by simp
    refine runW (ai hx (ai (uo (show (0:Int)=(M:Int) by omega)) hap)) ?_;exact z7
   refine runW (ai hx (un (show ¬(0:Int)=(M:Int) by omega))) ?_;exact zbn
  |some pl=>
   have hd0:=jk4 hp;rw[gu hp];refine rcW hx (rz x.frm x.til d) ?_;cases hi:inS x.frm x.til d
   .have ha:appB s d x=false:=by unfold appB;rw[hi];rfl
    exact zc
   refine rcW hx (jcw s x.cls hs hfx.1) ?_;cases hw:bx s x.cls
   .have ha:appB s d x=false:=by unfold appB;rw[hw,xm]
    exact zc
   have ha:appB s d x=true:=by unfold appB;rw[hw,hi];rfl
   by_cases g:bf x.cls=M
   .have hap:(gm (l.take k) s d M).map Cint++[[V.val (.int .i64 x.id)]]=(gm (l.take k) s d M++[x.id]).map Cint:=by simp
    refine runW (ai hx (ai hd0 (ai (uo (show ((bf x.cls:Nat):Int)=(M:Int) by omega)) hap))) ?_;exact z7
   refine runW (ai hx (ai hd0 (un (show ¬((bf x.cls:Nat):Int)=(M:Int) by omega)))) ?_;exact zbn
 have hkl:k=l.length:=omq;subst hkl;rw[vk];exact zq
structure Lok where
 r:Rgs
 f:Fil
 d:Int
 rls:List Rul
 due:Int
 by':Int
abbrev Lok.cs(x:Lok):List V:=[ofcs x.r.ofs,ay x.r.pls,fils x.r.fls,ruls x.r.rls,hlds x.r.hls,clks x.r.cks,sels x.r.sls,prps x.r.pps,apvs x.r.aps,crts x.r.crs,deps x.r.dps,vi x.r.chg,
 vi x.f.id,vi x.f.ofc,vi x.f.opn,vi x.f.cld,.str x.f.cls,.str x.f.title,vi x.f.pts,ntss x.f.nts,vi x.d,ruls x.rls,vi x.due,vi x.by']
theorem qmf(q:Rul):Den prog T 211 [.agg q.cs] (vb (gl q)):=by
 refine ab call211 func211 6 ?_;exact za
theorem qe8(q:Rul):Den prog T 217 [.agg q.cs] (vb (dx q)):=by
 refine ab call217 func217 6 ?_;exact za
theorem qr9(l:List Int)(x:Int):(l.any fun y=>decide (x=y))=l.any fun n=>decide (n=x):=by
 congr 1
 funext y
 by_cases h:x=y
 .subst h;rfl
 rw[ux h,ux (fun e=>h e.symm)]
theorem jj8(x:Lok)(day:Int)(l:List Int)(hl:l.length<=1048576):Den prog T 283 [.agg x.cs,vi day,ints l] (vb (ib x.d x.f day l)):=by
 refine ab call283 func283 18 ?_;unfold ib;by_cases h:day<=x.d
 .refine rc (jge l x.f.id hl) ?_;rw[qr9];refine run ?_;exact z5
 refine run ?_;exact z5
theorem qmm(l:List Crt)(f:FuncId)(cap:List V)(p:Crt->Bool)(hl:l.length<=1048576)(hp:∀e∈l,Den prog T f (.agg e.cs::cap) (vb (p e))):
   Den prog T 193 [crts l,.func f cap] (vi (ix p l)):=by
  refine ab call193 func193 19 ?_;exact ixPf
theorem jun(l:List Crt)(f:FuncId)(cap:List V)(p:Crt->Bool)(hl:l.length<=1048576)(hp:∀e∈l,Den prog T f (.agg e.cs::cap) (vb (p e))):
   Den prog T 135 [crts l,.func f cap] (vb (l.any p)):=by
  refine ab call135 func135 9 ?_;refine rc (qmm l f cap p hl hp) ?_;exact zbv
theorem qml(l:List Dep)(f:FuncId)(cap:List V)(p:Dep->Bool)(hl:l.length<=1048576)(hp:∀e∈l,Den prog T f (.agg e.cs::cap) (vb (p e))):
   Den prog T 66 [deps l,.func f cap] (vi (ix p l)):=by
  refine ab call66 func66 19 ?_;exact ixPf
theorem jum(l:List Dep)(f:FuncId)(cap:List V)(p:Dep->Bool)(hl:l.length<=1048576)(hp:∀e∈l,Den prog T f (.agg e.cs::cap) (vb (p e))):
   Den prog T 20 [deps l,.func f cap] (vb (l.any p)):=by
  refine ab call20 func20 9 ?_;refine rc (qml l f cap p hl hp) ?_;exact zbv
theorem qmg(l:List Sel)(f:FuncId)(cap:List V)(p:Sel->Bool)(hl:l.length<=1048576)(hp:∀e∈l,Den prog T f (.agg e.cs::cap) (vb (p e))):
   Den prog T 345 [sels l,.func f cap] (vi (ix p l)):=by
  refine ab call345 func345 19 ?_;exact ixPf
theorem qj2(l:List Sel)(f:FuncId)(cap:List V)(p:Sel->Bool)(hl:l.length<=1048576)(hp:∀e∈l,Den prog T f (.agg e.cs::cap) (vb (p e))):
   Den prog T 286 [sels l,.func f cap] (vb (l.any p)):=by
  refine ab call286 func286 9 ?_;refine rc (qmg l f cap p hl hp) ?_;exact zbv
theorem qdy(x:Lok)(c:Crt)(hc:c.fls.length<=1048576):Den prog T 282 [.agg c.cs,.row x.cs] (vb (ib x.d x.f c.day c.fls)):=by
 refine ab call282 func282 10 ?_;refine rc (jj8 x c.day c.fls hc) ?_;exact za
theorem qil(x:Lok)(c:Dep):Den prog T 284 [.agg c.cs,.row x.cs] (vb (ib x.d x.f c.day [c.fil])):=by
 refine ab call284 func284 11 ?_;refine rc (jj8 x c.day [c.fil] smq) ?_;exact za
theorem qea(x:Lok)(c:Sel)(hc:c.fls.length<=1048576):Den prog T 287 [.agg c.cs,.row x.cs] (vb (ib x.d x.f c.day c.fls)):=by
 refine ab call287 func287 10 ?_;refine rc (jj8 x c.day c.fls hc) ?_;exact za
theorem qdx(x:Lok)(h:x.r.Fit):Den prog T 209 [.agg x.cs] (vb (gone1 x.r x.f x.d)):=by
 refine ab call209 func209 8 ?_;refine rc (jun x.r.crs _ _ (fun c=>ib x.d x.f c.day c.fls) h.crs.1 fun c hc=>qdy x c (h.crs.2 c hc).1) ?_;exact za
theorem qik(x:Lok)(h:x.r.Fit):Den prog T 210 [.agg x.cs] (vb (gone2 x.r x.f x.d)):=by
 refine ab call210 func210 8 ?_;refine rc (jum x.r.dps _ _ (fun c=>ib x.d x.f c.day [c.fil]) h.dps fun c _=>qil x c) ?_;exact za
theorem qe9(x:Lok)(h:x.r.Fit):Den prog T 218 [.agg x.cs] (vb (selB x.r x.f x.d)):=by
 refine ab call218 func218 8 ?_;refine rc (qj2 x.r.sls _ _ (fun s=>ib x.d x.f s.day s.fls) h.sls.1 fun c hc=>qea x c (h.sls.2 c hc)) ?_;exact za
theorem jzp{l m:List V}(h:Wks l m)(ho:(m.all fun v=>v.one)=true):Wk (.agg l) (.agg m):=.agg h.len (fun c hc=>vj.1 ho c hc) fun j v u e1 e2=>by
 obtain⟨v',h1,h2⟩:=h.get e2;rw[e1] at h1;cases h1;exact h2
def jaz(r:Rgs)(f:Fil)(d:Int):Lok:=⟨r,f,d,ao r f d,(bw f d (ao r f d) (-1,0)).1,(bw f d (ao r f d) (-1,0)).2⟩
abbrev lokZ:List V:=[.val (.slice none 0 0),.val (.slice none 0 0),.val (.slice none 0 0),.val (.slice none 0 0),.val (.slice none 0 0),.val (.slice none 0 0),.val (.slice none 0 0),.val (.slice none 0 0),.val (.slice none 0 0),.val (.slice none 0 0),.val (.slice none 0 0),vi 0,
 vi 0,vi 0,vi 0,vi 0,.str [],.str [],vi 0,.val (.slice none 0 0),vi 0,.val (.slice none 0 0),vi 0,vi 0]
theorem qol(f:Fil)(d:Int)(x:Int×Int)(q:Rul)(h:trig f q.trg d=some (a,b)):
  (dueR q a b=none/\me f d x q=x)\/∃t,dueR q a b=some t/\((x.1<t/\me f d x q=(t,q.id))\/(¬x.1<t/\me f d x q=x)):=by
 have hd:=jys h;cases hr:dueR q a b with
 |none=>exact .inl ⟨rfl,jtp (hd.trans hr)⟩
 |some t=>
  refine .inr ⟨t,rfl,?_⟩;by_cases hx:x.1<t
  .exact .inl ⟨hx,jdw (hd.trans hr) hx⟩
  exact .inr ⟨hx,jls (hd.trans hr) hx⟩
abbrev gr73:List Gent:=gd 14 [[0,0,0],[1,2,0],[5,4,0],[21,6,0],[85,1,2,3,0,5,1],[93,1,3,5,4],[117,1,1,3,3,7,4],[87,3,1,5,0],[119,3,3,7,5],[95,5,2,0,0,0],[125,1,1,7,2],[245,1,2,3,1],[127,7,2,0,0,0],[253,8,2],[247,3,0,0,0,0],[255,8,2],[509,1,1,9,0],[1021,1,1,10,2],[511,9,0,0,0,0],[1023,10,1,0,0,0],[2045,1,0,0,0,0],[2047,11,0,0,0,0],[4095,12,0],[8191,13,0,0,0,0],[16383]]
theorem qgi(L:LibC T)(r:Rgs)(f:Fil)(d:Int)(hr:r.Fit)(hf:f.Fit)(hg:goodR r.rls=true):Den prog T 142 [.agg r.cs,.agg f.cs,vi d] (.agg (jaz r f d).cs):=by
 have hl0:=hr.rls.1;have hcl:=jgk hr.pls hf d;refine ab call142 func142 95 ?_;refine rc (jx4 L r.pls f d hr.pls hf) ?_;by_cases hz:(bu r.pls f d).2=0
 .refine runW hz ?_;refine uh (qnc L r.rls (bu r.pls f d).1 d hr.rls hcl) ?_;rw[jtu hz];have hlen:=jd9 r f d;have hmem:∀q∈ao r f d,q∈r.rls:=fun q h=>jg3 h;unfold jaz;obtain⟨rs,hrs⟩:∃rs,ao r f d=rs:=⟨_,rfl⟩;rw[hrs] at hlen hmem ⊢;refine run ?_
  refine loop ⟨[2,3,4,6,7,37,38,39],[3,4,6,7],[8000000021],[(8000000021,107,8)]⟩ (fun k:Nat=>k<=rs.length) (fun k=>rs.length-k)
   (fun k=>⟨95,[(2,.v (vi d)),(3,.p 3 0),(4,.p 4 0),(6,.p 6 0),(7,.p 7 0),(37,.v (.slice 1 (List.map Cint (List.map (fun x=>x.id) rs)))),(38,.v (vi rs.length)),(39,.v (vi k))],
    [(3,.var r.cs),(4,.var f.cs),(6,.var lokZ),(7,.var (Lok.cs ⟨r,f,d,rs.take k,-1,0⟩))],[(107,[8000000021])]⟩) 0 (uq _) ?_
  intro k hk;by_cases hlt:k<rs.length
  .obtain⟨x,hx,-,hm⟩:=ac hlt;obtain⟨i,hi,hxi,hfi⟩:=jwd hg (hmem x hm);have hts:(rs.take k).map Rul.cs++[x.cs]=(rs.take (k+1)).map Rul.cs:=by rw[sx hx];simp
   refine runD hx ?_;refine bt gr73 ?_
   refine il (fun _:Unit=>True) ⟨[2,3,4,6,7,37,38,39],[3,4,6,7],[8000000021],[]⟩ (fun _=>⟨95,[(2,.v (vi d)),(3,.p 3 0),(4,.p 4 0),(6,.p 6 0),(7,.p 7 0),(37,.v (.slice 1 (List.map Cint (List.map (fun x=>x.id) rs)))),(38,.v (vi rs.length)),(39,.v (vi k))],
    [(3,.var r.cs),(4,.var f.cs),(6,.var lokZ),(7,.var (Lok.cs ⟨r,f,d,rs.take (k+1),-1,0⟩))],[(107,[8000000021])]⟩) (fun st st' hk h=>ci _ hk h) (fun _ _=>?_) (fun K' hK=>?_)
   .exact zc0
   refine am hx ?_
   try simp only[vd]
   repeat' (with_reducible refine ai ?_ ?_)
   all_goals
    refine call (qn7 r.rls x.id hl0) ?_;rw[hfi];refine am (ai hxi hts) ?_
    try simp only[vf,vd,uz]
    repeat' (with_reducible refine ai ?_ ?_)
    all_goals exact gk hK () trivial
  have hkl:k=rs.length:=omq;subst hkl;rw[vk];refine run ?_
  refine loop ⟨[2,4,6,7,58,59,60],[4,6,7],[],[]⟩ (fun k:Nat=>k<=rs.length) (fun k=>rs.length-k)
   (fun k=>⟨95,[(2,.v (vi d)),(4,.p 4 0),(6,.p 6 0),(7,.p 7 0),(58,.v (ruls rs)),(59,.v (vi rs.length)),(60,.v (vi k))],
    [(4,.var f.cs),(6,.var lokZ),(7,.var (Lok.cs ⟨r,f,d,rs,(bw f d (rs.take k) (-1,0)).1,(bw f d (rs.take k) (-1,0)).2⟩))],[]⟩) 0 (uq _) ?_
  intro k hk;by_cases hlt:k<rs.length
  .obtain⟨x,hx,-,hm⟩:=ac hlt;have hfx:=hr.rls.2 x (hmem x hm);have hsn:=jk0 f d (-1,0) hx;obtain⟨y,hy⟩:∃y,bw f d (rs.take k) (-1,0)=y:=⟨_,rfl⟩;rw[hy] at hsn ⊢;have hS:∀z,me f d y x=z->(bw f d (rs.take (k+1)) (-1,0))=z:=fun z hz=>by rw[hsn,hz]
   refine rcW hx (jt5 f x.trg d hf) ?_;cases ht:trig f x.trg d with
   |none=>
    rw[jk,ht];have hS':=hS y (jtp (qsi ht));refine runW hx ?_;exact zcw
   |some t=>
    obtain⟨a,b⟩:=t;rw[jk,ht];refine rcW hx (qso L x a b hfx) ?_;rcases qol f d y x ht with⟨h1,h2⟩|⟨t,h1,⟨h2,h3⟩|⟨h2,h3⟩⟩
    .have hS':=hS y h2;rw[dueV,h1];refine runW hx ?_;exact zcw
    .have hS':=hS _ h3;rw[dueV,h1];refine runD (ai hx (uo h2)) ?_;refine jc7 (.one 0 (.one 1 (.one 3 (.alt 2 (.alt 4 (.one 5 (.alt 6 .done .nil)) .nil) (.alt 4 (.alt 2 (.one 5 (.alt 6 .done .nil)) .nil) .nil))))) ?_;refine jby hx ?_;refine run ?_;exact zcw
    have hS':=hS y h3;rw[dueV,h1];refine runW (ai hx (un h2)) ?_;exact zcw
  have hkl:k=rs.length:=omq;subst hkl;rw[vk];exact za
 rw[jaz,jtv hz];refine runW hz ?_;refine finW (jzp ?_ rfl)
 repeat (first|exact .nil|refine .cons (.refl _) ?_|refine .cons (.nil _) ?_)
theorem qj3(l:List Rul)(f:FuncId)(cap:List V)(p:Rul->Bool)(hl:l.length<=1048576)(hp:∀e∈l,Den prog T f (.agg e.cs::cap) (vb (p e))):
   Den prog T 216 [ruls l,.func f cap] (vb (l.any p)):=by
  refine ab call216 func216 9 ?_;refine rc (jla l f cap p hl hp) ?_;exact zbv
def firR(o:Option Rul):Int:=match o with|some q=>q.id|none=>0
theorem qmr(x:Lok)(h:FuncId)(cap:List V)(p:Rul->Bool)(hl:x.rls.length<=1048576)(hp:∀q∈x.rls,Den prog T h (.agg q.cs::cap) (vb (p q))):
  Den prog T 204 [.agg x.cs,.func h cap] (.tup [vi (firR (x.rls.find? p)),vb (x.rls.find? p).isSome]):=by
 refine ab call204 func204 19 ?_;refine rc (jla x.rls h cap p hl hp) ?_;rcases ly p x.rls with⟨h1,h2⟩|⟨k,q,h1,hk,h3,-,h2⟩
 .rw[h1,h2];exact za
 rw[h1,h2];refine runW h3 ?_;exact fin rfl
abbrev pvV(b:Nat):V:=.val (.pointer (some ⟨b,0,none⟩))
theorem je6(k:Int)(is:Bool)(b:Nat):Den prog T 200 [vi k,vb is,pvV b] (.func 201 [.row [vi k],pvV b,.row [vb is]]):=by
 refine ab call200 func200 7 ?_;exact za
theorem jwt(x:Lok)(k:Int)(h:FuncId)(cap:List V)(b:Nat):Den prog T 202 [vi k,.func h cap,.row x.cs,pvV b] (.func 203 [.row x.cs,.row [.func h cap],.row [vi k],pvV b]):=by
 refine ab call202 func202 8 ?_;exact za
theorem qly(x:Lok)(q:Rul)(hf:x.f.Fit):Den prog T 205 [.agg q.cs,.row x.cs] (vb (ct x.f x.d q)):=by
 refine ab call205 func205 18 ?_;refine rc (jt5 x.f q.trg x.d hf) ?_;unfold ct;cases h:trig x.f q.trg x.d with
 |none=>
  rw[jk,h];exact za
 |some t=>
  rw[jk,h];exact za
theorem jgx(x:Lok)(k:Int)(h:FuncId)(cap:List V)(b:Nat):Den prog T 206 [vi k,.func h cap,.row x.cs,pvV b] (.func 207 [.row [vi k],.row x.cs,pvV b,.row [.func h cap]]):=by
 refine ab call206 func206 8 ?_;exact za
abbrev vcs(k f d r u:Int)(h:V):List V:=[vi k,vi f,vi d,vi r,vi u,h]
abbrev vBlk(k f d r u:Int)(h:V)(b:Nat):List (Nat×Blk):=[(999000,.var (vcs k f d r u h) (some b))]
theorem jds(k k0 f d r u:Int)(h:V)(is:Bool)(b:Nat):DenS prog T 201 (vBlk k0 f d r u h b) [] [.v (.row [vi k]),.p 999000 0,.v (.row [vb is])] (vBlk k f d r u h b) [] (.v (vb is)):=by
 refine lc follows (fun args w=>call201 args w) func201 rfl 7 rfl rfl ?_;refine run ?_;exact zcr
theorem jug(x:Lok)(g:FuncId)(cap:List V)(p:Rul->Bool)(hl:x.rls.length<=1048576)(hp:∀q∈x.rls,Den prog T g (.agg q.cs::cap) (vb (p q)))(k k0 f d r u:Int)(h:V)(b:Nat):
  DenS prog T 203 (vBlk k0 f d r u h b) [] [.v (.row x.cs),.v (.row [.func g cap]),.v (.row [vi k]),.p 999000 0] (vBlk k f d (firR (x.rls.find? p)) u h b) [] (.v (vb (x.rls.find? p).isSome)):=by
 refine lc follows (fun args w=>call203 args w) func203 rfl 18 rfl rfl ?_;refine rc (qmr x g cap p hl hp) ?_;refine run ?_;exact zcr
theorem jk6(x:Lok)(g:FuncId)(cap:List V)(is:Bool)(hp:Den prog T g cap (vb is))(k k0 f d r u:Int)(h:V)(b:Nat):
  DenS prog T 207 (vBlk k0 f d r u h b) [] [.v (.row [vi k]),.v (.row x.cs),.p 999000 0,.v (.row [.func g cap])] (vBlk k f d x.by' x.due h b) [] (.v (vb is)):=by
 refine lc follows (fun args w=>call207 args w) func207 rfl 15 rfl rfl ?_;refine runD trivial ?_;refine jc7 ((.one 1 (.one 3 (.alt 0 (.one 5 (.alt 2 (.alt 4 (.alt 6 (.one 7 (.alt 8 (.one 9 (.alt 10 .done .nil)) .nil)) .nil) (.alt 6 (.one 7 (.alt 4 (.alt 8 (.one 9 (.alt 10 .done .nil)) .nil) (.alt 8 (.alt 4 (.one 9 (.alt 10 .done .nil)) .nil) .nil))) .nil)) (.alt 4 (.alt 2 (.alt 6 (.one 7 (.alt 8 (.one 9 (.alt 10 .done .nil)) .nil)) .nil) (.alt 6 (.alt 2 (.one 7 (.alt 8 (.one 9 (.alt 10 .done .nil)) .nil)) .nil) .nil)) (.alt 6 (.alt 2 (.one 7 (.alt 4 (.alt 8 (.one 9 (.alt 10 .done .nil)) .nil) (.alt 8 (.alt 4 (.one 9 (.alt 10 .done .nil)) .nil) .nil))) (.alt 4 (.alt 2 (.one 7 (.alt 8 (.one 9 (.alt 10 .done .nil)) .nil)) .nil) .nil)) .nil)))) (.alt 2 (.alt 0 (.one 5 (.alt 4 (.alt 6 (.one 7 (.alt 8 (.one 9 (.alt 10 .done .nil)) .nil)) .nil) (.alt 6 (.one 7 (.alt 4 (.alt 8 (.one 9 (.alt 10 .done .nil)) .nil) (.alt 8 (.alt 4 (.one 9 (.alt 10 .done .nil)) .nil) .nil))) .nil))) (.alt 4 (.alt 0 (.one 5 (.alt 6 (.one 7 (.alt 8 (.one 9 (.alt 10 .done .nil)) .nil)) .nil)) .nil) .nil)) (.alt 4 (.alt 0 (.one 5 (.alt 2 (.alt 6 (.one 7 (.alt 8 (.one 9 (.alt 10 .done .nil)) .nil)) .nil) (.alt 6 (.alt 2 (.one 7 (.alt 8 (.one 9 (.alt 10 .done .nil)) .nil)) .nil) .nil))) (.alt 2 (.alt 0 (.one 5 (.alt 6 (.one 7 (.alt 8 (.one 9 (.alt 10 .done .nil)) .nil)) .nil)) .nil) .nil)) .nil)))))) ?_;refine jby trivial ?_;refine rc hp ?_;refine run ?_;exact zcr
theorem qq0(x:Lok):Den prog T 212 [.row x.cs] (vb (decide (x.d<=x.due))):=by
 refine ab call212 func212 7 ?_;exact za
theorem qma(x:Lok)(hr:x.r.Fit)(hl:x.rls.length<=1048576):Den prog T 215 [.row x.cs] (vb (x.rls.any dx || selB x.r x.f x.d)):=by
 refine ab call215 func215 9 ?_;refine rc (qj3 x.rls _ [] dx hl fun q _=>qe8 q) ?_;cases h:x.rls.any dx
 .refine rc (qe9 x hr) ?_;exact za
 exact za
theorem qsj:Den prog T 219 [] (vb true):=by
 refine ab call219 func219 1 ?_;exact za
theorem qq1(L:LibC T)(x:Lok)(hr:x.r.Fit)(hf:x.f.Fit)(k f d r u:Int)(h:V)(b:Nat):
  DenS prog T 213 (vBlk k f d r u h b) [] [.v (.row x.cs),.p 999000 0] (vBlk k f d r u (ints (cg x.r.ofs x.r.pls x.r.hls x.f x.d)) b) [] (.v (vb (decide (cg x.r.ofs x.r.pls x.r.hls x.f x.d≠[])))):=by
 refine lc follows (fun args w=>call213 args w) func213 rfl 22 rfl rfl ?_;refine rc (qgs L x.r.ofs x.r.pls x.r.hls x.f x.d hr.ofs hr.pls hr.hls hf).den ?_;refine run ?_;refine pt (.v (.of (ae ?_)));cases cg x.r.ofs x.r.pls x.r.hls x.f x.d with
 |nil=>rfl
 |cons a l=>simp
theorem qib(L:LibC T)(x:Lok)(hr:x.r.Fit)(hf:x.f.Fit)(k k0 f d r u:Int)(h:V)(b:Nat):
  DenS prog T 207 (vBlk k0 f d r u h b) [] [.v (.row [vi k]),.v (.row x.cs),.p 999000 0,.v (.row [.func 213 [.row x.cs,pvV b]])] (vBlk k f d x.by' x.due (ints (cg x.r.ofs x.r.pls x.r.hls x.f x.d)) b) [] (.v (vb (decide (cg x.r.ofs x.r.pls x.r.hls x.f x.d≠[])))):=by
 refine lc follows (fun args w=>call207 args w) func207 rfl 15 rfl rfl ?_;refine runD trivial ?_;refine jc7 ((.one 1 (.one 3 (.alt 0 (.one 5 (.alt 2 (.alt 4 (.alt 6 (.one 7 (.alt 8 (.one 9 (.alt 10 .done .nil)) .nil)) .nil) (.alt 6 (.one 7 (.alt 4 (.alt 8 (.one 9 (.alt 10 .done .nil)) .nil) (.alt 8 (.alt 4 (.one 9 (.alt 10 .done .nil)) .nil) .nil))) .nil)) (.alt 4 (.alt 2 (.alt 6 (.one 7 (.alt 8 (.one 9 (.alt 10 .done .nil)) .nil)) .nil) (.alt 6 (.alt 2 (.one 7 (.alt 8 (.one 9 (.alt 10 .done .nil)) .nil)) .nil) .nil)) (.alt 6 (.alt 2 (.one 7 (.alt 4 (.alt 8 (.one 9 (.alt 10 .done .nil)) .nil) (.alt 8 (.alt 4 (.one 9 (.alt 10 .done .nil)) .nil) .nil))) (.alt 4 (.alt 2 (.one 7 (.alt 8 (.one 9 (.alt 10 .done .nil)) .nil)) .nil) .nil)) .nil)))) (.alt 2 (.alt 0 (.one 5 (.alt 4 (.alt 6 (.one 7 (.alt 8 (.one 9 (.alt 10 .done .nil)) .nil)) .nil) (.alt 6 (.one 7 (.alt 4 (.alt 8 (.one 9 (.alt 10 .done .nil)) .nil) (.alt 8 (.alt 4 (.one 9 (.alt 10 .done .nil)) .nil) .nil))) .nil))) (.alt 4 (.alt 0 (.one 5 (.alt 6 (.one 7 (.alt 8 (.one 9 (.alt 10 .done .nil)) .nil)) .nil)) .nil) .nil)) (.alt 4 (.alt 0 (.one 5 (.alt 2 (.alt 6 (.one 7 (.alt 8 (.one 9 (.alt 10 .done .nil)) .nil)) .nil) (.alt 6 (.alt 2 (.one 7 (.alt 8 (.one 9 (.alt 10 .done .nil)) .nil)) .nil) .nil))) (.alt 2 (.alt 0 (.one 5 (.alt 6 (.one 7 (.alt 8 (.one 9 (.alt 10 .done .nil)) .nil)) .nil)) .nil) .nil)) .nil)))))) ?_;refine jby trivial ?_;refine run ?_;refine mo (rl [(999000,999000)] (qq1 L x hr hf k f d x.by' x.due h b) (.cons (.v _) (.cons (.pn rfl rfl) .nil)) ?_ ?_)
 .exact zi
 refine run ?_;exact zcr
def vdtB(f d:Int)(b0 b1 b2 b3 b4 b5 b6 b7 b8 b9:Bool)(r5 r6 y u:Int)(hs:List Int):Vdt:=
 if b0=true then ⟨0,f,d,0,0,[]⟩ else if b1=true then ⟨1,f,d,0,0,[]⟩ else if b2=true then ⟨2,f,d,0,0,[]⟩ else if b3=true then ⟨0,f,d,0,0,[]⟩ else if b4=true then ⟨3,f,d,0,0,[]⟩ else
 if b5=true then ⟨4,f,d,r5,0,[]⟩ else if b6=true then ⟨5,f,d,r6,0,[]⟩ else if b7=true then ⟨6,f,d,y,u,[]⟩ else if b8=true then ⟨7,f,d,y,u,hs⟩ else if b9=true then ⟨9,f,d,y,u,[]⟩ else ⟨8,f,d,y,u,[]⟩
def vdtL(x:Lok):Vdt:=vdtB x.f.id x.d (decide (state x.f x.d=0)) (gone1 x.r x.f x.d) (gone2 x.r x.f x.d) (decide ((x.rls.length:Int)=0)) (decide (state x.f x.d=1)) (x.rls.find? gl).isSome (x.rls.find? (ct x.f x.d)).isSome (decide (x.d<=x.due))
 (decide (cg x.r.ofs x.r.pls x.r.hls x.f x.d≠[])) (x.rls.any dx || selB x.r x.f x.d) (firR (x.rls.find? gl)) (firR (x.rls.find? (ct x.f x.d))) x.by' x.due (cg x.r.ofs x.r.pls x.r.hls x.f x.d)
theorem vdt_L(r:Rgs)(f:Fil)(d:Int):vdtL (jaz r f d)=vdt r f d:=by
 have e:∀l:List Rul,decide ((l.length:Int)=0)=decide (l=[]):=fun l=>by cases l<;>simp;omega
 unfold vdtL vdt vdtB jaz;simp only[e,vr,qvt];split
 .rfl
 split
 .rfl
 split
 .rfl
 split
 .rfl
 split
 .rfl
 cases (ao r f d).find? gl with
 |some q=>rfl
 |none=>
  cases (ao r f d).find? (ct f d) with
  |some q=>rfl
  |none=>rfl
theorem ee(k f d r u:Int):Wk (.agg (vcs k f d r u (.val (.slice none 0 0)))) (.agg (Vdt.cs ⟨k,f,d,r,u,[]⟩)):=by
 refine .agg rfl (fun c hc=>?_) fun j v w hv hw=>?_
 .simp only[vg,xz,ya] at hc;rcases hc with rfl|rfl|rfl|rfl|rfl|rfl<;>rfl
 rcases j with _|_|_|_|_|_|j
 .exact zb6
 .exact zb6
 .exact zb6
 .exact zb6
 .exact zb6
 .simp at hv hw;subst hv hw;exact .nil 1
 simp at hv
def qd4(x:Lok)(b:Nat)(b0 b1 b2 b3 b4:Bool):List (List V):=[[.func 201 [.row [vi 0],pvV b,.row [vb b0]]],
 [.func 201 [.row [vi 1],pvV b,.row [vb b1]]],
 [.func 201 [.row [vi 2],pvV b,.row [vb b2]]],
 [.func 201 [.row [vi 0],pvV b,.row [vb b3]]],
 [.func 201 [.row [vi 3],pvV b,.row [vb b4]]],
 [.func 203 [.row x.cs,.row [.func 211 []],.row [vi 4],pvV b]],
 [.func 203 [.row x.cs,.row [.func 205 [.row x.cs]],.row [vi 5],pvV b]],
 [.func 207 [.row [vi 6],.row x.cs,pvV b,.row [.func 212 [.row x.cs]]]],
 [.func 207 [.row [vi 7],.row x.cs,pvV b,.row [.func 213 [.row x.cs,pvV b]]]],
 [.func 207 [.row [vi 9],.row x.cs,pvV b,.row [.func 215 [.row x.cs]]]],
 [.func 207 [.row [vi 8],.row x.cs,pvV b,.row [.func 219 []]]]]
def bAt(b0 b1 b2 b3 b4 b5 b6 b7 b8 b9:Bool):Nat->Bool
 |0=>b0
 |1=>b1
 |2=>b2
 |3=>b3
 |4=>b4
 |5=>b5
 |6=>b6
 |7=>b7
 |8=>b8
 |9=>b9
 |_=>true
def vAt(f d r5 r6 y u:Int)(hs:List Int):Nat->List V
 |0=>vcs 0 f d 0 0 (.val (.slice none 0 0))
 |1=>vcs 0 f d 0 0 (.val (.slice none 0 0))
 |2=>vcs 1 f d 0 0 (.val (.slice none 0 0))
 |3=>vcs 2 f d 0 0 (.val (.slice none 0 0))
 |4=>vcs 0 f d 0 0 (.val (.slice none 0 0))
 |5=>vcs 3 f d 0 0 (.val (.slice none 0 0))
 |6=>vcs 4 f d r5 0 (.val (.slice none 0 0))
 |7=>vcs 5 f d r6 0 (.val (.slice none 0 0))
 |8=>vcs 6 f d y u (.val (.slice none 0 0))
 |9=>vcs 7 f d y u (ints hs)
 |10=>vcs 9 f d y u (ints hs)
 |_=>vcs 8 f d y u (ints hs)
theorem qrg(f d r5 r6 y u:Int)(hs:List Int):∀k,∃k1 k2 k3 k4 k5 k6,vAt f d r5 r6 y u hs k=[k1,k2,k3,k4,k5,k6]
 |0=>⟨_,_,_,_,_,_,rfl⟩
 |1=>⟨_,_,_,_,_,_,rfl⟩
 |2=>⟨_,_,_,_,_,_,rfl⟩
 |3=>⟨_,_,_,_,_,_,rfl⟩
 |4=>⟨_,_,_,_,_,_,rfl⟩
 |5=>⟨_,_,_,_,_,_,rfl⟩
 |6=>⟨_,_,_,_,_,_,rfl⟩
 |7=>⟨_,_,_,_,_,_,rfl⟩
 |8=>⟨_,_,_,_,_,_,rfl⟩
 |9=>⟨_,_,_,_,_,_,rfl⟩
 |10=>⟨_,_,_,_,_,_,rfl⟩
 |_+11=>⟨_,_,_,_,_,_,rfl⟩
def RowD(T:Lay)(b:Nat)(v:Nat->List V)(bs:Nat->Bool)(rows:List (List V))(k:Nat):Prop:=
 ∃g cap ts,rows[k]?=some [.func g cap]/\DenS prog T g [(999000,.var (v k) (some b))] [] ts [(999000,.var (v (k+1)) (some b))] [] (.v (vb (bs k)))/\∀h:List (Nat×Blk),nmOf (Go.Ab.look 3 h)=some b->ArgsM [(999000,3)] h ts (cap.map .v)
theorem qsg(f d:Int)(b0 b1 b2 b3 b4 b5 b6 b7 b9:Bool)(r5 r6 y u:Int)(hs:List Int)(b8:Bool)(hb8:b8=decide (hs≠[]))(h5:b5=false->r5=0):
  ∀k,k<11->(∀j,j<k->bAt b0 b1 b2 b3 b4 b5 b6 b7 b8 b9 j=false)->bAt b0 b1 b2 b3 b4 b5 b6 b7 b8 b9 k=true->Wk (.agg (vAt f d r5 r6 y u hs (k+1))) (.agg (vdtB f d b0 b1 b2 b3 b4 b5 b6 b7 b8 b9 r5 r6 y u hs).cs):=by
 intro k hk hall hb;have g0:0<k->b0=false:=fun h=>hall 0 h;have g1:1<k->b1=false:=fun h=>hall 1 h;have g2:2<k->b2=false:=fun h=>hall 2 h;have g3:3<k->b3=false:=fun h=>hall 3 h;have g4:4<k->b4=false:=fun h=>hall 4 h;have g5:5<k->b5=false:=fun h=>hall 5 h;have g6:6<k->b6=false:=fun h=>hall 6 h;have g7:7<k->b7=false:=fun h=>hall 7 h;have g8:8<k->b8=false:=fun h=>hall 8 h;have g9:9<k->b9=false:=fun h=>hall 9 h
 match k,hk with
 |0,_=>have hb:b0=true:=hb;subst hb;exact ee _ _ _ _ _
 |1,_=>rw[g0 omq];have hb:b1=true:=hb;subst hb;exact ee _ _ _ _ _
 |2,_=>rw[g0 omq,g1 omq];have hb:b2=true:=hb;subst hb;exact ee _ _ _ _ _
 |3,_=>rw[g0 omq,g1 omq,g2 omq];have hb:b3=true:=hb;subst hb;exact ee _ _ _ _ _
 |4,_=>rw[g0 omq,g1 omq,g2 omq,g3 omq];have hb:b4=true:=hb;subst hb;exact ee _ _ _ _ _
 |5,_=>rw[g0 omq,g1 omq,g2 omq,g3 omq,g4 omq];have hb:b5=true:=hb;subst hb;exact ee _ _ _ _ _
 |6,_=>rw[g0 omq,g1 omq,g2 omq,g3 omq,g4 omq,g5 omq];have hb:b6=true:=hb;subst hb;exact ee _ _ _ _ _
 |7,_=>rw[g0 omq,g1 omq,g2 omq,g3 omq,g4 omq,g5 omq,g6 omq];have hb:b7=true:=hb;subst hb;exact ee _ _ _ _ _
 |8,_=>rw[g0 omq,g1 omq,g2 omq,g3 omq,g4 omq,g5 omq,g6 omq,g7 omq];have hb:b8=true:=hb;rw[hb];exact .refl _
 |9,_=>
  have g8':=g8 omq;have he:hs=[]:=by rw[g8'] at hb8;simpa using hb8.symm
  rw[g0 omq,g1 omq,g2 omq,g3 omq,g4 omq,g5 omq,g6 omq,g7 omq,g8'];have hb:b9=true:=hb;rw[hb,he];exact .refl _
 |10,_=>
  have g8':=g8 omq;have he:hs=[]:=by rw[g8'] at hb8;simpa using hb8.symm
  rw[g0 omq,g1 omq,g2 omq,g3 omq,g4 omq,g5 omq,g6 omq,g7 omq,g8',g9 omq,he];exact .refl _
theorem qiy(L:LibC T)(x:Lok)(hr:x.r.Fit)(hf:x.f.Fit)(hl:x.rls.length<=1048576):Den prog T 143 [.agg x.cs] (.agg (vdtL x).cs):=by
 have hc1:=qdx (T:=T) x hr;have hc2:=qik (T:=T) x hr;have hc5:=fun(k k0 f d r u:Int) (h:V) (b:Nat)=>jug (T:=T) x 211 [] gl hl (fun q _=>qmf q) k k0 f d r u h b;have hc6:=fun(k k0 f d r u:Int) (h:V) (b:Nat)=>jug (T:=T) x 205 [.row x.cs] (ct x.f x.d) hl (fun q _=>qly x q hf) k k0 f d r u h b;have hc7:=fun(k k0 f d r u:Int) (h:V) (b:Nat)=>jk6 (T:=T) x _ _ _ (qq0 x) k k0 f d r u h b;have hc8:=fun(k k0 f d r u:Int) (h:V) (b:Nat)=>qib (T:=T) L x hr hf k k0 f d r u h b;have hc9:=fun(k k0 f d r u:Int) (h:V) (b:Nat)=>jk6 (T:=T) x _ _ _ (qma x hr hl) k k0 f d r u h b;have hc10:=fun(k k0 f d r u:Int) (h:V) (b:Nat)=>jk6 (T:=T) x _ _ _ qsj k k0 f d r u h b;unfold vdtL;obtain⟨b0,h0⟩:∃b,decide (state x.f x.d=0)=b:=⟨_,rfl⟩;obtain⟨b1,h1⟩:∃b,gone1 x.r x.f x.d=b:=⟨_,rfl⟩;obtain⟨b2,h2⟩:∃b,gone2 x.r x.f x.d=b:=⟨_,rfl⟩;obtain⟨b3,h3⟩:∃b,decide ((x.rls.length:Int)=0)=b:=⟨_,rfl⟩;obtain⟨b4,h4⟩:∃b,decide (state x.f x.d=1)=b:=⟨_,rfl⟩;obtain⟨o5,h5⟩:∃b,x.rls.find? gl=b:=⟨_,rfl⟩;obtain⟨o6,h6⟩:∃b,x.rls.find? (ct x.f x.d)=b:=⟨_,rfl⟩;obtain⟨b7,h7⟩:∃b,decide (x.d<=x.due)=b:=⟨_,rfl⟩;obtain⟨hs,h8⟩:∃b,cg x.r.ofs x.r.pls x.r.hls x.f x.d=b:=⟨_,rfl⟩;obtain⟨b9,h9⟩:∃b,(x.rls.any dx || selB x.r x.f x.d)=b:=⟨_,rfl⟩;rw[h1] at hc1;rw[h2] at hc2;rw[h5] at hc5;rw[h6] at hc6;rw[h7] at hc7;rw[h8] at hc8;rw[h9] at hc9;rw[h0,h1,h2,h3,h4,h5,h6,h7,h8,h9];refine ab call143 func143 78 ?_;refine jqz trivial ?_;refine jp5 3 ?_;intro b hb;clear hb;refine rc (jx0 x.f x.d) ?_;refine rcW h0 (je6 0 b0 b) ?_;refine rc hc1 ?_;refine rc (je6 1 b1 b) ?_;refine rc hc2 ?_;refine rc (je6 2 b2 b) ?_;refine rcW h3 (je6 0 b3 b) ?_;refine rc (jx0 x.f x.d) ?_;refine rcW h4 (je6 3 b4 b) ?_;refine rc (jwt x 4 _ _ b) ?_;refine rc (jwt x 5 _ _ b) ?_;refine rc (jgx x 6 _ _ b) ?_;refine rc (jgx x 7 _ _ b) ?_;refine rc (jgx x 9 _ _ b) ?_;refine rc (jgx x 8 _ _ b) ?_;refine run ?_
 have hrows:∀k,k<11->RowD T b (vAt x.f.id x.d (firR o5) (firR o6) x.by' x.due hs) (bAt b0 b1 b2 b3 b4 o5.isSome o6.isSome b7 (decide (hs≠[])) b9) (qd4 x b b0 b1 b2 b3 b4) k:=fun k hk=>by
  match k,hk with
  |0,_=>exact⟨_,_,_,rfl,jds 0 0 _ _ _ _ _ b0 b,fun h e=>.cons (.v _) (.cons (.pn rfl e) (.cons (.v _) .nil))⟩
  |1,_=>exact⟨_,_,_,rfl,jds 1 0 _ _ _ _ _ b1 b,fun h e=>.cons (.v _) (.cons (.pn rfl e) (.cons (.v _) .nil))⟩
  |2,_=>exact⟨_,_,_,rfl,jds 2 1 _ _ _ _ _ b2 b,fun h e=>.cons (.v _) (.cons (.pn rfl e) (.cons (.v _) .nil))⟩
  |3,_=>exact⟨_,_,_,rfl,jds 0 2 _ _ _ _ _ b3 b,fun h e=>.cons (.v _) (.cons (.pn rfl e) (.cons (.v _) .nil))⟩
  |4,_=>exact⟨_,_,_,rfl,jds 3 0 _ _ _ _ _ b4 b,fun h e=>.cons (.v _) (.cons (.pn rfl e) (.cons (.v _) .nil))⟩
  |5,_=>exact⟨_,_,_,rfl,hc5 4 3 _ _ _ _ _ b,fun h e=>.cons (.v _) (.cons (.v _) (.cons (.v _) (.cons (.pn rfl e) .nil)))⟩
  |6,_=>exact⟨_,_,_,rfl,hc6 5 4 _ _ _ _ _ b,fun h e=>.cons (.v _) (.cons (.v _) (.cons (.v _) (.cons (.pn rfl e) .nil)))⟩
  |7,_=>exact⟨_,_,_,rfl,hc7 6 5 _ _ _ _ _ b,fun h e=>.cons (.v _) (.cons (.v _) (.cons (.pn rfl e) (.cons (.v _) .nil)))⟩
  |8,_=>exact⟨_,_,_,rfl,hc8 7 6 _ _ _ _ _ b,fun h e=>.cons (.v _) (.cons (.v _) (.cons (.pn rfl e) (.cons (.v _) .nil)))⟩
  |9,_=>exact⟨_,_,_,rfl,hc9 9 7 _ _ _ _ _ b,fun h e=>.cons (.v _) (.cons (.v _) (.cons (.pn rfl e) (.cons (.v _) .nil)))⟩
  |10,_=>exact⟨_,_,_,rfl,hc10 8 9 _ _ _ _ _ b,fun h e=>.cons (.v _) (.cons (.v _) (.cons (.pn rfl e) (.cons (.v _) .nil)))⟩
 have hfin:=qsg x.f.id x.d b0 b1 b2 b3 b4 o5.isSome o6.isSome b7 b9 (firR o5) (firR o6) x.by' x.due hs (decide (hs≠[])) rfl (fun h=>by cases o5 with|none=>rfl|some q=>cases h);obtain⟨R,hR⟩:∃R,qd4 x b b0 b1 b2 b3 b4=R:=⟨_,rfl⟩;have hRl:R.length=11:=by rw[<- hR];rfl
 rw[hR] at hrows;obtain⟨W,hW⟩:∃W,vdtB x.f.id x.d b0 b1 b2 b3 b4 o5.isSome o6.isSome b7 (decide (hs≠[])) b9 (firR o5) (firR o6) x.by' x.due hs=W:=⟨_,rfl⟩;rw[hW] at hfin ⊢;obtain⟨B,hB⟩:∃B,bAt b0 b1 b2 b3 b4 o5.isSome o6.isSome b7 (decide (hs≠[])) b9=B:=⟨_,rfl⟩;have hB10:B 10=true:=by rw[<- hB];rfl
 rw[hB] at hfin hrows;obtain⟨A,hA⟩:∃A,vAt x.f.id x.d (firR o5) (firR o6) x.by' x.due hs=A:=⟨_,rfl⟩;have hA0:A 0=vcs 0 x.f.id x.d 0 0 (.val (.slice none 0 0)):=by rw[<- hA];rfl
 have hAl:∀k,∃k1 k2 k3 k4 k5 k6,A k=[k1,k2,k3,k4,k5,k6]:=fun k=>by rw[<- hA];exact qrg _ _ _ _ _ _ _ k
 rw[hA] at hfin hrows
 refine loop ⟨[2,3,68,69,70],[2,3],[],[]⟩ (fun k:Nat=>k<11/\∀j,j<k->B j=false) (fun k=>11-k)
  (fun k=>⟨78,[(2,.p 2 0),(3,.p 3 0),(68,.v (.slice 1 R)),(69,.v (vi 11)),(70,.v (vi k))],[(2,.var (vcs 0 0 0 0 0 (.val (.slice none 0 0)))),(3,.var (A k) (some b))],[]⟩) 0 ⟨dcq,fun j h=>absurd h (yf j)⟩ ?_ (by rw[hA0,<- hR];rfl)
 rintro k ⟨hk,hall⟩;obtain⟨g,cap,ts,hg,hden,hargs⟩:=hrows k hk;have hkR:k<R.length:=omq;refine runW hg ?_;refine mo (rl [(999000,3)] hden (hargs _ rfl) ?_ ?_)
 .intro y hy;simp only[xy] at hy;subst hy;exact⟨3,_,rfl,rfl,rfl,.inr rfl,rfl⟩
 cases hbk:B k
 .have hk':k+1<11:=by
   by_cases h:k+1<11
   .exact h
   have:k=10:=omq;subst this;rw[hB10] at hbk;cases hbk
  refine run ?_;refine round (k+1) ⟨hk',fun j hj=>?_⟩ omq;by_cases hjk:j=k
  .subst hjk;exact hbk
  exact hall j omq
 have hf:=hfin k hk hall hbk;obtain⟨k1,k2,k3,k4,k5,k6,he⟩:=hAl (k+1);rw[he] at hf ⊢;refine run ?_;exact finW hf
end Go.Arc
