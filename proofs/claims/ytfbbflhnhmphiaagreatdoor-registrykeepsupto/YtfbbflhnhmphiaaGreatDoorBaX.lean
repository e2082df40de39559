/- A part of this claim. -/
import Derived.Test.YtfbbflhnhmphiaaGreatDoorBaW
set_option maxHeartbeats 8000000
set_option maxRecDepth 100000
namespace Go.Arc
open Go.Ab Go.RowKit Go.Proofs Tryz
variable {T : Lay}
variable {i:Nat}{P:Program}{st:St}{s:Str}{a:Int}{b:Int}{u:Int}
abbrev yi(n:Nat):V:=vi ((1600+n:Nat):Int)
theorem jqe(n k:Nat)(h:1600 % k=0):(((1600+n:Nat):Int)).tmod (k:Int)=((n % k:Nat):Int):=by
 rw[ol,Nat.add_mod,h,xl,Nat.mod_mod]
theorem qyo(n:Nat):((1600+n:Nat):Int)-1600=(n:Int):=omq
theorem jqc(n a k:Nat):((n:Int)+(a:Int)).tdiv (k:Int)=(((n+a) / k:Nat):Int):=by
 rw[<- jbw];rfl
theorem qsp(n:Nat):Den prog T 270 [yi n] (vb (dc n)):=by
 refine ab call270 func270 16 ?_;have h4:(((1600+n:Nat):Int)).tmod 4=((n % 4:Nat):Int):=jqe n 4 rfl;have h100:(((1600+n:Nat):Int)).tmod 100=((n % 100:Nat):Int):=jqe n 100 rfl;have h400:(((1600+n:Nat):Int)).tmod 400=((n % 400:Nat):Int):=jqe n 400 rfl;have hl:dc n=(decide (n % 4=0) && (decide (n % 100≠0) || decide (n % 400=0))):=rfl;by_cases a4:n % 4=0
 .by_cases a100:n % 100=0
  .by_cases a400:n % 400=0
   .refine runW (ai h4 (ai h100 (ai h400 (ai a4 (ai a100 a400))))) ?_;refine fin (ah ?_);rw[hl];simp[a4,a100,a400]
   refine runW (ai h4 (ai h100 (ai h400 (ai a4 a100)))) ?_;refine fin (ah ?_);rw[hl];simp[a4,a100,a400]
  refine runW (ai h4 (ai h100 (ai h400 a4))) ?_;refine fin (ah ?_);rw[hl];simp[a4,a100]
 refine runW (ai h4 (ai h100 h400)) ?_;refine fin (ah ?_);rw[hl];simp[a4]
theorem jhm(n:Nat)(hn:n<=4000):Den prog T 215 [yi n] (vi (bgn n)):=by
 refine ab call215 func215 20 ?_;have h4:((n:Int)+3).tdiv 4=(((n+3) / 4:Nat):Int):=jqc n 3 4;have h100:((n:Int)+99).tdiv 100=(((n+99) / 100:Nat):Int):=jqc n 99 100;have h400:((n:Int)+399).tdiv 400=(((n+399) / 400:Nat):Int):=jqc n 399 400;have hb:(bgn n:Int)=365*(n:Int)+(((n+3) / 4:Nat):Int)-(((n+99) / 100:Nat):Int)+(((n+399) / 400:Nat):Int):=by unfold bgn;omega
 refine runW (ai (qyo n) (ai h4 (ai h100 h400))) ?_;exact fin (bc hb.symm)
theorem jim(l:Bool)(m:Nat):lenM l m<=31:=by
 unfold lenM;split
 .decide
 rcases m with _|m
 .decide
 rcases xk m 12 with h|h
 .have:m=0\/m=1\/m=2\/m=3\/m=4\/m=5\/m=6\/m=7\/m=8\/m=9\/m=10\/m=11:=omq;rcases this with rfl|rfl|rfl|rfl|rfl|rfl|rfl|rfl|rfl|rfl|rfl|rfl<;>decide
 rw[show m+1-1=m from rfl,xay (by simpa [qe5] using h)];decide
theorem qw7{l:Bool}{m:Nat}(h1:1<=m)(h2:m<=12):28<=lenM l m:=by
 have:m=1\/m=2\/m=3\/m=4\/m=5\/m=6\/m=7\/m=8\/m=9\/m=10\/m=11\/m=12:=omq;rcases this with rfl|rfl|rfl|rfl|rfl|rfl|rfl|rfl|rfl|rfl|rfl|rfl<;>cases l<;>decide
theorem jid(l:Bool):∀m:Nat,sumM l m<=31*m
 |0=>vj _
 |m+1=>by
  unfold sumM;split
  .omega
  have:=jid l m;have:=jim l m;omega
abbrev mlv:V:=.agg [vi 31,vi 28,vi 31,vi 30,vi 31,vi 30,vi 31,vi 31,vi 30,vi 31,vi 30,vi 31]
theorem jtq:Den prog T 271 [] mlv:=by
 refine ab call271 func271 2 ?_;exact zbm
theorem jh2(n m:Nat)(hn:n<=2870)(h1:1<=m)(h2:m<=12):Den prog T 214 [yi n,vi m] (vi (lenM (dc n) m)):=by
  refine ab call214 func214 29 ?_;have hm:m=1\/m=2\/m=3\/m=4\/m=5\/m=6\/m=7\/m=8\/m=9\/m=10\/m=11\/m=12:=omq;by_cases e2:m=2
  . subst e2;refine rc (qsp n) ?_;cases hl:dc n
    . refine rc jtq ?_;exact za
    exact za
  have hlen:lenM (dc n) m=lenM false m:=by unfold lenM;rw[vd (fun h=>e2 h.1),vd (fun h=>e2 h.1)]
  rw[hlen];rcases hm with rfl|rfl|rfl|rfl|rfl|rfl|rfl|rfl|rfl|rfl|rfl|rfl
  all_goals first
    |exact absurd rfl e2
    | (refine run ?_
       refine call jtq ?_;refine run ?_
       exact fin rfl)
structure DateOk (n m dd:Nat):Prop where
 y1:n<=2870
 m1:1<=m
 m2:m<=12
 d1:1<=dd
 d2:dd<=lenM (dc n) m
abbrev ofN(n m dd:Nat):Nat:=bgn n+sumM (dc n) m+dd-1
abbrev ofV(n m dd:Nat):V:=if 1048575<ofN n m dd then .tup [vi 0,vi 2] else .tup [vi (ofN n m dd),vi 0]
theorem jlg(l:Bool){m:Nat}(h:1<=m):sumM l (m+1)=sumM l m+lenM l m:=by
 conv=>lhs;unfold sumM
 rw[vd omq]
theorem qdi(n m dd:Nat)(h:DateOk n m dd):Den prog T 213 [yi n,vi m,vi dd] (ofV n m dd):=by
 obtain⟨hn,h1,h2,d1,d2⟩:=h;have hb:=jcn n;have hl31:=jim (dc n) m;refine ab call213 func213 39 ?_;refine rc (jh2 n m hn h1 h2) ?_;refine rcW (vf (show ¬((lenM (dc n) m:Nat):Int)<(dd:Int) by omega)) (jhm n omq) ?_
 have e1:((bgn n:Nat):Int)+(dd:Int)-1=((ofN n 1 dd:Nat):Int):=by
  show _=((bgn n+0+dd-1:Nat):Int)
  omega
 refine runW e1 ?_;refine dl ⟨[9,10,0,1],[],[],[]⟩ (fun k:Nat=>1<=k/\k<=m) (fun k=>m-k) (fun k=>[(9,.v (vi ((ofN n k dd:Nat):Int))),(10,.v (vi k))]) 1 ⟨vo _,h1⟩ ?_;rintro k ⟨hk1,hk2⟩;have hs:=jid (dc n) k;have hl:=jim (dc n) k;by_cases hlt:k<m
 .refine rc (jh2 n k hn hk1 omq) ?_
  have e:((ofN n k dd:Nat):Int)+((lenM (dc n) k:Nat):Int)=((ofN n (k+1) dd:Nat):Int):=by
   unfold ofN;rw[jlg _ hk1];omega
  have hx:ofN n (k+1) dd<=2000000:=by
   unfold ofN;rw[jlg _ hk1];omega
  refine runW e ?_;exact round (k+1) ⟨omq,omq⟩ omq
 have hk:k=m:=omq;subst hk;unfold ofV;by_cases hx:1048575<ofN n k dd
 .rw[ve hx];exact za
 rw[vd hx];exact za
theorem resS4{a b c d:V}{x y z u:ResultVar}(h1:resV P st x=some a)(h2:resV P st y=some b)(h3:resV P st z=some c)(h4:resV P st u=some d):resS P st [x,y,z,u]=some (.tup [a,b,c,d]):=by simp[resS,resL,h1,h2,h3,h4]
theorem fin4{rs:List ResultVar}{r r':V}(hr:r'=r)(h:resS P st rs=some r':=by exact resS4 rfl rfl rfl rfl):nq P rs r .rt st:=.inl ⟨r',h,.of hr⟩
theorem qxy(q r:Nat):bgn (400*q+r)=146097*q+bgn r:=by unfold bgn;omega
theorem qxx(d:Nat):bgn (400*(d / 146097)+d % 146097 / 366)<=d:=by
 rw[qxy];have h1:=jcn (d % 146097 / 366);have h2:=xcj d 146097;have h3:=xcj (d % 146097) 366;omega
theorem qdm{d m:Nat}(h:bgn m<=d):m<=yr d:=by
 rcases xk (yr d) m with hlt|hge
 .have h1:=jo3 (show yr d+1<=m by omega);have h2:=(jon d).2;omega
 exact hge
theorem jrs{d:Nat}(h:d<=1048575):yr d<=2870:=by
 rcases xk 2870 (yr d) with hlt|hge
 .have h1:=jo3 (show 2871<=yr d by omega);have h2:=(jon d).1;have h3:bgn 2871=1048612:=by decide
  omega
 exact hge
theorem qop(d:Nat)(h:d<=1048575):Den prog T 269 [vi d] (vb true):=by
 refine ab call269 func269 9 ?_;exact za
abbrev jfy(d:Nat):V:=.tup [yi (date d).1,vi ((date d).2.1:Nat),vi (((date d).2.2+1:Nat):Int),vi 0]
theorem jzt(d:Nat)(h:d<=1048575):Den prog T 212 [vi d] (jfy d):=by
 have hy:=jrs h;have hin:=qbe d;obtain⟨l,hl⟩:∃l,dc (yr d)=l:=⟨_,rfl⟩;rw[hl] at hin;have hms:=jyw hin
 have hdate:jfy d=.tup [yi (yr d),vi ((mon l (d-bgn (yr d))).1:Nat),vi (((mon l (d-bgn (yr d))).2+1:Nat):Int),vi 0]:=by
  unfold jfy date;rw[hl]
 rw[hdate];refine ab call212 func212 44 ?_;have h1:((d:Int)).tdiv 146097=((d / 146097:Nat):Int):=jbw d 146097;have h2:((d:Int)).tmod 146097=((d % 146097:Nat):Int):=ol d 146097;have h3:(((d % 146097:Nat):Int)).tdiv 366=((d % 146097 / 366:Nat):Int):=jbw (d % 146097) 366;have hlow:=qxx d;refine rc (qop d h) ?_;have hq:d / 146097<=8:=omq;have hr:d % 146097 / 366<=400:=omq;refine runW (ai h1 (ai h2 h3)) ?_;have e0:1600+400*((d / 146097:Nat):Int)+((d % 146097 / 366:Nat):Int)=((1600+(400*(d / 146097)+d % 146097 / 366):Nat):Int):=omq;rw[e0];refine dl ⟨[2,0],[],[],[]⟩ (fun y:Nat=>bgn y<=d) (fun y=>yr d-y) (fun y=>[(2,.v (yi y))]) (400*(d / 146097)+d % 146097 / 366) hlow ?_;intro y hyd;have hyy:=qdm hyd;have e1:((1600+y:Nat):Int)+1=((1600+(y+1):Nat):Int):=omq;have hb1:=jcn (y+1);refine rcW e1 (jhm (y+1) omq) ?_;by_cases hlt:bgn (y+1)<=d
 .refine runW e1 ?_;exact round (y+1) hlt (by have:=qdm hlt;omega)
 have hyr:yr d=y:=qdw hyd omq;rw[hyr] at hy hms hin hl ⊢;have hb0:=jcn y;refine rc (jhm y omq) ?_;have e2:(d:Int)-((bgn y:Nat):Int)=((d-bgn y:Nat):Int):=omq;refine runW e2 ?_;obtain⟨d0,hd0⟩:∃d0,d-bgn y=d0:=⟨_,rfl⟩;rw[hd0] at hms hin ⊢;refine dl ⟨[0,3,2],[],[],[]⟩ (fun z:Nat×Nat×Nat=>1<=z.2.1/\z.2.1+z.1=13/\z.2.2<sumM l 13-sumM l z.2.1/\monF l z.1 z.2.1 z.2.2=mon l d0) (fun z=>z.1) (fun z=>[(0,.v (vi z.2.2)),(3,.v (vi z.2.1))]) (12,1,d0) ⟨vo _,rfl,by simpa [sumM] using hin,rfl⟩ ?_;rintro⟨k,m,dd⟩ ⟨g1,g2,g3,g4⟩;simp only at g1 g2 g3 g4
 have hk:k≠0:=fun e=>by
  have:m=13:=omq;subst this;omega
 obtain⟨k',rfl⟩:∃k',k=k'+1:=⟨k-1,omq⟩;have hlen:=jh2 (T:=T) y m hy g1 omq;rw[hl] at hlen;have h31:=jim l m;have hs13:sumM l 13<=31*13:=jid l 13;refine rc hlen ?_;by_cases hdd:dd<lenM l m
 .have e3:monF l (k'+1) m dd=(m,dd):=by simp only[monF];rw[ve hdd]
  rw[<- g4,e3];have e5:(dd:Int)+1=((dd+1:Nat):Int):=omq;refine runW e5 ?_;exact fin4 rfl
 have e3:monF l (k'+1) m dd=monF l k' (m+1) (dd-lenM l m):=by simp only[monF];rw[vd hdd]
 rw[e3] at g4;have e4:(dd:Int)-((lenM l m:Nat):Int)=((dd-lenM l m:Nat):Int):=omq;refine rc hlen ?_;refine runW e4 ?_;exact round (k',m+1,dd-lenM l m) ⟨by simp only;omega,by simp only;omega,by simp only;rw[jlg l g1];omega,g4⟩ zeo
theorem qxr(d:Nat)(h:d<=1048575):DateOk (date d).1 (date d).2.1 ((date d).2.2+1):=by
 have hms:=jyw (qbe d);exact⟨jrs h,hms.1,hms.2.1,omq,hms.2.2.1⟩
theorem qlz(d k:Nat):yearsN d k<=1048575:=by
 unfold yearsN;simp only;split
 .exact zej
 exact Nat.min_le_right _ _
theorem qoz(d k:Nat)(h:d<=1048575)(hk:k<=200):Den prog T 151 [vi d,vi k] (.tup [vi (yearsN d k:Nat),vi 0]):=by
 obtain⟨hn,h1,h2,d1,d2⟩:=qxr d h;have hdv:jfy d=.tup [yi (date d).1,vi ((date d).2.1:Nat),vi (((date d).2.2+1:Nat):Int),vi 0]:=rfl;have hD:=jzt (T:=T) d h;have hy:yearsN d k=if 2870<(date d).1+k then 1048575 else min (bgn ((date d).1+k)+sumM (dc ((date d).1+k)) (date d).2.1+min ((date d).2.2+1) (lenM (dc ((date d).1+k)) (date d).2.1)-1) 1048575:=rfl
 rw[hdv] at hD;rw[hy];obtain⟨y,ey⟩:∃y,(date d).1=y:=⟨_,rfl⟩;obtain⟨m,em⟩:∃m,(date d).2.1=m:=⟨_,rfl⟩;obtain⟨q,eq⟩:∃q,(date d).2.2=q:=⟨_,rfl⟩;rw[ey,em,eq] at hD;rw[ey] at hn d2;rw[em] at h1 h2 d2;rw[eq] at d1 d2;rw[ey,em,eq];refine ab call151 func151 47 ?_;refine rc hD ?_;have e0:((1600+y:Nat):Int)+(k:Int)=((1600+(y+k):Nat):Int):=omq;by_cases hx:2870<y+k
 .rw[ve hx];refine runW e0 ?_;exact fin rfl
 rw[vd hx];have hL:=jh2 (T:=T) (y+k) m omq h1 h2;refine rcW e0 hL ?_;have hl28:=qw7 (l:=dc (y+k)) h1 h2;obtain⟨L,eL⟩:∃L,lenM (dc (y+k)) m=L:=⟨_,rfl⟩;rw[eL] at hl28 ⊢;have hb:=jcn (y+k);have hs:=jid (dc (y+k)) m;by_cases hc:L<q+1
 .have hO:=qdi (T:=T) (y+k) m L ⟨omq,h1,h2,omq,by rw[eL];exact vo _⟩;rw[show min (q+1) L=L from xd5 omq];unfold ofV ofN at hO;obtain⟨v,ev⟩:∃v,bgn (y+k)+sumM (dc (y+k)) m+L-1=v:=⟨_,rfl⟩;rw[ev] at hO ⊢;have hcc:(L:Int)<(((q+1:Nat)):Int):=omq;refine rcW hcc hO ?_;by_cases hv:1048575<v
  .rw[ve hv,xd5 omq];exact za
  rw[vd hv,xaw omq];exact za
 have hO:=qdi (T:=T) (y+k) m (q+1) ⟨omq,h1,h2,omq,by rw[eL];omega⟩;rw[show min (q+1) L=q+1 from xaw omq];unfold ofV ofN at hO;obtain⟨v,ev⟩:∃v,bgn (y+k)+sumM (dc (y+k)) m+(q+1)-1=v:=⟨_,rfl⟩;rw[ev] at hO ⊢;have hcc:¬(L:Int)<(((q+1:Nat)):Int):=omq;refine rcW (vf hcc) hO ?_;by_cases hv:1048575<v
 .rw[ve hv,xd5 omq];exact za
 rw[vd hv,xaw omq];exact za
theorem qi4(d:Nat)(h:d<=1048575):Den prog T 152 [vi d] (.tup [vi (yearEndN d:Nat),vi 0]):=by
 have hn:=jrs h;have hD:=jzt (T:=T) d h;have hdv:jfy d=.tup [yi (yr d),vi ((date d).2.1:Nat),vi (((date d).2.2+1:Nat):Int),vi 0]:=rfl;rw[hdv] at hD;refine ab call152 func152 23 ?_;refine rc hD ?_;have e0:((1600+yr d:Nat):Int)+1=((1600+(yr d+1):Nat):Int):=omq;refine rcW e0 (jhm (yr d+1) omq) ?_;have hg:=qdo (yr d+1);unfold yearEndN;obtain⟨v,ev⟩:∃v,bgn (yr d+1)=v:=⟨_,rfl⟩;rw[ev] at hg ⊢;have hb:=jcn (yr d+1);rw[ev] at hb;by_cases hc:(1048575:Int)<(v:Int)-1
 .refine runW hc ?_;refine fin ?_;rw[xd5 omq];rfl
 refine runW (vf hc) ?_;refine fin ?_;rw[xaw omq];have:((v-1:Nat):Int)=(v:Int)-1:=omq;rw[this]
theorem jkj:∀s:Str,(0<=Lib.indexByte s 34)↔iu s=true
 |[]=>by simp[Lib.indexByte,iu]
 |b::r=>by
  have ih:=jkj r;have hg:=Lib.indexByte_ge r 34;have e:Lib.indexByte (b::r) 34=if(b == 34)=true then 0 else if(Lib.indexByte r 34 == -1)=true then -1 else Lib.indexByte r 34+1:=rfl
  have q:iu (b::r)=((b == 34) || iu r):=rfl;rw[e,q];by_cases hb:(b == 34)=true
  .rw[ve hb,hb];simp
  have hb':(b == 34)=false:=by simpa using hb
  rw[vd hb,hb',xav,<- ih];by_cases h1:Lib.indexByte r 34= -1
  .rw[ve (by simp[h1]),h1]
  rw[vd (by simp[h1])];omega
theorem qj5(s:Str):decide (0<=Lib.indexByte s 34)=iu s:=by
 cases h:iu s
 .have:¬ 0<=Lib.indexByte s 34:=fun g=>by rw[(jkj s).1 g] at h;cases h
  exact zb4
 simpa using(jkj s).2 h
theorem jbp(s:Str):Den prog T 189 [.str s,.str [34]] (vb (iu s)):=by
 refine⟨fun args w=>call189 args w,fun w F xs hF hl hx=>?_⟩;obtain⟨x,y,rfl,h1,h2⟩:=jcv hx;obtain rfl:=cw h1;obtain rfl:=cw h2;refine(Any.strings_Contains_one Tryz.lays144 ⟨s.toArray⟩ 34 w).mono ?_;rintro e w' ⟨rfl,rfl⟩;refine⟨_,_,rfl,Ext.refl hF,?_⟩;have:=qj5 s;rw[<- this];exact .val _
theorem jv9(f u:Int):Den prog T 268 [span f u] (vb (cd f u)):=by
 refine ab call268 func268 18 ?_;unfold cd;by_cases h1:0<=f<;>by_cases h2:f<u<;>by_cases h3:u<=1048576<;>(refine run ?_;refine fin (ah ?_);simp;try omega)
theorem ql1(r:Rul)(n:Int):Den prog T 140 [.agg r.cs,.row [vi n]] (vb (pm n r)):=by
 refine ab call140 func140 8 ?_;exact za
theorem jm8(l:List Rul)(f:FuncId)(cap:List V)(p:Rul->Bool)(hl:l.length<=1048576)(hp:∀e∈l,Den prog T f (.agg e.cs::cap) (vb (p e))):
   Den prog T 139 [ruls l,.func f cap] (vi (ix p l)):=by
  refine ab call139 func139 19 ?_;exact ixPf
theorem jxt(l:List Rul)(n:Int)(hl:l.length<=1048576):Den prog T 56 [ruls l,vi n] (vi (gt l n)):=by
 refine ab call56 func56 8 ?_;refine rc (jm8 l _ _ (pm n) hl fun r _=>ql1 r n) ?_;exact za
theorem jd{l:List Rul}{r:Rul}(hi:l[i]?=some r)(hb:badR r):oz l i=2:=by simp only[oz,hi];rw[ve hb]
theorem jzc{l:List Rul}{r:Rul}(hi:l[i]?=some r)(hb:¬badR r):oz l i=if lx l i r=true then 5 else ie r:=by simp only[oz,hi];rw[vd hb]
theorem gk(r:Rul):badR r↔(idB r.id=false\/r.yrs<0\/200<r.yrs\/r.act<1\/3<r.act\/cd r.frm r.til=false):=Iff.rfl
theorem qvi(l:List Rul)(r:Rul):lx l 0 r=false:=by unfold lx;rw[ve rfl]
theorem qax{l:List Rul}{r q:Rul}(h0:i≠0)(hq:l[i-1]?=some q):lx l i r=decide (r.id<=q.id):=by unfold lx;rw[vd h0,hq]
theorem jtf{l:List Rul}(hi:i<l.length)(r:Rul):(lx l i r=true/\∃q,i≠0/\l[i-1]?=some q/\r.id<=q.id)\/(lx l i r=false/\(i=0\/∃q,i≠0/\l[i-1]?=some q/\¬r.id<=q.id)):=by
 by_cases h0:i=0
 .right;rw[h0];exact⟨qvi l r,.inl rfl⟩
 obtain⟨q,hq,-,-⟩:=af (l:=l) (k:=i-1) omq;by_cases hle:r.id<=q.id
 .left;exact⟨by rw[qax h0 hq];simp[hle],q,h0,hq,hle⟩
 right;exact⟨by rw[qax h0 hq];simp[hle],.inr ⟨q,h0,hq,hle⟩⟩
inductive RestR (r:Rul):Prop
 |p3 (h:ak r.cls=none) (e:ie r=3)
 |n4 (l:List Nat) (h:ak r.cls=some l) (hn:name r.trg=false) (e:ie r=4)
 |q4 (l:List Nat) (h:ak r.cls=some l) (hn:name r.trg=true) (hq:iu r.trg=true) (e:ie r=4)
 |k1 (l:List Nat) (h:ak r.cls=some l) (hn:name r.trg=true) (hq:iu r.trg=false) (ha:r.act=3) (ho:(r.trg == mj)=false) (e:ie r=1)
 |y1 (l:List Nat) (h:ak r.cls=some l) (hn:name r.trg=true) (hq:iu r.trg=false) (ha:r.act=3) (ho:(r.trg == mj)=true) (hy:r.yrs≠0) (e:ie r=1)
 |e1 (l:List Nat) (h:ak r.cls=some l) (hn:name r.trg=true) (hq:iu r.trg=false) (ha:r.act=3) (ho:(r.trg == mj)=true) (hy:r.yrs=0) (he:r.yend=true) (e:ie r=1)
 |k0 (l:List Nat) (h:ak r.cls=some l) (hn:name r.trg=true) (hq:iu r.trg=false) (ha:r.act=3) (ho:(r.trg == mj)=true) (hy:r.yrs=0) (he:r.yend=false) (e:ie r=0)
 |z0 (l:List Nat) (h:ak r.cls=some l) (hn:name r.trg=true) (hq:iu r.trg=false) (ha:r.act≠3) (e:ie r=0)
theorem qj4(r:Rul):RestR r:=by
 cases hp:ak r.cls with
 |none=>exact .p3 hp (by unfold ie;rw[hp];rfl)
 |some l=>
  have e0:ie r=if name r.trg=false\/iu r.trg=true then 4 else if r.act=3/\(r.trg≠mj\/r.yrs≠0\/r.yend=true) then 1 else 0:=by unfold ie;rw[hp];rfl
  cases hn:name r.trg with
  |false=>exact .n4 l hp hn (by rw[e0,ve (.inl hn)])
  |true=>
   cases hq:iu r.trg with
   |true=>exact .q4 l hp hn hq (by rw[e0,ve (.inr hq)])
   |false=>
    have e1:ie r=if r.act=3/\(r.trg≠mj\/r.yrs≠0\/r.yend=true) then 1 else 0:=by rw[e0,vd (by simp[hn,hq])]
    by_cases ha:r.act=3
    .cases ho:r.trg == mj with
     |false=>exact .k1 l hp hn hq ha ho (by rw[e1,ve ⟨ha,.inl (by simpa using ho)⟩])
     |true=>
      have ho':r.trg=mj:=by simpa using ho
      by_cases hy:r.yrs=0
      .cases he:r.yend with
       |true=>exact .e1 l hp hn hq ha ho hy he (by rw[e1,ve ⟨ha,.inr (.inr he)⟩])
       |false=>exact .k0 l hp hn hq ha ho hy he (by rw[e1,vd (by simp[ho',hy,he])])
      exact .y1 l hp hn hq ha ho hy (by rw[e1,ve ⟨ha,.inr (.inl hy)⟩])
    exact .z0 l hp hn hq ha (by rw[e1,vd (by simp[ha])])
theorem qi3(L:LibC T)(l:List Rul)(i:Nat)(hl:jdb l)(hi:i<l.length):Den prog T 211 [ruls l,vi i] (vi (oz l i)):=by
 obtain⟨hl0,hf⟩:=hl;obtain⟨r,hr,-,hm⟩:=af hi;obtain⟨hf1,hf2⟩:=hf r hm;refine ab call211 func211 98 ?_;refine rcW hr (qd L r.cls hf1) ?_;cases hp:ak r.cls with
 |none=>
  rw[kr hp];by_cases a1:r.id<1
  .exact zbl
  by_cases a2:1073741824<r.id
  .exact zbl
  by_cases b1:r.yrs<0
  .rw[jd hr ((gk r).2 (.inr (.inl b1)))];exact za
  by_cases b2:200<r.yrs
  .rw[jd hr ((gk r).2 (.inr (.inr (.inl b2))))];exact za
  by_cases b3:r.act<1
  .rw[jd hr ((gk r).2 (.inr (.inr (.inr (.inl b3)))))];exact za
  by_cases b4:3<r.act
  .rw[jd hr ((gk r).2 (.inr (.inr (.inr (.inr (.inl b4))))))];exact za
  refine rc (jv9 r.frm r.til) ?_;cases b5:cd r.frm r.til
  .rw[jd hr ((gk r).2 (.inr (.inr (.inr (.inr (.inr b5))))))];exact za
  rw[jzc hr fun hb=>by
   rcases (gk r).1 hb with h|h|h|h|h|h
   .simp[idB] at h;omega
   .exact b1 h
   .exact b2 h
   .exact b3 h
   .exact b4 h
   rw[b5] at h;cases h]
  rcases jtf hi r with⟨hpv,q,h0,hq,hle⟩|⟨hpv,h0|⟨q,h0,hq,hle⟩⟩
  .exact zcb
  all_goals
   rw[vd ze2];rw[show ie r=3 by unfold ie;rw[hp];rfl]
   first
    |(subst h0;refine run ?_)
    |refine runW hq ?_
   exact fin rfl
 |some pl=>
  rw[kq hp];by_cases a1:r.id<1
  .exact zbl
  by_cases a2:1073741824<r.id
  .exact zbl
  by_cases b1:r.yrs<0
  .rw[jd hr ((gk r).2 (.inr (.inl b1)))];exact za
  by_cases b2:200<r.yrs
  .rw[jd hr ((gk r).2 (.inr (.inr (.inl b2))))];exact za
  by_cases b3:r.act<1
  .rw[jd hr ((gk r).2 (.inr (.inr (.inr (.inl b3)))))];exact za
  by_cases b4:3<r.act
  .rw[jd hr ((gk r).2 (.inr (.inr (.inr (.inr (.inl b4))))))];exact za
  refine rc (jv9 r.frm r.til) ?_;cases b5:cd r.frm r.til
  .rw[jd hr ((gk r).2 (.inr (.inr (.inr (.inr (.inr b5))))))];exact za
  rw[jzc hr fun hb=>by
   rcases (gk r).1 hb with h|h|h|h|h|h
   .simp[idB] at h;omega
   .exact b1 h
   .exact b2 h
   .exact b3 h
   .exact b4 h
   rw[b5] at h;cases h]
  rcases jtf hi r with⟨hpv,q,h0,hq,hle⟩|⟨hpv,h0|⟨q,h0,hq,hle⟩⟩
  .exact zcb
  all_goals
   rw[vd ze2]
   first
    |(subst h0;refine run ?_)
    |refine runW hq ?_
   refine call (ua L r.trg hf2) ?_;rcases qj4 r with⟨h,e⟩|⟨_,h,hn,e⟩|⟨_,h,hn,hq',e⟩|⟨_,h,hn,hq',ha,ho,e⟩|⟨_,h,hn,hq',ha,ho,hy,e⟩|⟨_,h,hn,hq',ha,ho,hy,he,e⟩|⟨_,h,hn,hq',ha,ho,hy,he,e⟩|⟨_,h,hn,hq',ha,e⟩
   .rw[hp] at h;cases h
   .rw[e,hn];exact za
   .rw[e,hn];refine rc (jbp r.trg) ?_;rw[hq'];exact za
   .rw[e,hn];refine rc (jbp r.trg) ?_;rw[hq'];refine runW (ai ha (show (r.trg == [111,112,101,110,101,100])=false from ho)) ?_;exact fin rfl
   .rw[e,hn];refine rc (jbp r.trg) ?_;rw[hq'];refine runW (ai ha (show (r.trg == [111,112,101,110,101,100])=true from ho)) ?_;exact fin rfl
   .exact zbx
   .exact zbx
   rw[e,hn];refine rc (jbp r.trg) ?_;rw[hq'];exact za
theorem jl3(L:LibC T)(l:List Rul)(hl:jdb l):Den prog T 149 [ruls l] (chkV (ia l)):=by
 have hl0:=hl.1;refine ab call149 func149 22 ?_;by_cases h16:64<l.length
 .refine run ?_;refine fin ?_;simp only[chkV,ia,ub h16]
 refine run ?_;refine dq ⟨[11,0,10],[],[],[]⟩ l.length (fun k=>∀i,i<k->oz l i=0) omq ?_;rintro k ⟨hk,hall⟩;by_cases hlt:k<l.length
 .refine rc (qi3 L l k hl hlt) ?_;by_cases hz:oz l k=0
  .refine run ?_;refine round (k+1) ⟨omq,fun i hi=>?_⟩ omq;by_cases e:i=k
   .rw[e];exact hz
   exact hall i omq
  refine run ?_;refine fin ?_;simp only[chkV,ia,jf9 h16 hlt hall hz]
 refine run ?_;refine fin ?_;simp only[chkV,ia,jav h16 fun i hi=>hall i omq]
theorem qnt(s:Str):bv s<=6:=by
 unfold bv;cases h:ak s with
 |none=>exact vj _
 |some l=>
  unfold ak at h;split at h
  .split at h
   .cases h;assumption
   cases h
  cases h
theorem qjt{l:List Nat}(h:ak s=some l):l.length=bv s:=by unfold bv;rw[h]
theorem qju(h:ak s=none):bv s=0:=by unfold bv;rw[h]
theorem qry{f d:Int}(h:d<f):inS f u d=false:=by unfold inS;simp;omega
theorem qrx{f d:Int}(h:u<=d):inS f u d=false:=by unfold inS;simp;omega
theorem qz9{f d:Int}(h:f<=d)(h':d<u):inS f u d=true:=by unfold inS;simp[h,h']
theorem qpa(L:LibC T)(l:List Rul)(s:Str)(d:Int)(hl:jdb l)(hs:s.length<=1048576):DenO prog T 55 [ruls l,.str s,vi d] 3 (ints (dw l s d)):=by
 have hl0:=hl.1;refine pz call55 func55 61 ?_;refine run ?_
 refine loop ⟨[1,2,7,8,13,14,15],[],[8],[(8,3,1)]⟩ (fun y:Nat×Nat×List Int=>y.1<=l.length/\y.2.1=bp (l.take y.1) s d/\y.2.2=dw (l.take y.1) s d/\y.2.2.length<=y.1/\y.2.1<=6) (fun y=>l.length-y.1)
  (fun y=>⟨61,[(1,.v (.str s)),(2,.v (vi d)),(7,.v (vi y.2.1)),(8,.v (ints y.2.2)),(13,.v (ruls l)),(14,.v (vi l.length)),(15,.v (vi y.1))],[],[(3,[8])]⟩) (0,0,[]) ⟨vj _,rfl,rfl,vo _,dcq⟩ ?_
 rintro⟨k,m,out⟩ ⟨hk,hmost,hout,hol,hm⟩;simp only at hk hmost hout hol hm;subst hmost hout;by_cases hlt:k<l.length
 .obtain⟨x,hx,-,hxm⟩:=af hlt;have hts:=jkc hx;have hfx:=hl.2 x hxm;have hdl:=qnt x.cls;by_cases a1:d<x.frm
  .have ha:appB s d x=false:=by unfold appB;rw[qry a1];rfl
   refine runW hx ?_;refine round (k+1,bp (l.take k) s d,dw (l.take k) s d) ⟨by simp only;omega,by simp only;rw[hts,jdr ha],by simp only;rw[hts,joh ha],by simp only;omega,hm⟩ zeo
  by_cases a2:x.til<=d
  .have ha:appB s d x=false:=by unfold appB;rw[qrx a2];rfl
   refine runW hx ?_;refine round (k+1,bp (l.take k) s d,dw (l.take k) s d) ⟨by simp only;omega,by simp only;rw[hts,jdr ha],by simp only;rw[hts,joh ha],by simp only;omega,hm⟩ zeo
  refine rcW hx (jh1 L s x.cls hs hfx.1) ?_;cases hw:db s x.cls
  .have ha:appB s d x=false:=by unfold appB;rw[hw,yz]
   refine run ?_;refine round (k+1,bp (l.take k) s d,dw (l.take k) s d) ⟨by simp only;omega,by simp only;rw[hts,jdr ha],by simp only;rw[hts,joh ha],by simp only;omega,hm⟩ zeo
  have ha:appB s d x=true:=by unfold appB;rw[hw,qz9 omq omq];rfl
  refine rc (qd L x.cls hfx.1) ?_;cases hp:ak x.cls with
  |none=>
   have hd0:=qju hp;rw[kr hp];have hzz:(0:Int)=((bv x.cls:Nat):Int):=omq;rcases xch (bp (l.take k) s d) (bv x.cls) with g|g|g
   .refine runW (ai hzz (vg (show ((bp (l.take k) s d:Nat):Int)<((bv x.cls:Nat):Int) by omega))) ?_;refine round (k+1,bv x.cls,[x.id]) ⟨by simp only;omega,by simp only;rw[hts,rn ha,Nat.max_eq_right omq],by simp only;rw[hts,qae ha g],by simp only[List.length_cons,List.length_nil];omega,hdl⟩ zeo
   .have hap:(dw (l.take k) s d).map Cint++[[V.val (.int .i64 x.id)]]=(dw (l.take k) s d++[x.id]).map Cint:=by simp
    refine runW (ai hzz (ai (vf (show ¬((bp (l.take k) s d:Nat):Int)<((bv x.cls:Nat):Int) by omega)) (ai (show ((bv x.cls:Nat):Int)=((bp (l.take k) s d:Nat):Int) by omega) hap))) ?_;refine round (k+1,bp (l.take k) s d,dw (l.take k) s d++[x.id]) ⟨by simp only;omega,by simp only;rw[hts,rn ha,xct omq],by simp only;rw[hts,qaf ha g.symm],by simp only[vr,List.length_cons,List.length_nil];omega,hm⟩ zeo
   refine runW (ai hzz (ai (vf (show ¬((bp (l.take k) s d:Nat):Int)<((bv x.cls:Nat):Int) by omega)) (vf (show ¬((bv x.cls:Nat):Int)=((bp (l.take k) s d:Nat):Int) by omega)))) ?_;refine round (k+1,bp (l.take k) s d,dw (l.take k) s d) ⟨by simp only;omega,by simp only;rw[hts,rn ha,xct omq],by simp only;rw[hts,qad ha g],by simp only;omega,hm⟩ zeo
  |some pl=>
   have hd0:=qjt hp;rw[kq hp];rcases xch (bp (l.take k) s d) (bv x.cls) with g|g|g
   .refine runW (ai hd0 (vg (show ((bp (l.take k) s d:Nat):Int)<((bv x.cls:Nat):Int) by omega))) ?_;refine round (k+1,bv x.cls,[x.id]) ⟨by simp only;omega,by simp only;rw[hts,rn ha,Nat.max_eq_right omq],by simp only;rw[hts,qae ha g],by simp only[List.length_cons,List.length_nil];omega,hdl⟩ zeo
   .have hap:(dw (l.take k) s d).map Cint++[[V.val (.int .i64 x.id)]]=(dw (l.take k) s d++[x.id]).map Cint:=by simp
    refine runW (ai hd0 (ai (vf (show ¬((bp (l.take k) s d:Nat):Int)<((bv x.cls:Nat):Int) by omega)) (ai (show ((bv x.cls:Nat):Int)=((bp (l.take k) s d:Nat):Int) by omega) hap))) ?_;refine round (k+1,bp (l.take k) s d,dw (l.take k) s d++[x.id]) ⟨by simp only;omega,by simp only;rw[hts,rn ha,xct omq],by simp only;rw[hts,qaf ha g.symm],by simp only[vr,List.length_cons,List.length_nil];omega,hm⟩ zeo
   refine runW (ai hd0 (ai (vf (show ¬((bp (l.take k) s d:Nat):Int)<((bv x.cls:Nat):Int) by omega)) (vf (show ¬((bv x.cls:Nat):Int)=((bp (l.take k) s d:Nat):Int) by omega)))) ?_;refine round (k+1,bp (l.take k) s d,dw (l.take k) s d) ⟨by simp only;omega,by simp only;rw[hts,rn ha,xct omq],by simp only;rw[hts,qad ha g],by simp only;omega,hm⟩ zeo
 have hkl:k=l.length:=omq;subst hkl;rw[yk];exact zu
theorem fitR1{r:Rul}(h:r.Fit):jdb [r]:=⟨smq,fun x hx=>by simp at hx;subst hx;exact h⟩
theorem qzn{r:Rul}(h:goodR [r]=true):0<=r.yrs/\r.yrs<=200:=by
 have h0:(ia [r]).2=0:=by simpa [goodR] using h
 have h1:=(ky h0).2 0 smq;have hb:¬badR r:=fun hb=>by rw[jd (l:=[r]) (i:=0) rfl hb] at h1;cases h1
 refine⟨?_,?_⟩
 .rcases Int.lt_or_le r.yrs 0 with g|g
  .exact absurd ((gk r).2 (.inr (.inl g))) hb
  exact g
 rcases Int.lt_or_le 200 r.yrs with g|g
 .exact absurd ((gk r).2 (.inr (.inr (.inl g)))) hb
 exact g
theorem jvi(a b:Int):datB a b=jl a b:=by
 unfold datB jl;by_cases h1:0<=a<;>by_cases h2:a<=b<;>by_cases h3:b<=1048575<;>simp[h1,h2,h3]
theorem qdh{r:Rul}(h:¬(goodR [r]=true/\datB a b=true)):dueV r a b=.tup [vi 0,vi 1]:=by unfold dueV dueR;rw[vd h]
theorem qzw{r:Rul}(h:goodR [r]=true/\datB a b=true):dueV r a b=.tup [vi ((if r.yend=true then yearEndN (yearsN b.toNat r.yrs.toNat) else yearsN b.toNat r.yrs.toNat:Nat):Int),vi 0]:=by unfold dueV dueR;rw[ve h]
theorem qxn(L:LibC T)(r:Rul)(a b:Int)(hf:r.Fit):Den prog T 58 [.agg r.cs,datg a b] (dueV r a b):=by
 refine ab call58 func58 39 ?_;refine rc (jl3 L [r] (fitR1 hf)) ?_;by_cases g1:(ia [r]).2=0
 .have hg:goodR [r]=true:=by simp[goodR,g1]
  obtain⟨y1,y2⟩:=qzn hg;refine rc (jt8 a b) ?_;cases hd:jl a b
  .rw[qdh (by rw[jvi,hd];simp)];exact za
  rw[qzw ⟨hg,by rw[jvi,hd]⟩];have hdd:0<=a/\a<=b/\b<=1048575:=by simpa [jl] using hd
  have hY:=qoz (T:=T) b.toNat r.yrs.toNat omq omq;have eb:((b.toNat:Nat):Int)=b:=omq;have ey:((r.yrs.toNat:Nat):Int)=r.yrs:=omq;rw[eb,ey] at hY;refine rc hY ?_;have hY2:=qlz b.toNat r.yrs.toNat;obtain⟨v,ev⟩:∃v,yearsN b.toNat r.yrs.toNat=v:=⟨_,rfl⟩;rw[ev] at hY2 ⊢;cases he:r.yend
  .refine runW he ?_;exact fin rfl
  refine rcW he (qi4 v hY2) ?_;exact za
 have hg:goodR [r]=false:=by simp[goodR,g1]
 rw[qdh (by rw[hg];simp)];exact za
structure Lok where
 r:Rgs
 f:Fil
 d:Int
 rls:List Rul
 due:Int
 by':Int
abbrev Lok.cs(x:Lok):List V:=[ofcs x.r.ofs,bh x.r.pls,fils x.r.fls,ruls x.r.rls,hlds x.r.hls,clks x.r.cks,sels x.r.sls,prps x.r.pps,apvs x.r.aps,crts x.r.crs,deps x.r.dps,vi x.r.chg,
 vi x.f.id,vi x.f.ofc,vi x.f.opn,vi x.f.cld,.str x.f.cls,.str x.f.title,vi x.f.pts,ntss x.f.nts,vi x.d,ruls x.rls,vi x.due,vi x.by']
theorem qod(q:Rul):Den prog T 70 [.agg q.cs] (vb (jy q)):=by
 refine ab call70 func70 6 ?_;exact za
theorem qf6(q:Rul):Den prog T 76 [.agg q.cs] (vb (ni q)):=by
 refine ab call76 func76 6 ?_;exact za
theorem quv(l:List Int)(x:Int):(l.any fun y=>decide (x=y))=l.any fun n=>decide (n=x):=by
 congr 1
 funext y
 by_cases h:x=y
 .subst h;rfl
 rw[vw h,vw (fun e=>h e.symm)]
theorem jk2(x:Lok)(day:Int)(l:List Int)(hl:l.length<=1048576):Den prog T 155 [.agg x.cs,vi day,ints l] (vb (cu x.d x.f day l)):=by
 refine ab call155 func155 18 ?_;unfold cu;by_cases h:day<=x.d
 .refine rc (jbk l x.f.id hl) ?_;rw[quv];refine run ?_;exact z6
 refine run ?_;exact z6
theorem qol(l:List Crt)(f:FuncId)(cap:List V)(p:Crt->Bool)(hl:l.length<=1048576)(hp:∀e∈l,Den prog T f (.agg e.cs::cap) (vb (p e))):
   Den prog T 216 [crts l,.func f cap] (vi (ix p l)):=by
  refine ab call216 func216 19 ?_;exact ixPf
theorem jl0(l:List Crt)(f:FuncId)(cap:List V)(p:Crt->Bool)(hl:l.length<=1048576)(hp:∀e∈l,Den prog T f (.agg e.cs::cap) (vb (p e))):
   Den prog T 153 [crts l,.func f cap] (vb (l.any p)):=by
  refine ab call153 func153 9 ?_;refine rc (qol l f cap p hl hp) ?_;exact zbs
theorem qok(l:List Dep)(f:FuncId)(cap:List V)(p:Dep->Bool)(hl:l.length<=1048576)(hp:∀e∈l,Den prog T f (.agg e.cs::cap) (vb (p e))):
   Den prog T 217 [deps l,.func f cap] (vi (ix p l)):=by
  refine ab call217 func217 19 ?_;exact ixPf
theorem jkz(l:List Dep)(f:FuncId)(cap:List V)(p:Dep->Bool)(hl:l.length<=1048576)(hp:∀e∈l,Den prog T f (.agg e.cs::cap) (vb (p e))):
   Den prog T 156 [deps l,.func f cap] (vb (l.any p)):=by
  refine ab call156 func156 9 ?_;refine rc (qok l f cap p hl hp) ?_;exact zbs
theorem qoe(l:List Sel)(f:FuncId)(cap:List V)(p:Sel->Bool)(hl:l.length<=1048576)(hp:∀e∈l,Den prog T f (.agg e.cs::cap) (vb (p e))):
   Den prog T 222 [sels l,.func f cap] (vi (ix p l)):=by
  refine ab call222 func222 19 ?_;exact ixPf
theorem qks(l:List Sel)(f:FuncId)(cap:List V)(p:Sel->Bool)(hl:l.length<=1048576)(hp:∀e∈l,Den prog T f (.agg e.cs::cap) (vb (p e))):
   Den prog T 159 [sels l,.func f cap] (vb (l.any p)):=by
  refine ab call159 func159 9 ?_;refine rc (qoe l f cap p hl hp) ?_;exact zbs
theorem qex(x:Lok)(c:Crt)(hc:c.fls.length<=1048576):Den prog T 154 [.agg c.cs,.row x.cs] (vb (cu x.d x.f c.day c.fls)):=by
 refine ab call154 func154 10 ?_;refine rc (jk2 x c.day c.fls hc) ?_;exact za
theorem qk7(x:Lok)(c:Dep):Den prog T 157 [.agg c.cs,.row x.cs] (vb (cu x.d x.f c.day [c.fil])):=by
 refine ab call157 func157 11 ?_;refine rc (jk2 x c.day [c.fil] smq) ?_;exact za
theorem qf8(x:Lok)(c:Sel)(hc:c.fls.length<=1048576):Den prog T 160 [.agg c.cs,.row x.cs] (vb (cu x.d x.f c.day c.fls)):=by
 refine ab call160 func160 10 ?_;refine rc (jk2 x c.day c.fls hc) ?_;exact za
theorem qew(x:Lok)(h:x.r.Fit):Den prog T 68 [.agg x.cs] (vb (gone1 x.r x.f x.d)):=by
 refine ab call68 func68 8 ?_;refine rc (jl0 x.r.crs _ _ (fun c=>cu x.d x.f c.day c.fls) h.crs.1 fun c hc=>qex x c (h.crs.2 c hc).1) ?_;exact za
theorem qk6(x:Lok)(h:x.r.Fit):Den prog T 69 [.agg x.cs] (vb (gone2 x.r x.f x.d)):=by
 refine ab call69 func69 8 ?_;refine rc (jkz x.r.dps _ _ (fun c=>cu x.d x.f c.day [c.fil]) h.dps fun c _=>qk7 x c) ?_;exact za
theorem qf7(x:Lok)(h:x.r.Fit):Den prog T 77 [.agg x.cs] (vb (selB x.r x.f x.d)):=by
 refine ab call77 func77 8 ?_;refine rc (qks x.r.sls _ _ (fun s=>cu x.d x.f s.day s.fls) h.sls.1 fun c hc=>qf8 x c (h.sls.2 c hc)) ?_;exact za
theorem qv2{l m:List V}(h:Wks l m)(ho:(m.all fun v=>v.one)=true):Wk (.agg l) (.agg m):=.agg h.len (fun c hc=>xi.1 ho c hc) fun j v u e1 e2=>by
 obtain⟨v',h1,h2⟩:=h.get e2;rw[e1] at h1;cases h1;exact h2
def jb1(r:Rgs)(f:Fil)(d:Int):Lok:=⟨r,f,d,au r f d,(fq f d (au r f d) (-1,0)).1,(fq f d (au r f d) (-1,0)).2⟩
abbrev lokZ:List V:=[.val (.slice none 0 0),.val (.slice none 0 0),.val (.slice none 0 0),.val (.slice none 0 0),.val (.slice none 0 0),.val (.slice none 0 0),.val (.slice none 0 0),.val (.slice none 0 0),.val (.slice none 0 0),.val (.slice none 0 0),.val (.slice none 0 0),vi 0,
 vi 0,vi 0,vi 0,vi 0,.str [],.str [],vi 0,.val (.slice none 0 0),vi 0,.val (.slice none 0 0),vi 0,vi 0]
theorem qqv(f:Fil)(d:Int)(x:Int×Int)(q:Rul)(h:trig f q.trg d=some (a,b)):
  (dueR q a b=none/\na f d x q=x)\/∃t,dueR q a b=some t/\((x.1<t/\na f d x q=(t,q.id))\/(¬x.1<t/\na f d x q=x)):=by
 have hd:=qsf h;cases hr:dueR q a b with
 |none=>exact .inl ⟨rfl,jud (hd.trans hr)⟩
 |some t=>
  refine .inr ⟨t,rfl,?_⟩;by_cases hx:x.1<t
  .exact .inl ⟨hx,qqw (hd.trans hr) hx⟩
  exact .inr ⟨hx,qqx (hd.trans hr) hx⟩
abbrev gr73:List Gent:=gd 14 [[0,0,0],[1,2,0],[5,4,0],[21,6,0],[85,1,2,3,0,5,1],[93,1,3,5,4],[117,1,1,3,3,7,4],[87,3,1,5,0],[119,3,3,7,5],[95,5,2,0,0,0],[125,1,1,7,2],[245,1,2,3,1],[127,7,2,0,0,0],[253,8,2],[247,3,0,0,0,0],[255,8,2],[509,1,1,9,0],[1021,1,1,10,2],[511,9,0,0,0,0],[1023,10,1,0,0,0],[2045,1,0,0,0,0],[2047,11,0,0,0,0],[4095,12,0],[8191,13,0,0,0,0],[16383]]
theorem qhx(L:LibC T)(r:Rgs)(f:Fil)(d:Int)(hr:r.Fit)(hf:f.Fit)(hg:goodR r.rls=true):Den prog T 32 [.agg r.cs,.agg f.cs,vi d] (.agg (jb1 r f d).cs):=by
 have hl0:=hr.rls.1;have hcl:=jl6 hr.pls hf d;refine ab call32 func32 95 ?_;refine rc (jmc L r.pls f d hr.pls hf) ?_;by_cases hz:(bd r.pls f d).2=0
 .refine runW hz ?_;refine jsj (qpa L r.rls (bd r.pls f d).1 d hr.rls hcl) ?_;rw[qiz hz];have hlen:=juk r f d;have hmem:∀q∈au r f d,q∈r.rls:=fun q h=>juj h;unfold jb1;obtain⟨rs,hrs⟩:∃rs,au r f d=rs:=⟨_,rfl⟩;rw[hrs] at hlen hmem ⊢;refine run ?_
  refine loop ⟨[2,3,4,6,7,37,38,39],[3,4,6,7],[8000000021],[(8000000021,118,8)]⟩ (fun k:Nat=>k<=rs.length) (fun k=>rs.length-k)
   (fun k=>⟨95,[(2,.v (vi d)),(3,.p 3 0),(4,.p 4 0),(6,.p 6 0),(7,.p 7 0),(37,.v (.slice 1 (List.map Cint (List.map (fun x=>x.id) rs)))),(38,.v (vi rs.length)),(39,.v (vi k))],
    [(3,.var r.cs),(4,.var f.cs),(6,.var lokZ),(7,.var (Lok.cs ⟨r,f,d,rs.take k,-1,0⟩))],[(118,[8000000021])]⟩) 0 (vj _) ?_
  intro k hk;by_cases hlt:k<rs.length
  .obtain⟨x,hx,-,hm⟩:=af hlt;obtain⟨i,hi,hxi,hfi⟩:=qnk hg (hmem x hm);have hts:(rs.take k).map Rul.cs++[x.cs]=(rs.take (k+1)).map Rul.cs:=by rw[jkc hx];simp
   refine runD hx ?_;refine aq gr73 ?_
   refine tz (fun _:Unit=>True) ⟨[2,3,4,6,7,37,38,39],[3,4,6,7],[8000000021],[]⟩ (fun _=>⟨95,[(2,.v (vi d)),(3,.p 3 0),(4,.p 4 0),(6,.p 6 0),(7,.p 7 0),(37,.v (.slice 1 (List.map Cint (List.map (fun x=>x.id) rs)))),(38,.v (vi rs.length)),(39,.v (vi k))],
    [(3,.var r.cs),(4,.var f.cs),(6,.var lokZ),(7,.var (Lok.cs ⟨r,f,d,rs.take (k+1),-1,0⟩))],[(118,[8000000021])]⟩) (fun st st' hk h=>fj _ hk h) (fun _ _=>?_) (fun K' hK=>?_)
   .exact zdf
   refine ax hx ?_
   try simp only[xa]
   repeat' (with_reducible refine ai ?_ ?_)
   all_goals
    refine call (jxt r.rls x.id hl0) ?_;rw[hfi];refine ax (ai hxi hts) ?_
    try simp only[xg,xa,vz]
    repeat' (with_reducible refine ai ?_ ?_)
    all_goals exact rg hK () trivial
  have hkl:k=rs.length:=omq;subst hkl;rw[yk];refine run ?_
  refine loop ⟨[2,4,6,7,58,59,60],[4,6,7],[],[]⟩ (fun k:Nat=>k<=rs.length) (fun k=>rs.length-k)
   (fun k=>⟨95,[(2,.v (vi d)),(4,.p 4 0),(6,.p 6 0),(7,.p 7 0),(58,.v (ruls rs)),(59,.v (vi rs.length)),(60,.v (vi k))],
    [(4,.var f.cs),(6,.var lokZ),(7,.var (Lok.cs ⟨r,f,d,rs,(fq f d (rs.take k) (-1,0)).1,(fq f d (rs.take k) (-1,0)).2⟩))],[]⟩) 0 (vj _) ?_
  intro k hk;by_cases hlt:k<rs.length
  .obtain⟨x,hx,-,hm⟩:=af hlt;have hfx:=hr.rls.2 x (hmem x hm);have hsn:=qjk f d (-1,0) hx;obtain⟨y,hy⟩:∃y,fq f d (rs.take k) (-1,0)=y:=⟨_,rfl⟩;rw[hy] at hsn ⊢;have hS:∀z,na f d y x=z->(fq f d (rs.take (k+1)) (-1,0))=z:=fun z hz=>by rw[hsn,hz]
   refine rcW hx (jtx f x.trg d hf) ?_;cases ht:trig f x.trg d with
   |none=>
    rw[qy,ht];have hS':=hS y (jud (qx5 ht));refine runW hx ?_;exact zcm
   |some t=>
    obtain⟨a,b⟩:=t;rw[qy,ht];refine rcW hx (qxn L x a b hfx) ?_;rcases qqv f d y x ht with⟨h1,h2⟩|⟨t,h1,⟨h2,h3⟩|⟨h2,h3⟩⟩
    .have hS':=hS y h2;rw[dueV,h1];refine runW hx ?_;exact zcm
    .have hS':=hS _ h3;rw[dueV,h1];refine runD (ai hx (vg h2)) ?_;refine jfa (.one 0 (.one 1 (.one 3 (.alt 2 (.alt 4 (.one 5 (.alt 6 .done .nil)) .nil) (.alt 4 (.alt 2 (.one 5 (.alt 6 .done .nil)) .nil) .nil))))) ?_;refine jf0 hx ?_;refine run ?_;exact zcm
    have hS':=hS y h3;rw[dueV,h1];refine runW (ai hx (vf h2)) ?_;exact zcm
  have hkl:k=rs.length:=omq;subst hkl;rw[yk];exact za
 rw[jb1,qj0 hz];refine runW hz ?_;refine finW (qv2 ?_ rfl)
 repeat (first|exact .nil|refine .cons (.refl _) ?_|refine .cons (.nil _) ?_)
theorem qkt(l:List Rul)(f:FuncId)(cap:List V)(p:Rul->Bool)(hl:l.length<=1048576)(hp:∀e∈l,Den prog T f (.agg e.cs::cap) (vb (p e))):
   Den prog T 75 [ruls l,.func f cap] (vb (l.any p)):=by
  refine ab call75 func75 9 ?_;refine rc (jm8 l f cap p hl hp) ?_;exact zbs
def firR(o:Option Rul):Int:=match o with|some q=>q.id|none=>0
theorem qor(x:Lok)(h:FuncId)(cap:List V)(p:Rul->Bool)(hl:x.rls.length<=1048576)(hp:∀q∈x.rls,Den prog T h (.agg q.cs::cap) (vb (p q))):
  Den prog T 63 [.agg x.cs,.func h cap] (.tup [vi (firR (x.rls.find? p)),vb (x.rls.find? p).isSome]):=by
 refine ab call63 func63 19 ?_;refine rc (jm8 x.rls h cap p hl hp) ?_;rcases ee p x.rls with⟨h1,h2⟩|⟨k,q,h1,hk,h3,-,h2⟩
 .rw[h1,h2];exact za
 rw[h1,h2];refine runW h3 ?_;exact fin rfl
abbrev pvV(b:Nat):V:=.val (.pointer (some ⟨b,0,none⟩))
theorem jer(k:Int)(is:Bool)(b:Nat):Den prog T 59 [vi k,vb is,pvV b] (.func 60 [.row [vi k],pvV b,.row [vb is]]):=by
 refine ab call59 func59 7 ?_;exact za
theorem jxk(x:Lok)(k:Int)(h:FuncId)(cap:List V)(b:Nat):Den prog T 61 [vi k,.func h cap,.row x.cs,pvV b] (.func 62 [.row x.cs,.row [.func h cap],.row [vi k],pvV b]):=by
 refine ab call61 func61 8 ?_;exact za
theorem qnu(x:Lok)(q:Rul)(hf:x.f.Fit):Den prog T 64 [.agg q.cs,.row x.cs] (vb (dn x.f x.d q)):=by
 refine ab call64 func64 18 ?_;refine rc (jtx x.f q.trg x.d hf) ?_;unfold dn;cases h:trig x.f q.trg x.d with
 |none=>
  rw[qy,h];exact za
 |some t=>
  rw[qy,h];exact za
theorem jhj(x:Lok)(k:Int)(h:FuncId)(cap:List V)(b:Nat):Den prog T 65 [vi k,.func h cap,.row x.cs,pvV b] (.func 66 [.row [vi k],.row x.cs,pvV b,.row [.func h cap]]):=by
 refine ab call65 func65 8 ?_;exact za
abbrev vcs(k f d r u:Int)(h:V):List V:=[vi k,vi f,vi d,vi r,vi u,h]
abbrev vBlk(k f d r u:Int)(h:V)(b:Nat):List (Nat×Blk):=[(999000,.var (vcs k f d r u h) (some b))]
theorem je8(k k0 f d r u:Int)(h:V)(is:Bool)(b:Nat):DenS prog T 60 (vBlk k0 f d r u h b) [] [.v (.row [vi k]),.p 999000 0,.v (.row [vb is])] (vBlk k f d r u h b) [] (.v (vb is)):=by
 refine bx follows (fun args w=>call60 args w) func60 rfl 7 rfl rfl ?_;exact zdt
theorem jva(x:Lok)(g:FuncId)(cap:List V)(p:Rul->Bool)(hl:x.rls.length<=1048576)(hp:∀q∈x.rls,Den prog T g (.agg q.cs::cap) (vb (p q)))(k k0 f d r u:Int)(h:V)(b:Nat):
  DenS prog T 62 (vBlk k0 f d r u h b) [] [.v (.row x.cs),.v (.row [.func g cap]),.v (.row [vi k]),.p 999000 0] (vBlk k f d (firR (x.rls.find? p)) u h b) [] (.v (vb (x.rls.find? p).isSome)):=by
 refine bx follows (fun args w=>call62 args w) func62 rfl 18 rfl rfl ?_;refine rc (qor x g cap p hl hp) ?_;exact zdt
theorem jkv(x:Lok)(g:FuncId)(cap:List V)(is:Bool)(hp:Den prog T g cap (vb is))(k k0 f d r u:Int)(h:V)(b:Nat):
  DenS prog T 66 (vBlk k0 f d r u h b) [] [.v (.row [vi k]),.v (.row x.cs),.p 999000 0,.v (.row [.func g cap])] (vBlk k f d x.by' x.due h b) [] (.v (vb is)):=by
 refine bx follows (fun args w=>call66 args w) func66 rfl 15 rfl rfl ?_;refine runD trivial ?_;refine jfa ((.one 1 (.one 3 (.alt 0 (.one 5 (.alt 2 (.alt 4 (.alt 6 (.one 7 (.alt 8 (.one 9 (.alt 10 .done .nil)) .nil)) .nil) (.alt 6 (.one 7 (.alt 4 (.alt 8 (.one 9 (.alt 10 .done .nil)) .nil) (.alt 8 (.alt 4 (.one 9 (.alt 10 .done .nil)) .nil) .nil))) .nil)) (.alt 4 (.alt 2 (.alt 6 (.one 7 (.alt 8 (.one 9 (.alt 10 .done .nil)) .nil)) .nil) (.alt 6 (.alt 2 (.one 7 (.alt 8 (.one 9 (.alt 10 .done .nil)) .nil)) .nil) .nil)) (.alt 6 (.alt 2 (.one 7 (.alt 4 (.alt 8 (.one 9 (.alt 10 .done .nil)) .nil) (.alt 8 (.alt 4 (.one 9 (.alt 10 .done .nil)) .nil) .nil))) (.alt 4 (.alt 2 (.one 7 (.alt 8 (.one 9 (.alt 10 .done .nil)) .nil)) .nil) .nil)) .nil)))) (.alt 2 (.alt 0 (.one 5 (.alt 4 (.alt 6 (.one 7 (.alt 8 (.one 9 (.alt 10 .done .nil)) .nil)) .nil) (.alt 6 (.one 7 (.alt 4 (.alt 8 (.one 9 (.alt 10 .done .nil)) .nil) (.alt 8 (.alt 4 (.one 9 (.alt 10 .done .nil)) .nil) .nil))) .nil))) (.alt 4 (.alt 0 (.one 5 (.alt 6 (.one 7 (.alt 8 (.one 9 (.alt 10 .done .nil)) .nil)) .nil)) .nil) .nil)) (.alt 4 (.alt 0 (.one 5 (.alt 2 (.alt 6 (.one 7 (.alt 8 (.one 9 (.alt 10 .done .nil)) .nil)) .nil) (.alt 6 (.alt 2 (.one 7 (.alt 8 (.one 9 (.alt 10 .done .nil)) .nil)) .nil) .nil))) (.alt 2 (.alt 0 (.one 5 (.alt 6 (.one 7 (.alt 8 (.one 9 (.alt 10 .done .nil)) .nil)) .nil)) .nil) .nil)) .nil)))))) ?_;refine jf0 trivial ?_;refine rc hp ?_;exact zdt
theorem qsr(x:Lok):Den prog T 71 [.row x.cs] (vb (decide (x.d<=x.due))):=by
 refine ab call71 func71 7 ?_;exact za
theorem qo5(x:Lok)(hr:x.r.Fit)(hl:x.rls.length<=1048576):Den prog T 74 [.row x.cs] (vb (x.rls.any ni || selB x.r x.f x.d)):=by
 refine ab call74 func74 9 ?_;refine rc (qkt x.rls _ [] ni hl fun q _=>qf6 q) ?_;cases h:x.rls.any ni
 .refine rc (qf7 x hr) ?_;exact za
 exact za
theorem qx6:Den prog T 78 [] (vb true):=by
 refine ab call78 func78 1 ?_;exact za
theorem qss(L:LibC T)(x:Lok)(hr:x.r.Fit)(hf:x.f.Fit)(k f d r u:Int)(h:V)(b:Nat):
  DenS prog T 72 (vBlk k f d r u h b) [] [.v (.row x.cs),.p 999000 0] (vBlk k f d r u (ints (bf x.r.ofs x.r.pls x.r.hls x.f x.d)) b) [] (.v (vb (decide (bf x.r.ofs x.r.pls x.r.hls x.f x.d≠[])))):=by
 refine bx follows (fun args w=>call72 args w) func72 rfl 22 rfl rfl ?_;refine rc (qi9 L x.r.ofs x.r.pls x.r.hls x.f x.d hr.ofs hr.pls hr.hls hf).den ?_;refine run ?_;refine kf (.v (.of (ah ?_)));cases bf x.r.ofs x.r.pls x.r.hls x.f x.d with
 |nil=>rfl
 |cons a l=>simp
theorem qjx(L:LibC T)(x:Lok)(hr:x.r.Fit)(hf:x.f.Fit)(k k0 f d r u:Int)(h:V)(b:Nat):
  DenS prog T 66 (vBlk k0 f d r u h b) [] [.v (.row [vi k]),.v (.row x.cs),.p 999000 0,.v (.row [.func 72 [.row x.cs,pvV b]])] (vBlk k f d x.by' x.due (ints (bf x.r.ofs x.r.pls x.r.hls x.f x.d)) b) [] (.v (vb (decide (bf x.r.ofs x.r.pls x.r.hls x.f x.d≠[])))):=by
 refine bx follows (fun args w=>call66 args w) func66 rfl 15 rfl rfl ?_;refine runD trivial ?_;refine jfa ((.one 1 (.one 3 (.alt 0 (.one 5 (.alt 2 (.alt 4 (.alt 6 (.one 7 (.alt 8 (.one 9 (.alt 10 .done .nil)) .nil)) .nil) (.alt 6 (.one 7 (.alt 4 (.alt 8 (.one 9 (.alt 10 .done .nil)) .nil) (.alt 8 (.alt 4 (.one 9 (.alt 10 .done .nil)) .nil) .nil))) .nil)) (.alt 4 (.alt 2 (.alt 6 (.one 7 (.alt 8 (.one 9 (.alt 10 .done .nil)) .nil)) .nil) (.alt 6 (.alt 2 (.one 7 (.alt 8 (.one 9 (.alt 10 .done .nil)) .nil)) .nil) .nil)) (.alt 6 (.alt 2 (.one 7 (.alt 4 (.alt 8 (.one 9 (.alt 10 .done .nil)) .nil) (.alt 8 (.alt 4 (.one 9 (.alt 10 .done .nil)) .nil) .nil))) (.alt 4 (.alt 2 (.one 7 (.alt 8 (.one 9 (.alt 10 .done .nil)) .nil)) .nil) .nil)) .nil)))) (.alt 2 (.alt 0 (.one 5 (.alt 4 (.alt 6 (.one 7 (.alt 8 (.one 9 (.alt 10 .done .nil)) .nil)) .nil) (.alt 6 (.one 7 (.alt 4 (.alt 8 (.one 9 (.alt 10 .done .nil)) .nil) (.alt 8 (.alt 4 (.one 9 (.alt 10 .done .nil)) .nil) .nil))) .nil))) (.alt 4 (.alt 0 (.one 5 (.alt 6 (.one 7 (.alt 8 (.one 9 (.alt 10 .done .nil)) .nil)) .nil)) .nil) .nil)) (.alt 4 (.alt 0 (.one 5 (.alt 2 (.alt 6 (.one 7 (.alt 8 (.one 9 (.alt 10 .done .nil)) .nil)) .nil) (.alt 6 (.alt 2 (.one 7 (.alt 8 (.one 9 (.alt 10 .done .nil)) .nil)) .nil) .nil))) (.alt 2 (.alt 0 (.one 5 (.alt 6 (.one 7 (.alt 8 (.one 9 (.alt 10 .done .nil)) .nil)) .nil)) .nil) .nil)) .nil)))))) ?_;refine jf0 trivial ?_;refine run ?_;refine fg (gh [(999000,999000)] (qss L x hr hf k f d x.by' x.due h b) (.cons (.v _) (.cons (.pn rfl rfl) .nil)) ?_ ?_)
 .exact zg
 exact zdt
def vdtB(f d:Int)(b0 b1 b2 b3 b4 b5 b6 b7 b8 b9:Bool)(r5 r6 y u:Int)(hs:List Int):Vdt:=
 if b0=true then ⟨0,f,d,0,0,[]⟩ else if b1=true then ⟨1,f,d,0,0,[]⟩ else if b2=true then ⟨2,f,d,0,0,[]⟩ else if b3=true then ⟨0,f,d,0,0,[]⟩ else if b4=true then ⟨3,f,d,0,0,[]⟩ else
 if b5=true then ⟨4,f,d,r5,0,[]⟩ else if b6=true then ⟨5,f,d,r6,0,[]⟩ else if b7=true then ⟨6,f,d,y,u,[]⟩ else if b8=true then ⟨7,f,d,y,u,hs⟩ else if b9=true then ⟨9,f,d,y,u,[]⟩ else ⟨8,f,d,y,u,[]⟩
def vdtL(x:Lok):Vdt:=vdtB x.f.id x.d (decide (state x.f x.d=0)) (gone1 x.r x.f x.d) (gone2 x.r x.f x.d) (decide ((x.rls.length:Int)=0)) (decide (state x.f x.d=1)) (x.rls.find? jy).isSome (x.rls.find? (dn x.f x.d)).isSome (decide (x.d<=x.due))
 (decide (bf x.r.ofs x.r.pls x.r.hls x.f x.d≠[])) (x.rls.any ni || selB x.r x.f x.d) (firR (x.rls.find? jy)) (firR (x.rls.find? (dn x.f x.d))) x.by' x.due (bf x.r.ofs x.r.pls x.r.hls x.f x.d)
theorem vdt_L(r:Rgs)(f:Fil)(d:Int):vdtL (jb1 r f d)=vdt r f d:=by
 have e:∀l:List Rul,decide ((l.length:Int)=0)=decide (l=[]):=fun l=>by cases l<;>simp;omega
 unfold vdtL vdt vdtB jb1;simp only[e,vq,xbx];split
 .rfl
 split
 .rfl
 split
 .rfl
 split
 .rfl
 split
 .rfl
 cases (au r f d).find? jy with
 |some q=>rfl
 |none=>
  cases (au r f d).find? (dn f d) with
  |some q=>rfl
  |none=>rfl
theorem sm(k f d r u:Int):Wk (.agg (vcs k f d r u (.val (.slice none 0 0)))) (.agg (Vdt.cs ⟨k,f,d,r,u,[]⟩)):=by
 refine .agg rfl (fun c hc=>?_) fun j v w hv hw=>?_
 .simp only[vt,yl,xx] at hc;rcases hc with rfl|rfl|rfl|rfl|rfl|rfl<;>rfl
 rcases j with _|_|_|_|_|_|j
 .exact zb1
 .exact zb1
 .exact zb1
 .exact zb1
 .exact zb1
 .simp at hv hw;subst hv hw;exact .nil 1
 simp at hv
def qe0(x:Lok)(b:Nat)(b0 b1 b2 b3 b4:Bool):List (List V):=[[.func 60 [.row [vi 0],pvV b,.row [vb b0]]],
 [.func 60 [.row [vi 1],pvV b,.row [vb b1]]],
 [.func 60 [.row [vi 2],pvV b,.row [vb b2]]],
 [.func 60 [.row [vi 0],pvV b,.row [vb b3]]],
 [.func 60 [.row [vi 3],pvV b,.row [vb b4]]],
 [.func 62 [.row x.cs,.row [.func 70 []],.row [vi 4],pvV b]],
 [.func 62 [.row x.cs,.row [.func 64 [.row x.cs]],.row [vi 5],pvV b]],
 [.func 66 [.row [vi 6],.row x.cs,pvV b,.row [.func 71 [.row x.cs]]]],
 [.func 66 [.row [vi 7],.row x.cs,pvV b,.row [.func 72 [.row x.cs,pvV b]]]],
 [.func 66 [.row [vi 9],.row x.cs,pvV b,.row [.func 74 [.row x.cs]]]],
 [.func 66 [.row [vi 8],.row x.cs,pvV b,.row [.func 78 []]]]]
def bAt(b0 b1 b2 b3 b4 b5 b6 b7 b8 b9:Bool):Nat->Bool
 |0=>b0
 |1=>b1
 |2=>b2
 |3=>b3
 |4=>b4
 |5=>b5
 |6=>b6
 |7=>b7
 |8=>b8
 |9=>b9
 |_=>true
def vAt(f d r5 r6 y u:Int)(hs:List Int):Nat->List V
 |0=>vcs 0 f d 0 0 (.val (.slice none 0 0))
 |1=>vcs 0 f d 0 0 (.val (.slice none 0 0))
 |2=>vcs 1 f d 0 0 (.val (.slice none 0 0))
 |3=>vcs 2 f d 0 0 (.val (.slice none 0 0))
 |4=>vcs 0 f d 0 0 (.val (.slice none 0 0))
 |5=>vcs 3 f d 0 0 (.val (.slice none 0 0))
 |6=>vcs 4 f d r5 0 (.val (.slice none 0 0))
 |7=>vcs 5 f d r6 0 (.val (.slice none 0 0))
 |8=>vcs 6 f d y u (.val (.slice none 0 0))
 |9=>vcs 7 f d y u (ints hs)
 |10=>vcs 9 f d y u (ints hs)
 |_=>vcs 8 f d y u (ints hs)
theorem qv7(f d r5 r6 y u:Int)(hs:List Int):∀k,∃k1 k2 k3 k4 k5 k6,vAt f d r5 r6 y u hs k=[k1,k2,k3,k4,k5,k6]
 |0=>⟨_,_,_,_,_,_,rfl⟩
 |1=>⟨_,_,_,_,_,_,rfl⟩
 |2=>⟨_,_,_,_,_,_,rfl⟩
 |3=>⟨_,_,_,_,_,_,rfl⟩
 |4=>⟨_,_,_,_,_,_,rfl⟩
 |5=>⟨_,_,_,_,_,_,rfl⟩
 |6=>⟨_,_,_,_,_,_,rfl⟩
 |7=>⟨_,_,_,_,_,_,rfl⟩
 |8=>⟨_,_,_,_,_,_,rfl⟩
 |9=>⟨_,_,_,_,_,_,rfl⟩
 |10=>⟨_,_,_,_,_,_,rfl⟩
 |_+11=>⟨_,_,_,_,_,_,rfl⟩
def RowD(T:Lay)(b:Nat)(v:Nat->List V)(bs:Nat->Bool)(rows:List (List V))(k:Nat):Prop:=
 ∃g cap ts,rows[k]?=some [.func g cap]/\DenS prog T g [(999000,.var (v k) (some b))] [] ts [(999000,.var (v (k+1)) (some b))] [] (.v (vb (bs k)))/\∀h:List (Nat×Blk),nmOf (Go.Ab.look 3 h)=some b->ArgsM [(999000,3)] h ts (cap.map .v)
theorem qws(f d:Int)(b0 b1 b2 b3 b4 b5 b6 b7 b9:Bool)(r5 r6 y u:Int)(hs:List Int)(b8:Bool)(hb8:b8=decide (hs≠[]))(h5:b5=false->r5=0):
  ∀k,k<11->(∀j,j<k->bAt b0 b1 b2 b3 b4 b5 b6 b7 b8 b9 j=false)->bAt b0 b1 b2 b3 b4 b5 b6 b7 b8 b9 k=true->Wk (.agg (vAt f d r5 r6 y u hs (k+1))) (.agg (vdtB f d b0 b1 b2 b3 b4 b5 b6 b7 b8 b9 r5 r6 y u hs).cs):=by
 intro k hk hall hb;have g0:0<k->b0=false:=fun h=>hall 0 h;have g1:1<k->b1=false:=fun h=>hall 1 h;have g2:2<k->b2=false:=fun h=>hall 2 h;have g3:3<k->b3=false:=fun h=>hall 3 h;have g4:4<k->b4=false:=fun h=>hall 4 h;have g5:5<k->b5=false:=fun h=>hall 5 h;have g6:6<k->b6=false:=fun h=>hall 6 h;have g7:7<k->b7=false:=fun h=>hall 7 h;have g8:8<k->b8=false:=fun h=>hall 8 h;have g9:9<k->b9=false:=fun h=>hall 9 h
 match k,hk with
 |0,_=>have hb:b0=true:=hb;subst hb;exact sm _ _ _ _ _
 |1,_=>rw[g0 omq];have hb:b1=true:=hb;subst hb;exact sm _ _ _ _ _
 |2,_=>rw[g0 omq,g1 omq];have hb:b2=true:=hb;subst hb;exact sm _ _ _ _ _
 |3,_=>rw[g0 omq,g1 omq,g2 omq];have hb:b3=true:=hb;subst hb;exact sm _ _ _ _ _
 |4,_=>rw[g0 omq,g1 omq,g2 omq,g3 omq];have hb:b4=true:=hb;subst hb;exact sm _ _ _ _ _
 |5,_=>rw[g0 omq,g1 omq,g2 omq,g3 omq,g4 omq];have hb:b5=true:=hb;subst hb;exact sm _ _ _ _ _
 |6,_=>rw[g0 omq,g1 omq,g2 omq,g3 omq,g4 omq,g5 omq];have hb:b6=true:=hb;subst hb;exact sm _ _ _ _ _
 |7,_=>rw[g0 omq,g1 omq,g2 omq,g3 omq,g4 omq,g5 omq,g6 omq];have hb:b7=true:=hb;subst hb;exact sm _ _ _ _ _
 |8,_=>rw[g0 omq,g1 omq,g2 omq,g3 omq,g4 omq,g5 omq,g6 omq,g7 omq];have hb:b8=true:=hb;rw[hb];exact .refl _
 |9,_=>
  have g8':=g8 omq;have he:hs=[]:=by rw[g8'] at hb8;simpa using hb8.symm
  rw[g0 omq,g1 omq,g2 omq,g3 omq,g4 omq,g5 omq,g6 omq,g7 omq,g8'];have hb:b9=true:=hb;rw[hb,he];exact .refl _
 |10,_=>
  have g8':=g8 omq;have he:hs=[]:=by rw[g8'] at hb8;simpa using hb8.symm
  rw[g0 omq,g1 omq,g2 omq,g3 omq,g4 omq,g5 omq,g6 omq,g7 omq,g8',g9 omq,he];exact .refl _
theorem qkn(L:LibC T)(x:Lok)(hr:x.r.Fit)(hf:x.f.Fit)(hl:x.rls.length<=1048576):Den prog T 33 [.agg x.cs] (.agg (vdtL x).cs):=by
 have hc1:=qew (T:=T) x hr;have hc2:=qk6 (T:=T) x hr;have hc5:=fun(k k0 f d r u:Int) (h:V) (b:Nat)=>jva (T:=T) x 70 [] jy hl (fun q _=>qod q) k k0 f d r u h b;have hc6:=fun(k k0 f d r u:Int) (h:V) (b:Nat)=>jva (T:=T) x 64 [.row x.cs] (dn x.f x.d) hl (fun q _=>qnu x q hf) k k0 f d r u h b;have hc7:=fun(k k0 f d r u:Int) (h:V) (b:Nat)=>jkv (T:=T) x _ _ _ (qsr x) k k0 f d r u h b;have hc8:=fun(k k0 f d r u:Int) (h:V) (b:Nat)=>qjx (T:=T) L x hr hf k k0 f d r u h b;have hc9:=fun(k k0 f d r u:Int) (h:V) (b:Nat)=>jkv (T:=T) x _ _ _ (qo5 x hr hl) k k0 f d r u h b;have hc10:=fun(k k0 f d r u:Int) (h:V) (b:Nat)=>jkv (T:=T) x _ _ _ qx6 k k0 f d r u h b;unfold vdtL;obtain⟨b0,h0⟩:∃b,decide (state x.f x.d=0)=b:=⟨_,rfl⟩;obtain⟨b1,h1⟩:∃b,gone1 x.r x.f x.d=b:=⟨_,rfl⟩;obtain⟨b2,h2⟩:∃b,gone2 x.r x.f x.d=b:=⟨_,rfl⟩;obtain⟨b3,h3⟩:∃b,decide ((x.rls.length:Int)=0)=b:=⟨_,rfl⟩;obtain⟨b4,h4⟩:∃b,decide (state x.f x.d=1)=b:=⟨_,rfl⟩;obtain⟨o5,h5⟩:∃b,x.rls.find? jy=b:=⟨_,rfl⟩;obtain⟨o6,h6⟩:∃b,x.rls.find? (dn x.f x.d)=b:=⟨_,rfl⟩;obtain⟨b7,h7⟩:∃b,decide (x.d<=x.due)=b:=⟨_,rfl⟩;obtain⟨hs,h8⟩:∃b,bf x.r.ofs x.r.pls x.r.hls x.f x.d=b:=⟨_,rfl⟩;obtain⟨b9,h9⟩:∃b,(x.rls.any ni || selB x.r x.f x.d)=b:=⟨_,rfl⟩;rw[h1] at hc1;rw[h2] at hc2;rw[h5] at hc5;rw[h6] at hc6;rw[h7] at hc7;rw[h8] at hc8;rw[h9] at hc9;rw[h0,h1,h2,h3,h4,h5,h6,h7,h8,h9];refine ab call33 func33 78 ?_;refine jjb trivial ?_;refine jit 3 ?_;intro b hb;clear hb;refine rc (jma x.f x.d) ?_;refine rcW h0 (jer 0 b0 b) ?_;refine rc hc1 ?_;refine rc (jer 1 b1 b) ?_;refine rc hc2 ?_;refine rc (jer 2 b2 b) ?_;refine rcW h3 (jer 0 b3 b) ?_;refine rc (jma x.f x.d) ?_;refine rcW h4 (jer 3 b4 b) ?_;refine rc (jxk x 4 _ _ b) ?_;refine rc (jxk x 5 _ _ b) ?_;refine rc (jhj x 6 _ _ b) ?_;refine rc (jhj x 7 _ _ b) ?_;refine rc (jhj x 9 _ _ b) ?_;refine rc (jhj x 8 _ _ b) ?_;refine run ?_
 have hrows:∀k,k<11->RowD T b (vAt x.f.id x.d (firR o5) (firR o6) x.by' x.due hs) (bAt b0 b1 b2 b3 b4 o5.isSome o6.isSome b7 (decide (hs≠[])) b9) (qe0 x b b0 b1 b2 b3 b4) k:=fun k hk=>by
  match k,hk with
  |0,_=>exact⟨_,_,_,rfl,je8 0 0 _ _ _ _ _ b0 b,fun h e=>.cons (.v _) (.cons (.pn rfl e) (.cons (.v _) .nil))⟩
  |1,_=>exact⟨_,_,_,rfl,je8 1 0 _ _ _ _ _ b1 b,fun h e=>.cons (.v _) (.cons (.pn rfl e) (.cons (.v _) .nil))⟩
  |2,_=>exact⟨_,_,_,rfl,je8 2 1 _ _ _ _ _ b2 b,fun h e=>.cons (.v _) (.cons (.pn rfl e) (.cons (.v _) .nil))⟩
  |3,_=>exact⟨_,_,_,rfl,je8 0 2 _ _ _ _ _ b3 b,fun h e=>.cons (.v _) (.cons (.pn rfl e) (.cons (.v _) .nil))⟩
  |4,_=>exact⟨_,_,_,rfl,je8 3 0 _ _ _ _ _ b4 b,fun h e=>.cons (.v _) (.cons (.pn rfl e) (.cons (.v _) .nil))⟩
  |5,_=>exact⟨_,_,_,rfl,hc5 4 3 _ _ _ _ _ b,fun h e=>.cons (.v _) (.cons (.v _) (.cons (.v _) (.cons (.pn rfl e) .nil)))⟩
  |6,_=>exact⟨_,_,_,rfl,hc6 5 4 _ _ _ _ _ b,fun h e=>.cons (.v _) (.cons (.v _) (.cons (.v _) (.cons (.pn rfl e) .nil)))⟩
  |7,_=>exact⟨_,_,_,rfl,hc7 6 5 _ _ _ _ _ b,fun h e=>.cons (.v _) (.cons (.v _) (.cons (.pn rfl e) (.cons (.v _) .nil)))⟩
  |8,_=>exact⟨_,_,_,rfl,hc8 7 6 _ _ _ _ _ b,fun h e=>.cons (.v _) (.cons (.v _) (.cons (.pn rfl e) (.cons (.v _) .nil)))⟩
  |9,_=>exact⟨_,_,_,rfl,hc9 9 7 _ _ _ _ _ b,fun h e=>.cons (.v _) (.cons (.v _) (.cons (.pn rfl e) (.cons (.v _) .nil)))⟩
  |10,_=>exact⟨_,_,_,rfl,hc10 8 9 _ _ _ _ _ b,fun h e=>.cons (.v _) (.cons (.v _) (.cons (.pn rfl e) (.cons (.v _) .nil)))⟩
 have hfin:=qws x.f.id x.d b0 b1 b2 b3 b4 o5.isSome o6.isSome b7 b9 (firR o5) (firR o6) x.by' x.due hs (decide (hs≠[])) rfl (fun h=>by cases o5 with|none=>rfl|some q=>cases h);obtain⟨R,hR⟩:∃R,qe0 x b b0 b1 b2 b3 b4=R:=⟨_,rfl⟩;have hRl:R.length=11:=by rw[<- hR];rfl
 rw[hR] at hrows;obtain⟨W,hW⟩:∃W,vdtB x.f.id x.d b0 b1 b2 b3 b4 o5.isSome o6.isSome b7 (decide (hs≠[])) b9 (firR o5) (firR o6) x.by' x.due hs=W:=⟨_,rfl⟩;rw[hW] at hfin ⊢;obtain⟨B,hB⟩:∃B,bAt b0 b1 b2 b3 b4 o5.isSome o6.isSome b7 (decide (hs≠[])) b9=B:=⟨_,rfl⟩;have hB10:B 10=true:=by rw[<- hB];rfl
 rw[hB] at hfin hrows;obtain⟨A,hA⟩:∃A,vAt x.f.id x.d (firR o5) (firR o6) x.by' x.due hs=A:=⟨_,rfl⟩;have hA0:A 0=vcs 0 x.f.id x.d 0 0 (.val (.slice none 0 0)):=by rw[<- hA];rfl
 have hAl:∀k,∃k1 k2 k3 k4 k5 k6,A k=[k1,k2,k3,k4,k5,k6]:=fun k=>by rw[<- hA];exact qv7 _ _ _ _ _ _ _ k
 rw[hA] at hfin hrows
 refine loop ⟨[2,3,68,69,70],[2,3],[],[]⟩ (fun k:Nat=>k<11/\∀j,j<k->B j=false) (fun k=>11-k)
  (fun k=>⟨78,[(2,.p 2 0),(3,.p 3 0),(68,.v (.slice 1 R)),(69,.v (vi 11)),(70,.v (vi k))],[(2,.var (vcs 0 0 0 0 0 (.val (.slice none 0 0)))),(3,.var (A k) (some b))],[]⟩) 0 ⟨dcq,fun j h=>absurd h (xba j)⟩ ?_ (by rw[hA0,<- hR];rfl)
 rintro k ⟨hk,hall⟩;obtain⟨g,cap,ts,hg,hden,hargs⟩:=hrows k hk;have hkR:k<R.length:=omq;refine runW hg ?_;refine fg (gh [(999000,3)] hden (hargs _ rfl) ?_ ?_)
 .intro y hy;simp only[xn] at hy;subst hy;exact⟨3,_,rfl,rfl,rfl,.inr rfl,rfl⟩
 cases hbk:B k
 .have hk':k+1<11:=by
   by_cases h:k+1<11
   .exact h
   have:k=10:=omq;subst this;rw[hB10] at hbk;cases hbk
  refine run ?_;refine round (k+1) ⟨hk',fun j hj=>?_⟩ omq;by_cases hjk:j=k
  .subst hjk;exact hbk
  exact hall j omq
 have hf:=hfin k hk hall hbk;obtain⟨k1,k2,k3,k4,k5,k6,he⟩:=hAl (k+1);rw[he] at hf ⊢;refine run ?_;exact finW hf
end Go.Arc
