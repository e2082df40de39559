/- A part of this claim. -/
import Derived.Test.YtpaallejmocmaaaGreatDoorW138
import Derived.Test.YtpaallejmocmaaaGreatDoorW137
set_option maxHeartbeats 16000000
set_option maxRecDepth 100000
namespace Go.Arc
open Go.Ab Go.RowKit Go.Proofs Tryz
variable {T : Lay}
variable {P:Program}{k:Nat}{res:Rgs}{u:Crt}{d:Int}
def ji3(r:Rgs)(pre:List Apv)(q:Option Apv)(a:Apv)(p:Prp):List (Bool×Int):=
 [(!(decide (p.day<=a.day) && decide (a.day<=1048575)),2),(se q a,5),(decide (p.wdr<=a.day),11),(!jy r.cks a.clk a.day,7),(decide (a.clk=p.clk),22),(pre.any (jv a),6)]
theorem qjx(r:Rgs)(pre:List Apv)(q:Option Apv)(a:Apv)(p:Prp):fstB (ji3 r pre q a p)=apvE r pre q a p:=by
 unfold apvE ji3;simp only[fstB];by_cases h1:a.day<p.day\/1048575<a.day
 .rw[um h1,um zew]
 rw[ul h1,ul zew];by_cases h2:se q a=true
 .rw[um h2,um h2]
 rw[ul h2,ul h2];by_cases h3:p.wdr<=a.day
 .rw[um h3,um (ur h3)]
 rw[ul h3,ul zew];cases h4:jy r.cks a.clk a.day
 .rfl
 simp only[qw5,vq,reduceCtorEq,va];by_cases h5:a.clk=p.clk
 .rw[um h5,um (ur h5)]
 rw[ul h5,ul (by simp[h5])]
theorem qq7(b a:Apv):Den prog T 108 [.agg b.cs,.row a.cs] (vb (jv a b)):=by
 refine ab call108 func108 16 ?_;unfold jv;by_cases h1:b.prp=a.prp
 .refine runW (uo h1) ?_;exact z5
 exact zdh
abbrev gr134:List Gent:=gd 25 [[0,0,0],[1,1,0,0],[3,2,0],[7,3,0],[15,4,0,0],[31,5,0],[63,6,0,0],[127,7,0],[255,8,0],[511,9,0],[1023,10,0],[2047,11,0,0],[4095,12,0,0],[8191,13,0],[16383,14,0,0],[32767,15,0],[65535,16,0],[131071,17,0],[262143,18,0,0],[524287,19,1,20,2,21,0],[2621439,19,4,20,2],[1048575,20,2,21,3],[1572863,19,1,21,0],[3670015,19,2,0,0,0],[2097151,21,1,0,0,0],[3145727,20,0,0,0,0],[4194303,22,0,0,0,0],[8388607,23,0,0,0,0],[16777215,24,0,0,0,0],[33554431]]
theorem qel(r:Rgs)(h:r.Fit)(i:Nat)(hi:i<r.aps.length):Den prog T 56 [.agg r.cs,vi i] (vi (dj r i)):=by
 have hl:=h.aps;have hpl:=h.pps.1;obtain⟨a,hc,-,hm⟩:=ac hi;obtain⟨q,hq,-,-⟩:=ac (l:=r.aps) (k:=i-1) omq;have hfind:=jgy (T:=T) r h a.prp;have ht:(r.aps.map Apv.cs).take i=(r.aps.take i).map Apv.cs:=by rw[qvm]
 refine ab call56 func56 82 ?_;refine runD (ai hc hq) ?_;refine pe 2 ?_;refine ci (st':=⟨82,[(1,.v (vi i)),(2,.p 2 0)],[(2,.con r.cs)],[]⟩) ⟨[1,2],[2],[],[]⟩ rfl ?_;refine bt gr134 ?_;refine il (fun _:Unit=>True) ⟨[1,2,5,6,7],[2,5,6],[],[]⟩ (fun _=>⟨82,[(1,.v (vi i)),(2,.p 2 0),(5,.p 5 0),(6,.p 6 0),(7,.v (vi (iy r.pps a.prp)))],[(2,.con r.cs),(5,.var a.cs),(6,.var q.cs)],[]⟩) (fun st st' hk h=>ci _ hk h) ?_ (fun K' hK=>?_)
 rotate_left
 .refine am (ai hc (ai hq (je1 i))) ?_
  try simp only[yg]
  apply viaA
  .have hX:=fun k kn m h=>call (k:=k) (kn:=kn) (m:=m) hfind h
   repeat' (first|with_reducible apply xg|exact hX _ _ _)
  refine am (ai hc (ai hq (je1 i))) ?_
  try simp only[vf,vd]
  repeat' (with_reducible refine ai ?_ ?_)
  all_goals exact gk hK () trivial
 intro _ _;rcases ly (ce a.prp) r.pps with⟨h1,h2⟩|⟨k,p,h1,hk,hx,hpm,h2⟩
 .have he:dj r i=7:=by unfold dj;rw[hc];simp only;rw[h2]
  rw[he];have h1:iy r.pps a.prp= -1:=h1;rw[h1];exact za
 have he:dj r i=fstB (ji3 r (r.aps.take i) (aq r.aps i) a p):=by
  rw[qjx];unfold dj;rw[hc];simp only;rw[h2]
 rw[he];have h1:iy r.pps a.prp=(k:Int):=h1;rw[h1];have hA:=qj5 (T:=T) (r.aps.take i) 108 [.row a.cs] (jv a) ze9 fun b _=>qq7 b a;have hC:=jt1 (T:=T) r h a.clk a.day;have hIn:=ja0 (T:=T) a.day p.day 1048575
 have hF:∀b1 b2 b3 b4 b5 b6,Den prog T 78 [.slice 1 [wRow b1 2,wRow b2 5,wRow b3 11,wRow b4 7,wRow b5 22,wRow b6 6]] (vi (fstB [(b1,2),(b2,5),(b3,11),(b4,7),(b5,22),(b6,6)])):=fun b1 b2 b3 b4 b5 b6=>
  jdc _ _ (.cons (fm _ _) (.cons (fm _ _) (.cons (fm _ _) (.cons (fm _ _) (.cons (fm _ _) (.cons (fm _ _) .nil)))))) (by show (6:Nat)<=1048576;decide)
 unfold ji3
 have hp:(¬ 0<(i:Int)/\se (aq r.aps i) a=false)\/(0<(i:Int)/\se (aq r.aps i) a=decide (a.day<q.day)):=by
  by_cases h0:i=0
  .left;subst h0;exact⟨dcq,rfl⟩
  right;refine⟨omq,?_⟩;unfold aq;rw[ul h0,hq];rfl
 refine runD hx ?_;refine jqi (h':=[(8,.var p.cs),(2,.con r.cs),(5,.con a.cs),(6,.var q.cs)]) rfq rfl krq rfq krq ?_;rcases hp with⟨h0,hpv⟩|⟨h0,hpv⟩<;>rw[hpv] <;>
 .refine rcW (ai hx ht) hIn ?_;refine rcW ht (da _ 2) ?_;refine rcW ht (da _ 5) ?_;refine rcW ht (da _ 11) ?_;refine rcW ht hC ?_;refine rcW ht (da _ 7) ?_;refine rcW ht (da _ 22) ?_;refine rcW ht hA ?_;refine rcW ht (da _ 6) ?_;refine rcW ht (hF _ _ _ _ _ _) ?_;exact za
theorem qmw(L:LibT T)(r:Rgs)(h:r.Fit)(i:Nat)(hi:i<r.crs.length):Den prog T 110 [.row r.cs,.row [vi i]] (rowV (!dt r.crs i,14)):=by
 refine ab call110 func110 9 ?_;refine rc (juj L r.crs i h.crs hi) ?_;exact zba
theorem qdp(L:LibT T)(r:Rgs)(h:r.Fit)(i:Nat)(hi:i<r.crs.length):Den prog T 57 [.agg r.cs,vi i] (vi (dc r i)):=by
 have hl:=h.crs.1;have hpl:=h.pps.1;obtain⟨c,hc,-,hm⟩:=ac hi;have hfc:=(h.crs.2 c hm).1;refine ab call57 func57 32 ?_;refine rcW hc (jgy r h c.prp) ?_;rcases ly (ce c.prp) r.pps with⟨h1,h2⟩|⟨k,p,h1,hk,hx,hpm,h2⟩
 .have he:dc r i=7:=by unfold dc;rw[hc];simp only;rw[h2]
  rw[he];have h1:iy r.pps c.prp= -1:=h1;rw[h1];exact za
 have he:dc r i=fstB [(!decide (c.fls=p.fls),10),(!dt r.crs i,14)]:=by
  unfold dc;rw[hc];simp only;rw[h2];simp only[fstB];by_cases h1:c.fls=p.fls
  .simp[h1]
  simp[h1]
 rw[he];have h1:iy r.pps c.prp=(k:Int):=h1;rw[h1]
 have hF:∀b,Den prog T 78 [.slice 1 [wRow b 10,[.func 110 [.row r.cs,.row [vi i]]]]] (vi (fstB [(b,10),(!dt r.crs i,14)])):=fun b=>
  jdc _ _ (.cons (fm _ _) (.cons (qmw L r h i hi) .nil)) (by show (2:Nat)<=1048576;decide)
 refine rcW hx (qiw c.fls p.fls hfc) ?_;refine rc (da _ 10) ?_;refine rc (hF _) ?_;exact za
theorem jgz(r:Rgs)(n:Nat)(f:FuncId)(cap:List V)(g:Nat->Int)(hn:n<=1048576)(hg:∀i,i<n->Den prog T f (.agg r.cs::vi i::cap) (vi (g i))):Den prog T 58 [.agg r.cs,vi n,.func f cap] (vi (chk n n g).2):=by
 refine ab call58 func58 21 ?_;refine run ?_;refine aj ⟨[10,2,3,9],[3],[],[]⟩ n (fun k=>∀i,i<k->g i=0) (fun i hi=>absurd hi (yf i)) ?_;rintro k ⟨hk,hall⟩;by_cases hlt:k<n
 .refine rc (hg k hlt) ?_;by_cases hz:g k=0
  .refine runW hz ?_;refine round (k+1) ⟨omq,fun i hi=>?_⟩ omq;by_cases e:i=k
   .exact zc6
   exact zb3
  refine runW (un hz) ?_;refine fin (ah ?_);rw[kf (qvz n) hlt hall hz]
 refine run ?_;refine fin (ah ?_);rw[ir (qvz n) fun i hi=>hall i omq]
theorem jc6{lim n:Nat}{f:Nat->Int}(h:¬lim<n):(chk lim n f).2=(chk n n f).2:=by unfold chk;rw[ul h,ul (qvz n)]
theorem jw6{l:List Int}{x:Int}(h:l[k]?=some x):fstE (l.drop k)=if x≠0 then x else fstE (l.drop (k+1)):=by
 obtain⟨hlt,rfl⟩:=gsi.1 h;exact zdg
abbrev lstV(n m:Int)(f:FuncId):List V:=[vi n,vi m,.func f []]
theorem jjd(L:LibT T)(r:Rgs)(h:r.Fit):Den prog T 15 [.agg r.cs] (vi (ea r)):=by
 have LC:=libC L;have hck:=h.cks.1;have hpp:=h.pps.1;have hap:=h.aps;have hcr:=h.crs.1;refine ab call15 func15 54 ?_;refine rc (juq LC r h) ?_;unfold ea;by_cases hg:checkG r=0
 case neg=>
  have he:fstE (checkG r::chkN r)=checkG r:=by show (if checkG r≠0 then _ else _)=_;rw[um hg]
  rw[he];refine runW (un hg) ?_;exact fin rfl
 have he:fstE (checkG r::chkN r)=fstE (chkN r):=by show (if checkG r≠0 then _ else _)=_;rw[ul (fun e=>e hg)]
 rw[he];refine runW hg ?_;obtain⟨LL,hLL⟩:∃l:List (List V),[lstV r.cks.length 32 54,lstV r.pps.length 1024 55,lstV r.aps.length 1024 56,lstV r.crs.length r.crs.length 57]=l:=⟨_,rfl⟩;have l0:LL[0]?=some (lstV r.cks.length 32 54):=by rw[<- hLL];rfl
 have l1:LL[1]?=some (lstV r.pps.length 1024 55):=by rw[<- hLL];rfl
 have l2:LL[2]?=some (lstV r.aps.length 1024 56):=by rw[<- hLL];rfl
 have l3:LL[3]?=some (lstV r.crs.length r.crs.length 57):=by rw[<- hLL];rfl
 have e0:=jgz (T:=T) r r.cks.length 54 [] (di r.cks) hck fun i hi=>qiz LC r h i hi;have e1:=jgz (T:=T) r r.pps.length 55 [] (fb r) hpp fun i hi=>qed r h i hi;have e2:=jgz (T:=T) r r.aps.length 56 [] (dj r) hap fun i hi=>qel r h i hi;have e3:=jgz (T:=T) r r.crs.length 57 [] (dc r) hcr fun i hi=>qdp L r h i hi
 refine loop ⟨[1,33,34,35],[1],[],[]⟩ (fun k:Nat=>k<=4/\fstE (chkN r)=fstE ((chkN r).drop k)) (fun k=>4-k)
  (fun k=>⟨54,[(1,.p 1 0),(33,.v (.slice 3 LL)),(34,.v (vi 4)),(35,.v (vi k))],[(1,.var r.cs)],[]⟩) 0 ⟨uq _,rfl⟩ ?_ ?_
 .rintro k ⟨hk,hall⟩
  have next:∀ {x:Int},(chkN r)[k]?=some x->x=0->fstE (chkN r)=fstE ((chkN r).drop (k+1)):=fun {x} hx hz=>by
   rw[hall,jw6 hx,ul (fun e=>e hz)]
  have out:∀ {x y:Int},(chkN r)[k]?=some x->x=y->y≠0->(vi y:V)=vi (fstE (chkN r)):=fun {x y} hx hxy hz=>by
   subst hxy;rw[hall,jw6 hx,um hz]
  have hcs:k=0\/k=1\/k=2\/k=3\/k=4:=omq;rcases hcs with rfl|rfl|rfl|rfl|rfl
  .by_cases hm:32<r.cks.length
   .refine runW l0 ?_;exact fin (out (x:=(chk 32 r.cks.length (di r.cks)).2) rfl (by rw[jn hm]) dcq)
   refine rcW l0 e0 ?_;by_cases hz:(chk r.cks.length r.cks.length (di r.cks)).2=0
   .refine runW hz ?_;exact round 1 ⟨omq,next (x:=(chk 32 r.cks.length (di r.cks)).2) rfl (by rw[jc6 hm];exact hz)⟩ omq
   refine runW (un hz) ?_;exact fin (out (x:=(chk 32 r.cks.length (di r.cks)).2) rfl (jc6 hm) hz)
  .by_cases hm:1024<r.pps.length
   .refine runW l1 ?_;exact fin (out (x:=(chk 1024 r.pps.length (fb r)).2) rfl (by rw[jn hm]) dcq)
   refine rcW l1 e1 ?_;by_cases hz:(chk r.pps.length r.pps.length (fb r)).2=0
   .refine runW hz ?_;exact round 2 ⟨omq,next (x:=(chk 1024 r.pps.length (fb r)).2) rfl (by rw[jc6 hm];exact hz)⟩ omq
   refine runW (un hz) ?_;exact fin (out (x:=(chk 1024 r.pps.length (fb r)).2) rfl (jc6 hm) hz)
  .by_cases hm:1024<r.aps.length
   .refine runW l2 ?_;exact fin (out (x:=(chk 1024 r.aps.length (dj r)).2) rfl (by rw[jn hm]) dcq)
   refine rcW l2 e2 ?_;by_cases hz:(chk r.aps.length r.aps.length (dj r)).2=0
   .refine runW hz ?_;exact round 3 ⟨omq,next (x:=(chk 1024 r.aps.length (dj r)).2) rfl (by rw[jc6 hm];exact hz)⟩ omq
   refine runW (un hz) ?_;exact fin (out (x:=(chk 1024 r.aps.length (dj r)).2) rfl (jc6 hm) hz)
  .refine rcW l3 e3 ?_;by_cases hz:(chk r.crs.length r.crs.length (dc r)).2=0
   .refine runW hz ?_;exact round 4 ⟨omq,next (x:=(chk r.crs.length r.crs.length (dc r)).2) rfl hz⟩ omq
   refine runW (un hz) ?_;exact fin (out (x:=(chk r.crs.length r.crs.length (dc r)).2) rfl rfl hz)
  refine run ?_;refine fin (ah ?_);rw[hall];rfl
 rw[<- hLL];rfl
theorem rg{α:Type}{f:α->List V}{l:List α}{P:Program}{w0 w:World}{M:Nat->Prop}{F0 F:Frz}{ρ:Nat->Nat}{a:Act}{n:Nat}{t:List (Nat×TV)}{hr:List (Nat×Blk)}{id q z:Nat}{cs:List V}{e:TypeId}{s:Option (Nat×Nat)}(j:Nat) 
  (S:SimS P T M F0 w0 F ρ ⟨n,t,(id,.var cs)::(rowB q (l.map f).flatten e z s++hr),[]⟩ a w) (hs:okB l.length s) (hj:cs[j]?=some (sOpt l.length s):=by rfl) (hz:∀x,(f x).length=z:=by intro _;rfl) (hids:∃ids,Ids hr ids/\ids.contains q=false/\ids.contains id=false:=by exact⟨_,by repeat (first|exact cf _|apply fu),rfl,rfl⟩)
  (hne:id≠q:=by decide) (hw:okW [(id,.var [])] t=true:=by rfl):∃F',SimS P T M F0 w0 F' ρ ⟨n,t,(id,.var (cz cs j [.slice z (l.map f)]))::hr,[]⟩ a w:=by
 obtain⟨ids,h1,h2,h3⟩:=hids;have:=qos (j:=j) S hs hj (by rw[jq hz];exact uv _) h1 h2 h3 hne hw
 rwa [jkm hz] at this
def cs_q(r:Rgs)(s:Option (Nat×Nat)):List V:=[ofcs r.ofs,ay r.pls,fils r.fls,ruls r.rls,hlds r.hls,clks r.cks,sels r.sls,sOpt r.pps.length s,apvs r.aps,crts r.crs,deps r.dps,vi r.chg]
def row_q(r:Rgs)(s:Option (Nat×Nat)):Option Blk:=s.map fun x=>.var (r.pps.map Prp.cs).flatten (some x.1) (some (58,5,x.2))
def cs_a(r:Rgs)(s:Option (Nat×Nat)):List V:=[ofcs r.ofs,ay r.pls,fils r.fls,ruls r.rls,hlds r.hls,clks r.cks,sels r.sls,prps r.pps,sOpt r.aps.length s,crts r.crs,deps r.dps,vi r.chg]
def row_a(r:Rgs)(s:Option (Nat×Nat)):Option Blk:=s.map fun x=>.var (r.aps.map Apv.cs).flatten (some x.1) (some (96,3,x.2))
def cs_k(r:Rgs)(s:Option (Nat×Nat)):List V:=[ofcs r.ofs,ay r.pls,fils r.fls,ruls r.rls,hlds r.hls,clks r.cks,sels r.sls,prps r.pps,apvs r.aps,sOpt r.crs.length s,deps r.dps,vi r.chg]
def jih(r:Rgs)(s:Option (Nat×Nat)):Option Blk:=s.map fun x=>.var (r.crs.map Crt.cs).flatten (some x.1) (some (39,6,x.2))
theorem qfz(r:Rgs)(h:r.Fit):DenU prog T 74 [.agg r.cs] (fun ro v=>∃s,okB r.crs.length s/\ro=jih r s/\v=.agg (cs_k r s)):=by
 refine qgw r h _ ?_;rintro y ⟨hO,hP,hF,hU,hD,hC,hS,hQ,hA,hK,hM⟩ M F0 w0 F ρ a w S;obtain⟨F,S⟩:=rg (f:=Apv.cs) 8 S hA;obtain⟨F,S⟩:=rg (f:=Dep.cs) 10 S hM;obtain⟨F,S⟩:=rg (f:=Rul.cs) 3 S hU;obtain⟨F,S⟩:=rg (f:=Hld.cs) 4 S hD;obtain⟨F,S⟩:=rg (f:=Clk.cs) 5 S hC;obtain⟨F,S⟩:=rg (f:=Ofc.cs) 0 S hO;obtain⟨F,S⟩:=rg (f:=Plan.cs) 1 S hP;obtain⟨F,S⟩:=rg (f:=Fil.cs) 2 S hF;obtain⟨F,S⟩:=rg (f:=Sel.cs) 6 S hS;obtain⟨F,S⟩:=rg (f:=Prp.cs) 7 S hQ;refine⟨F,ρ,_,S,fun i=>(cs_k r y.sK).getD i (vi 0),rfl,?_⟩;cases hs:y.sK with
 |none=>rw[hs] at hK;exact .inl ⟨none,hK,rfl,rfl⟩
 |some z=>rw[hs] at hK;exact .inr ⟨110,_,z.1,rfq,rfl,some z,hK,rfl,rfl⟩
abbrev pf:List V:=[.val (.slice none 0 0),.val (.slice none 0 0),.val (.slice none 0 0),.val (.slice none 0 0),.val (.slice none 0 0),.val (.slice none 0 0),.val (.slice none 0 0),.val (.slice none 0 0),.val (.slice none 0 0),.val (.slice none 0 0),.val (.slice none 0 0),vi 0]
theorem jxk:Wk (.agg pf) (.agg ic.cs):=.agg rfl (fun c hc=>by
  have:∀c∈ic.cs,c.one=true:=by
   intro c hc;simp only[Rgs.cs,vg,xz,ya] at hc;rcases hc with rfl|rfl|rfl|rfl|rfl|rfl|rfl|rfl|rfl|rfl|rfl|rfl<;>rfl
  exact this c hc) fun j v u e1 e2=>by
 match j with
 |0=>cases e1;cases e2;exact .nil _
 |1=>cases e1;cases e2;exact .nil _
 |2=>cases e1;cases e2;exact .nil _
 |3=>cases e1;cases e2;exact .nil _
 |4=>cases e1;cases e2;exact .nil _
 |5=>cases e1;cases e2;exact .nil _
 |6=>cases e1;cases e2;exact .nil _
 |7=>cases e1;cases e2;exact .nil _
 |8=>cases e1;cases e2;exact .nil _
 |9=>cases e1;cases e2;exact .nil _
 |10=>cases e1;cases e2;exact .nil _
 |11=>cases e1;cases e2;exact .refl _
 |j+12=>cases e1
theorem jxl(e:Int):Wk (.tup [.agg pf,vi e]) (.tup [.agg ic.cs,vi e]):=.t2 jxk (.refl _)
def jif(res:Rgs)(u:Crt)(ks:List (Nat×Blk))(b:Blk)(v:V):Prop:=ks=[(999000,.var res.cs),(999001,.var u.cs)]/\(∃cs,b=.con cs)/\v=.tup []
theorem jvo{ks:List (Nat×Blk)}{b:Blk}{v:V}(h:jif res u ks b v):okZ ks=true/\Ab.look 999050 ks=none:=by
 obtain⟨rfl,-,-⟩:=h;exact⟨rfl,rfl⟩
theorem quh{st:St}{i:Nat}{cs:List V}(h1:Ab.look 999000 st.h=some (.var res.cs))(h0:Ab.look 999001 st.h=some (.var u.cs))(h2:Ab.look i st.h=some (.con cs))(hi:i ∉ [999000,999001]:=by decide):jq7 P [] (jif res u) .nm st:=by
 refine⟨[(999000,.var res.cs),(999001,.var u.cs)],.con cs,.tup [],⟨rfl,⟨cs,rfl⟩,rfl⟩,?_,⟨i,.con cs,h2,?_,hi⟩,.tup [],rfl,.refl _⟩
 .intro x hx;simp only[vg,xz,ya] at hx;rcases hx with rfl|rfl
  .exact⟨_,h1,WkB.self _ _ _⟩
  exact⟨_,h0,WkB.self _ _ _⟩
 have:=WkB.con (ex:=[]) (Wks.refl cs);rw[vw] at this;exact this
abbrev qda:List Gent:=gd 11 [[0,0,0],[1,1,0],[3,2,1,5,0],[35,2,1,6,3],[7,3,1],[39,3,4],[15,4,1,5,3],[99,2,1,0,0,0],[31,5,2,0,0,0],[103,3,2],[47,4,0,6,1],[63,6,1,0,0,0],[111,4,0,0,0,0],[127,7,0,0,0,0],[255,8,0,0,0,0],[511,9,0],[1023,10,0,0,0,0],[2047]]
theorem qbk(r:Rgs)(u:Crt)(s:Option (Nat×Nat))(hs:okB r.crs.length s)(hb:r.crs.length<=1048576):DenV prog T 27 [(999000,.var (cs_k r s)),(999001,.var u.cs)] 999050 (jih r s) [.p 999000 0,.p 999001 0] (jif (morC r u) u):=by
 have post:∀(r:Rgs) (u:Crt),∀(M:Nat->Prop) (F0:Frz) (w0:World) (F:Frz) (ρ:Nat->Nat) (st:St) (a:Act) (w:World) (e:AX),SimS prog T M F0 w0 F ρ st a w->endX prog T .nm (fun x:Nat×Nat=>r.crs.length+1<=x.2/\x.2<=maxLen) (fun x:Nat×Nat=>⟨13,[],[(10,Blk.var ((r.crs++[u]).map Crt.cs).flatten (some x.1) (some (39,6,x.2))),(999000,Blk.var [ofcs r.ofs,ay r.pls,fils r.fls,ruls r.rls,hlds r.hls,clks r.cks,sels r.sls,prps r.pps,apvs r.aps,.val (.slice (some ⟨x.1,0,none⟩) (r.crs.length+1) x.2),deps r.dps,vi r.chg]),(999001,Blk.var u.cs)],[]⟩) e st->∃F' ρ' st',SimS prog T M F0 w0 F' ρ' st' a w/\jq7 prog [] (jif (morC r u) u) e st':=by
  rintro r u M F0 w0 F ρ st a w e X ⟨rfl,x,⟨hx1,hx2⟩,hs⟩;obtain⟨F',X⟩:=jn2 (k:=10) (id:=999000) (j:=9) (n:=r.crs.length+1) (size:=6) (hs _ _ _ _ _ _ _ X) rfl rfl dcq rfl hx1 hx2 (by rw[jq (cs:=Crt.cs) (z:=6) (fun _=>rfl),ve];exact uv _);have hch:=jkm (cs:=Crt.cs) (z:=6) (fun _=>rfl) (r.crs++[u]);rw[ve] at hch;simp only[fcSt] at X;rw[show cw 0 (r.crs.length+1) 6 ((r.crs++[u]).map Crt.cs).flatten=(r.crs++[u]).map Crt.cs from hch] at X;exact⟨F',ρ,_,X,quh (i:=10) rfl rfl rfl⟩
 rcases s with _|⟨b,c⟩
 .have hz:r.crs=[]:=xu hs;have hz1:r.crs.length+1=1:=by rw[hz];rfl
  refine jsb follows (fun args w=>call27 args w) func27 rfl 13 rfl rfl ?_ (fun _ _ _ h=>jvo h);have hrow0:([]:List V)++[Crt.cs u].flatten=((r.crs++[u]).map Crt.cs).flatten:=by rw[hz];rfl
  show aw _ _ _ (St.mk 13 [(0,.p 999000 0),(1,.p 999001 0)] [(999000,.var [ofcs r.ofs,ay r.pls,fils r.fls,ruls r.rls,hlds r.hls,clks r.cks,sels r.sls,prps r.pps,apvs r.aps,.val (.slice none 0 0),deps r.dps,vi r.chg]),(999001,.var u.cs)] []) _
  refine jai (jp6 .nm (fun x:Nat×Nat=>r.crs.length+1<=x.2/\x.2<=maxLen) (fun x:Nat×Nat=>⟨13,[],[(10,Blk.var ((r.crs++[u]).map Crt.cs).flatten (some x.1) (some (39,6,x.2))),(999000,Blk.var [ofcs r.ofs,ay r.pls,fils r.fls,ruls r.rls,hlds r.hls,clks r.cks,sels r.sls,prps r.pps,apvs r.aps,.val (.slice (some ⟨x.1,0,none⟩) (r.crs.length+1) x.2),deps r.dps,vi r.chg]),(999001,Blk.var u.cs)],[]⟩) ?_) (post r u);intro E hE;refine runD ag ?_;refine bt qda ?_;refine mw ag ?_
  try simp only[vf,vd,uz,bg,bn]
  refine mb ?_;unfold appR;refine mw ag ?_;intro r' cap' hnm h1 h2;rw[hrow0];refine mw ag ?_;refine⟨rfl,?_⟩;refine hE (r',cap') _ ⟨by rw[hz];exact h1,h2⟩ ?_;exact bl [] [] rfl rfl rfl (fun _ _ e=>by rw[hz1] at e;exact e) rfl
 obtain⟨hc1,hc2⟩:r.crs.length<=c/\c<=maxLen:=hs;have hw:=jq (cs:=Crt.cs) (z:=6) (fun _=>rfl) r.crs;have hrow:(r.crs.map Crt.cs).flatten++[Crt.cs u].flatten=((r.crs++[u]).map Crt.cs).flatten:=by rw[vy,qwk];rfl
 refine jsb follows (fun args w=>call27 args w) func27 rfl 13 rfl rfl ?_ (fun _ _ _ h=>jvo h)
 show aw _ _ _ (St.mk 13 [(0,.p 999000 0),(1,.p 999001 0)] [(999000,.var [ofcs r.ofs,ay r.pls,fils r.fls,ruls r.rls,hlds r.hls,clks r.cks,sels r.sls,prps r.pps,apvs r.aps,.val (.slice (some ⟨b,0,none⟩) r.crs.length c),deps r.dps,vi r.chg]),(999001,.var u.cs),(999050,.var (r.crs.map Crt.cs).flatten (some b) (some (39,6,c)))] []) _
 refine jai (jp6 .nm (fun x:Nat×Nat=>r.crs.length+1<=x.2/\x.2<=maxLen) (fun x:Nat×Nat=>⟨13,[],[(10,Blk.var ((r.crs++[u]).map Crt.cs).flatten (some x.1) (some (39,6,x.2))),(999000,Blk.var [ofcs r.ofs,ay r.pls,fils r.fls,ruls r.rls,hlds r.hls,clks r.cks,sels r.sls,prps r.pps,apvs r.aps,.val (.slice (some ⟨x.1,0,none⟩) (r.crs.length+1) x.2),deps r.dps,vi r.chg]),(999001,Blk.var u.cs)],[]⟩) ?_) (post r u);intro E hE;refine runD (ai hw ag) ?_;refine bt qda ?_;refine mw (ai hw ag) ?_
 try simp only[vf,vd,uz,bg,bn]
 refine mb ?_;unfold appR;refine mw (ai hw ag) ?_;refine⟨hc1,⟨xa hb dcq,by have:r.crs.length<=1048576:=hb;omega⟩,.inr trivial,?_⟩;intro r' cap' hnm h1 h2;rw[hrow];refine mw (ai hw ag) ?_;refine⟨rfl,?_⟩;refine hE (r',cap') _ ⟨h1,h2⟩ ?_;exact bl [] [] rfl rfl rfl (fun _ _ e=>e) rfl
theorem qe5(L:LibT T)(r:Rgs)(h:r.Fit)(u:Crt)(hres:(morC r u).Fit)(p0:Nat):
  DenS prog T 26 [(999000,.var u.cs (some p0))] [] [.v (.agg r.cs),.v (.func 27 [.val (.pointer (some ⟨p0,0,none⟩))])] [(999000,.var u.cs (some p0))] [] (.v (.tup [.agg (chgd (morC r u)).1.cs,vi (chgd (morC r u)).2])):=by
 have hck:=jjd L (morC r u) hres;have hC:=qfz (T:=T) r h;refine lc follows (fun args w=>call26 args w) func26 rfl 19 rfl rfl ?_;refine run ?_;refine mo (jio 9 hC ?_ ?_)
 .rintro rr ⟨s,hs,hro,rfl⟩;have hs0:s=none:=by cases s with|none=>rfl|some z=>cases hro
  subst hs0;have hD:=qbk (T:=T) r u none hs h.crs.1;unfold cs_k at hD ⊢;refine runW ag ?_;refine qdd ⟨[(999000,6),(999001,999000)],999050,10,_,_,_,_,hD,.cons (.p rfl) (.cons (.pn rfl rfl) .nil),rfl,rfl,?_,(fun _=>rfl),(by show (10:Nat)<19;decide),?_⟩
  .intro x hx;simp only[rowL,jih,Option.map_none,vw,vg,xz,ya] at hx;rcases hx with rfl|rfl
   .exact⟨6,_,rfl,rfl,rfl,.inl rfl,rfl⟩
   exact⟨999000,_,rfl,rfl,rfl,.inl rfl,rfl⟩
  rintro ks b v ⟨rfl,⟨cs,rfl⟩,rfl⟩;refine⟨rfl,fun _=>?_⟩;simp only[bo,setb,lk,bb,qh,jed,jev,jew,jec,Nat.reduceEqDiff,↓reduceIte,Blk.wn,Blk.nm,remK,eg,je3,cond_false];refine rc hck ?_;by_cases hz:ea (morC r u)=0
  .refine runW hz ?_;have e:chgd (morC r u)=(morC r u,0):=by unfold chgd;rw[ul (fun h=>h hz)]
   rw[e];exact zcr
  refine runW (un hz) ?_;have e:chgd (morC r u)=(ic,ea (morC r u)):=by unfold chgd;rw[um hz]
  rw[e];exact pt (.v (jxl _))
 rintro b rr ⟨s,hs,hro,rfl⟩ hnm;obtain⟨z,rfl⟩:∃z,s=some z:=by cases s with|none=>cases hro|some z=>exact⟨z,rfl⟩
 have hD:=qbk (T:=T) r u (some z) hs h.crs.1;cases hro;unfold cs_k at hD ⊢;refine runW ag ?_;refine qdd ⟨[(999000,6),(999001,999000)],999050,9,_,some _,_,_,hD,.cons (.p rfl) (.cons (.pn rfl rfl) .nil),rfl,rfl,?_,(fun h=>nomatch h),(by show (9:Nat)<19;decide),?_⟩
 .intro x hx;simp only[rowL,List.cons_append,List.nil_append,vg,xz,ya] at hx;rcases hx with rfl|rfl|rfl
  .exact⟨6,_,rfl,rfl,rfl,.inl rfl,rfl⟩
  .exact⟨999000,_,rfl,rfl,rfl,.inl rfl,rfl⟩
  exact⟨9,_,rfl,rfl,rfl,.inr rfl,rfl⟩
 rintro ks b2 v ⟨rfl,⟨cs,rfl⟩,rfl⟩;refine⟨rfl,fun _=>?_⟩;simp only[bo,setb,lk,bb,qh,jed,jev,jew,jec,Nat.reduceEqDiff,↓reduceIte,Blk.wn,Blk.nm,remK,eg,je3,cond_false];refine rc hck ?_;by_cases hz:ea (morC r u)=0
 .refine runW hz ?_;have e:chgd (morC r u)=(morC r u,0):=by unfold chgd;rw[ul (fun h=>h hz)]
  rw[e];exact zcr
 refine runW (un hz) ?_;have e:chgd (morC r u)=(ic,ea (morC r u)):=by unfold chgd;rw[um hz]
 rw[e];exact pt (.v (jxl _))
theorem qmx(c:Clk)(a:Apv):Den prog T 138 [.agg c.cs,.row a.cs] (vb (ui a.clk c)):=by
 refine ab call138 func138 14 ?_;unfold ui;by_cases h1:c.id=a.clk
 .refine runW (uo h1) ?_;exact z5
 exact zdh
abbrev apvL(r:Rgs)(n d:Int)(k:Nat):List Apv:=(r.aps.take k).filter (forA n d)
abbrev arcA(r:Rgs)(a:Apv):Bool:=r.cks.any (ui a.clk)
theorem qc1{r:Rgs}{n:Int}{a:Apv}(ha:r.aps[k]?=some a)(hf:forA n d a=true):apvL r n d (k+1)=apvL r n d k++[a]:=by
 unfold apvL;rw[jb ha,qw4,qwl hf];rfl
theorem jzh{r:Rgs}{n:Int}{a:Apv}(ha:r.aps[k]?=some a)(hf:¬forA n d a=true):apvL r n d (k+1)=apvL r n d k:=by
 unfold apvL;rw[jb ha,qw4,qx1 hf];simp
theorem jzi(r:Rgs)(n d:Int)(k:Nat):(apvL r n d k).length<=k:=by
 have h1:=qwe (forA n d) (r.aps.take k);have h2:(r.aps.take k).length<=k:=List.length_take_le _ _;exact xa h1 h2
theorem qek(r:Rgs)(h:r.Fit)(n d:Int):Den prog T 81 [.agg r.cs,vi n,vi d] (vb (apvB r n d)):=by
 have hl:=h.aps;have hA:∀a:Apv,Den prog T 137 [clks r.cks,.func 138 [.row a.cs]] (vb (arcA r a)):=fun a=>juo r.cks _ _ (ui a.clk) h.cks.1 fun c _=>qmx c a;refine ab call81 func81 43 ?_;refine run ?_;refine bp ⟨[7,8,14,1,2,3,12,13],[3],[],[]⟩ (fun k:Nat=>k<=r.aps.length) (fun k=>r.aps.length-k) (fun k=>[(7,.v (vi (apvL r n d k).length)),(8,.v (vb ((apvL r n d k).any (arcA r)))),(14,.v (vi k))]) 0 (uq _) ?_;intro k hk;have hle:=jzi r n d k;by_cases hlt:k<r.aps.length
 .obtain⟨a,ha,-,-⟩:=ac hlt;have hin:=fun hf=>qc1 (r:=r) (n:=n) (d:=d) ha hf;have hout:=fun hf=>jzh (r:=r) (n:=n) (d:=d) ha hf;obtain⟨X,hX⟩:∃X,apvL r n d k=X:=⟨_,rfl⟩;rw[hX] at hle hin hout;by_cases h1:a.prp=n
  .by_cases h2:d<a.day
   .have hno:=hout (by unfold forA;simp;omega);refine runW (ai hX (ai ha (uo h1))) ?_;refine round (k+1) hlt omq ?_;rw[hno];rfl
   have hyes:=hin (by unfold forA;simp;omega);have hyl:(apvL r n d (k+1)).length=X.length+1:=by rw[hyes,ve];rfl
   have hya:(apvL r n d (k+1)).any (arcA r)=(X.any (arcA r) || arcA r a):=by rw[hyes,qwm];simp
   cases hX2:X.any (arcA r)
   .refine rcW (ai hX (ai ha (ai (uo h1) hX2))) (hA a) ?_;refine run ?_;refine round (k+1) hlt omq ?_;rw[hyl,hya,hX2,yb];rfl
   refine runW (ai hX (ai ha (ai (uo h1) hX2))) ?_;refine round (k+1) hlt omq ?_;rw[hyl,hya,hX2,yj];rfl
  exact zcf
 have hk:k=r.aps.length:=omq;subst hk;have he:apvL r n d r.aps.length=r.aps.filter (forA n d):=by unfold apvL;rw[vk]
 have hB:apvB r n d=(decide (2<=(apvL r n d r.aps.length).length) && (apvL r n d r.aps.length).any (arcA r)):=by rw[he];rfl
 rw[hB];obtain⟨X,hX⟩:∃X,apvL r n d r.aps.length=X:=⟨_,rfl⟩;rw[hX] at hle ⊢;by_cases h2:2<=X.length
 .refine runW hX ?_;exact zb5
 refine runW hX ?_;exact zb5
theorem qgg(L:LibC T)(r:Rgs)(h:r.Fit)(f d:Int):Den prog T 84 [vi f,.row r.cs,.row [vi d]] (vb (ij r d f)):=by
 have hO:=quk L r h f d;unfold ij;obtain⟨v,hv⟩:∃v,onV r f d=v:=⟨_,rfl⟩;rw[hv] at hO ⊢;refine ab call84 func84 21 ?_;refine rc hO ?_;by_cases h1:onE r f d=0
 .rw[h1];refine run ?_;exact z5
 exact zdh
theorem qif(L:LibC T)(r:Rgs)(h:r.Fit)(p:Prp)(hp:p.fls.length<=1048576)(d:Int):Den prog T 82 [.row p.cs,.row r.cs,.row [vi d]] (rowV (p.fls.any (ij r d),21)):=by
 refine ab call82 func82 9 ?_;refine rc (jdd p.fls _ _ (ij r d) hp fun f _=>qgg L r h f d) ?_;exact zba
theorem qie(L:LibC T)(r:Rgs)(h:r.Fit)(p:Prp)(hp:p.fls.length<=1048576)(d:Int):Den prog T 35 [.agg r.cs,.agg p.cs,vi d] (vi (tn r p d)):=by
 have he:tn r p d=fstB [(decide (d<p.day),5),(decide (p.wdr<=d) || ml r.crs p.id,11),(!apvB r p.id d,22),(p.fls.any (ij r d),21)]:=by
  unfold tn;simp only[fstB];by_cases h1:d<p.day
  .rw[um h1,um (ur h1)]
  rw[ul h1,ux h1];by_cases h2:p.wdr<=d\/ml r.crs p.id=true
  .rw[um h2,(by simpa using h2:(decide (p.wdr<=d) || ml r.crs p.id)=true)];rfl
  rw[ul h2,(by simpa using h2:(decide (p.wdr<=d) || ml r.crs p.id)=false)];cases apvB r p.id d<;>rfl
 rw[he]
 have hF:∀b1 b2 b3,Den prog T 78 [.slice 1 [wRow b1 5,wRow b2 11,wRow b3 22,[.func 82 [.row p.cs,.row r.cs,.row [vi d]]]]] (vi (fstB [(b1,5),(b2,11),(b3,22),(p.fls.any (ij r d),21)])):=fun b1 b2 b3=>
  jdc _ _ (.cons (fm _ _) (.cons (fm _ _) (.cons (fm _ _) (.cons (qif L r h p hp d) .nil)))) (by show (4:Nat)<=1048576;decide)
 have hcd:=qej (T:=T) r h p.id;have hap:=qek (T:=T) r h p.id d;refine ab call35 func35 33 ?_;by_cases h1:p.wdr<=d
 .rw[ur h1,yj];refine rc (da _ 5) ?_;exact zdi
 rw[ux h1,yb];refine rc (da _ 5) ?_;refine rc hcd ?_;exact zdi
theorem jja(L:LibT T)(r:Rgs)(h:r.Fit)(n d:Int):Den prog T 8 [.agg r.cs,vi n,vi d] (vi (kg r n d)):=by
 have LC:=libC L;have hpl:=h.pps.1;refine ab call8 func8 30 ?_;unfold kg;refine rc (jgy r h n) ?_;refine rc (jjd L r h) ?_;by_cases hz:ea r=0
 case neg=>
  rw[um hz];exact zb2
 rw[ul (fun e=>e hz)];rcases ly (ce n) r.pps with⟨h1,h2⟩|⟨k,p,h1,hk,hx,hpm,h2⟩
 .rw[h2];have h1:iy r.pps n= -1:=h1;rw[h1];refine runW hz ?_;exact fin rfl
 rw[h2];have h1:iy r.pps n=(k:Int):=h1;rw[h1];refine rcW hz (jk8 d) ?_;cases hd:dayG d
 .exact za
 rw[ul dcq];refine rcW hx (qie LC r h p (h.pps.2 p hpm) d) ?_;exact za
theorem jyk{r:Rgs}(h:r.Fit){c:Crt}(hc:c.fls.length<=1048576/\c.bef.length<=1048576/\c.dig.length<=1048576)(hl:r.crs.length<1048576):(morC r c).Fit:=
  { ofs:=h.ofs,pls:=h.pls,fls:=h.fls,rls:=h.rls,hls:=h.hls,cks:=h.cks,sls:=h.sls,pps:=h.pps,aps:=h.aps,dps:=h.dps
    crs:=⟨by show (r.crs++[c]).length<=1048576;rw[ve];exact hl,fun q hq=>by
      rcases qw0.1 hq with hq|hq
      . exact h.crs.2 q hq
      rw[xy.1 hq];exact hc⟩ }
abbrev gj:List V:=[vi 0,vi 0,vi 0,.val (.slice none 0 0),.str [],.str []]
theorem qoc:Wk (.agg gj) (.agg crtZ.cs):=.agg rfl (fun c hc=>by
  simp only[Crt.cs,vg,xz,ya] at hc
  rcases hc with rfl|rfl|rfl|rfl|rfl|rfl<;>rfl) fun j v u e1 e2=>by
 match j with
 |0=>cases e1;cases e2;exact .refl _
 |1=>cases e1;cases e2;exact .refl _
 |2=>cases e1;cases e2;exact .refl _
 |3=>cases e1;cases e2;exact .nil _
 |4=>cases e1;cases e2;exact .refl _
 |5=>cases e1;cases e2;exact .refl _
 |j+6=>cases e1
theorem tf(e:Int):Wk (.tup [.agg pf,.agg gj,vi e]) (.tup [.agg ic.cs,.agg crtZ.cs,vi e]):=.t3 jxk qoc (.refl _)
theorem je7(e:Int):Den prog T 18 [vi e] (.tup [.agg pf,.agg gj,vi e]):=by
 refine ab call18 func18 8 ?_;exact za
theorem qq3(l:List Int)(hl:l.length<=1048576)(x:Dep):Den prog T 21 [.agg x.cs,.row [ints l]] (vb (depB l x)):=by
 have hh:=jge (T:=T) l x.fil hl;refine ab call21 func21 8 ?_;refine rc hh ?_;refine run ?_;refine fin (ae ?_);unfold depB hasI;congr 1
 funext y
 rw[decide_eq_decide];exact eq_comm
theorem jeb{G:Prop}{c:Code}{Q:AX->St->Prop}(φ:Prop)(S:St)(h:(∀st,φ->Ab.Sub P T S st->aw P T c st Q)->G)(h2:φ->aw P T c S Q):G:=h fun _ hf hs=>qcz hs (h2 hf)
abbrev qu6:List Gent:=gd 14 [[0,0,0],[1,1,0,0],[3,2,0,0],[7,3,0],[15,8,0],[271,9,0,0],[783,4,0,10,2,11,1],[799,5,3],[2831,4,4,10,3],[1807,4,0,11,2],[1823,5,5],[831,6,2],[3855,4,2,0,0,0],[2847,5,3],[895,7,4,0],[3871,5,5],[1855,6,3],[2879,6,0],[2943,7,5,0],[1023,10,3,11,4],[1919,7,2,0],[3903,6,0],[3967,7,3,0],[2047,11,2,0,0,0],[3071,10,1,12,0],[7167,10,1,0,0,0],[4095,12,0,0,0,0],[8191,13,0,0,0,0],[16383]]
abbrev qu5:List Gent:=gd 13 [[0,0,0],[1,1,0],[3,2,0],[7,3,0],[15,4,0,0],[31,6,0],[95,7,0,0],[223,8,0],[479,5,1,11,0],[2527,5,1,0,0,0],[511,9,1,11,0],[2559,9,1,0,0,0],[1023,10,1,11,0],[3071,10,1,0,0,0],[2047,11,0,0,0,0],[4095,12,0,0,0,0],[8191]]
abbrev qu4:List Gent:=gd 5 [[0,0,0,1,1],[1,1,1,2,2],[2,0,0,0,0,0],[3,2,1,0,0,0],[5,1,0,0,0,0],[7,3,0,0,0,0],[15,4,0,0,0,0],[31]]
theorem jta(L:LibT T)(r:Rgs)(h:r.Fit)(n d:Int)(hcr:r.crs.length<1048576):Den prog T 6 [.agg r.cs,vi n,vi d] (.tup [.agg (desP r n d).1.cs,.agg (desP r n d).2.1.cs,vi (desP r n d).2.2]):=by
 have hrd:=jja L r h n d;have hcl:=h.crs.1;refine ab call6 func6 113 ?_;refine rc hrd ?_;by_cases hz:kg r n d=0
 .obtain⟨p,hR⟩:=jg5.1 hz;have hfp:=hR.fp;rcases ly (ce n) r.pps with⟨-,h2⟩|⟨k,p',h1,hk,hx,hpm,h2⟩
  .rw[h2] at hfp;cases hfp
  obtain rfl:p'=p:=by rw[h2] at hfp;exact xf hfp
  have hfd:=jgy (T:=T) r h n;rw[show iy r.pps n=(k:Int) from h1] at hfd;have hfl:=h.pps.2 p' hpm;have hpl:=h.pps.1;refine runD hz ?_;refine pe 3 ?_;refine ci (st':=⟨113,[(1,.v (vi n)),(2,.v (vi d)),(3,.p 3 0),(6,.p 6 0),(7,.p 7 0),(8,.v (vi 0)),(9,.v (.func 18 []))],[(7,.var gj),(6,.var pf),(3,.con r.cs)],[]⟩) ⟨[1,2,3,6,7,8,9],[7,6,3],[],[]⟩ rfl ?_;refine ma .nm (fun _:Unit=>True) (fun _=>⟨113,[(1,.v (vi n)),(2,.v (vi d)),(3,.p 3 0),(6,.p 6 0),(7,.p 7 0),(8,.v (vi 0)),(9,.v (.func 18 [])),(11,.p 11 0),(12,.v (vi r.crs.length))],[(11,.var [ints p'.fls]),(7,.var gj),(6,.var pf),(3,.con r.cs)],[]⟩) ?_ ?_
  .intro E hE;refine bt qu6 ?_;refine am hx ?_
   try simp only[bg,yg]
   apply viaA
   .have hX:=fun k kn m h0=>call (T:=T) (k:=k) (kn:=kn) (m:=m) hfd h0
    repeat' (first|with_reducible apply xg|exact hX _ _ _)
   refine am hx ?_
   try simp only[vf,vd,uz,bg,bn]
   repeat' (with_reducible refine ai ?_ ?_)
   all_goals refine hE () _ trivial ?_
   all_goals exact bl [3,6,7,11] [1,2,3,6,7,8,9,11,12] rfl rfl rfl (fun _ _ e=>e) rfl
  intro _ _
  show aw _ _ _ ⟨113,[(1,.v (vi n)),(2,.v (vi d)),(3,.p 3 0),(6,.p 6 0),(7,.p 7 0),(8,.v (vi 0)),(9,.v (.func 18 [])),(11,.p 11 0),(12,.v (vi r.crs.length))],[(11,.var [ints p'.fls]),(7,.var gj),(6,.var pf),(3,.con r.cs)],[]⟩ _
  have hlate:(¬ 0<(r.crs.length:Int)/\mg (aq r.crs r.crs.length) d=false)\/(0<(r.crs.length:Int)/\∃q,r.crs[r.crs.length-1]?=some q/\mg (aq r.crs r.crs.length) d=decide (d<q.day)):=by
   unfold aq;by_cases h0:r.crs.length=0
   .left;rw[um h0];exact⟨omq,rfl⟩
   right;rw[ul h0];obtain⟨q,hq,-,-⟩:=ac (l:=r.crs) (k:=r.crs.length-1) omq;rw[hq];exact⟨omq,q,rfl,rfl⟩
  have hE0:desE r n d=if mg (aq r.crs r.crs.length) d=true then 5 else if r.dps.any (depB p'.fls)=true then 6 else 0:=by
   unfold desE;rw[ul (fun e=>e hz),hfp]
  have hfail:∀e,desE r n d=e->e≠0->desP r n d=(ic,crtZ,e):=fun e h1 h2=>by
   unfold desP;rw[um (by rw[h1];exact h2),h1]
  apply jeb (mg (aq r.crs r.crs.length) d=false) ⟨113,[(1,.v (vi n)),(2,.v (vi d)),(3,.p 3 0),(6,.p 6 0),(7,.p 7 0),(8,.v (vi 0)),(9,.v (.func 18 [])),(11,.p 11 0),(12,.v (vi r.crs.length))],[(11,.var [ints p'.fls]),(7,.var gj),(6,.var pf),(3,.con r.cs)],[]⟩
  .intro tail;rcases hlate with⟨h0,hl⟩|⟨h0,q,hq,hl⟩
   .refine jqz (un h0) ?_;refine tail _ hl ?_;exact bl [3,6,7,11] [1,2,3,6,7,8,9,11,12] rfl rfl rfl (fun _ _ e=>e) rfl
   by_cases hdq:d<q.day
   .rw[hfail 5 (by rw[hE0,hl,ur hdq];rfl) dcq];refine rcW (ai hq hdq) (je7 _) ?_;exact zc4
   refine jqz (ai hq (un hdq)) ?_;refine tail _ (by rw[hl,ux hdq]) ?_;exact bl [3,6,7,11] [1,2,3,6,7,8,9,11,12] rfl rfl rfl (fun _ _ e=>e) rfl
  intro hl;have hE:desE r n d=if r.dps.any (depB p'.fls)=true then 6 else 0:=by rw[hE0,ul (by rw[hl];decide)]
  have hdepC:=jum (T:=T) r.dps 21 [.row [ints p'.fls]] (depB p'.fls) h.dps (fun e _=>qq3 p'.fls hfl e);refine rc hdepC ?_;by_cases hdep:r.dps.any (depB p'.fls)=true
  .rw[hfail 6 (by rw[hE,um hdep]) dcq];refine rcW hdep (je7 _) ?_;exact zc4
  rw[ul hdep] at hE;have hfls:=jgw hfp
  have hP:desP r n d=if crtB (newC r n d p'.fls)=false then(ic,crtZ,1) else
    if ea (morC r (newD r n d p'.fls))≠0 then(ic,crtZ,ea (morC r (newD r n d p'.fls))) else(morC r (newD r n d p'.fls),newD r n d p'.fls,0):=by
   unfold desP;rw[ul (fun e=>e hE),hfls]
  have hbl:(befC r.crs r.crs.length).length=32:=jhp hR.ok;have hcp:=(jd7 (T:=T) p'.fls hfl).den;have hbf:=jt3 L r.crs r.crs.length hcl (uv _);refine runD (yz.2 hdep) ?_;refine ma .nm (fun _:Unit=>True) (fun _=>⟨113,[(1,.v (vi n)),(2,.v (vi d)),(3,.p 3 0),(6,.p 6 0),(7,.p 7 0),(8,.v (vi 0)),(9,.v (.func 18 [])),(13,.p 13 0)],[(13,.var (newC r n d p'.fls).cs),(11,.con [ints p'.fls]),(7,.var gj),(6,.var pf),(3,.con r.cs)],[]⟩) ?_ ?_
  .intro E hE1;refine bt qu5 ?_;refine am trivial ?_
   try simp only[vf,vd,uz,bg,bn,yg]
   apply viaA
   .have hX:=fun k kn m h0=>call (T:=T) (k:=k) (kn:=kn) (m:=m) hcp h0
    repeat' (first|with_reducible apply xg|exact hX _ _ _)
   refine am trivial ?_
   try simp only[uz]
   apply viaA
   .have hX:=fun k kn m h0=>call (T:=T) (k:=k) (kn:=kn) (m:=m) hbf h0
    repeat' (first|with_reducible apply xg|exact hX _ _ _)
   refine am trivial ?_
   try simp only[vf,vd,uz,bg,bn]
   repeat' (with_reducible refine ai ?_ ?_)
   all_goals refine hE1 () _ trivial ?_
   all_goals exact bl [3,6,7,11,13] [1,2,3,6,7,8,9,13] rfl rfl rfl (fun _ _ e=>e) rfl
  intro _ _
  show aw _ _ _ ⟨113,[(1,.v (vi n)),(2,.v (vi d)),(3,.p 3 0),(6,.p 6 0),(7,.p 7 0),(8,.v (vi 0)),(9,.v (.func 18 [])),(13,.p 13 0)],[(13,.var (newC r n d p'.fls).cs),(11,.con [ints p'.fls]),(7,.var gj),(6,.var pf),(3,.con r.cs)],[]⟩ _
  refine jp5 13 ?_;intro b _;refine ci (st':=⟨113,[(1,.v (vi n)),(2,.v (vi d)),(3,.p 3 0),(6,.p 6 0),(7,.p 7 0),(8,.v (vi 0)),(9,.v (.func 18 [])),(13,.p 13 0)],[(13,.var (newC r n d p'.fls).cs (some b)),(7,.var gj),(6,.var pf),(3,.con r.cs)],[]⟩) ⟨[1,2,3,6,7,8,9,13],[13,7,6,3],[],[]⟩ rfl ?_;have hdg:=jt9 L (newC r n d p'.fls) hfl zfb;refine rc hdg ?_;by_cases hcb:crtB (newC r n d p'.fls)=true
  .have hdv:digV (newC r n d p'.fls)=.tup [.str (sumD (crtT (newC r n d p'.fls))),vi 0]:=ji1 ((jea _).1 hcb);rw[hdv];have hD:=qe5 L r h (newD r n d p'.fls) (jyk h ⟨hfl,by show (befC r.crs r.crs.length).length<=1048576;omega,by show (sumD _).length<=1048576;rw[jdv];decide⟩ hcr) b;rw[ul (by rw[hcb];decide)] at hP;refine runW trivial ?_;refine mo (rl [(999000,13)] hD (.cons (.v _) (.cons (.v _) .nil)) ?_ ?_)
   .intro x hx;simp only[xy] at hx;subst hx;exact⟨13,_,rfl,rfl,rfl,.inr rfl,rfl⟩
   by_cases hc14:ea (morC r (newD r n d p'.fls))=0
   .rw[ul (fun e=>e hc14)] at hP;have e:chgd (morC r (newD r n d p'.fls))=(morC r (newD r n d p'.fls),0):=by unfold chgd;rw[ul (fun h=>h hc14)]
    rw[e,hP];refine rcW trivial hcp ?_;refine runD trivial ?_;refine ma .nm (fun _:Unit=>True) (fun _=>⟨113,[(6,.p 6 0),(7,.p 7 0),(8,.v (vi 0))],[(7,.var (newD r n d p'.fls).cs),(6,.var (morC r (newD r n d p'.fls)).cs)],[]⟩) ?_ ?_
    .intro E hE1;refine bt qu4 ?_;refine am trivial ?_
     try simp only[vf,vd,uz,bg,bn]
     repeat' (with_reducible refine ai ?_ ?_)
     all_goals refine hE1 () _ trivial ?_
     all_goals exact bl [6,7] [6,7,8] rfl rfl rfl (fun i k e=>by
      rw[af,af] at e;split at e
      .exact zt
      split at e
      .exact zt
      .cases e) rfl
    intro _ _
    show aw _ _ _ ⟨113,[(6,.p 6 0),(7,.p 7 0),(8,.v (vi 0))],[(7,.var (newD r n d p'.fls).cs),(6,.var (morC r (newD r n d p'.fls)).cs)],[]⟩ _
    exact za
   rw[um hc14] at hP;have e:chgd (morC r (newD r n d p'.fls))=(ic,ea (morC r (newD r n d p'.fls))):=by unfold chgd;rw[um hc14]
   rw[e,hP];refine rcW (un hc14) (je7 _) ?_;exact zc4
  have hdv:digV (newC r n d p'.fls)=.tup [.str [],vi 1]:=ng (fun h=>hcb ((jea _).2 h));rw[hdv];rw[um (yz.2 hcb)] at hP;rw[hP];refine rc (je7 _) ?_;exact zc4
 have he:desP r n d=(ic,crtZ,kg r n d):=by unfold desP desE;rw[um hz,um hz]
 rw[he];refine rcW (un hz) (je7 _) ?_;exact zc4
def ex14:Rgs:=⟨[⟨1,[65],0,1048576,[]⟩],[⟨1,0,1048576,[⟨[49],[84]⟩,⟨[49,46,49],[84]⟩],[]⟩],[⟨7,1,5,10,[49,46,49],[84],0,[]⟩],[⟨3,[49],[99,108,111,115,101,100],0,false,1,0,1048576⟩],[⟨2,1,7,[],[82],12,20⟩],
 [⟨1,1,[65],0,1048576⟩,⟨2,1,[66],0,1048576⟩,⟨3,2,[67],0,1048576⟩],[],[⟨1,11,1,[7],1048576⟩],[⟨1,11,2⟩,⟨1,20,3⟩],[],[],0⟩
theorem qps:desE ex14 1 20=0:=by decide +kernel
theorem qpu:ea ex14=0:=by decide +kernel
theorem qpr:kg ex14 1 19=22:=by decide +kernel
inductive WkS (size:Nat):List (List V)->List (List V)->Prop
 |nil:WkS size [] []
 |cons {a b:List V} {l m:List (List V)} (h:Wks a b) (hs:b.length=size) (ho:(b.all fun v=>v.one)=true) (t:WkS size l m):WkS size (a::l) (b::m)
theorem WkS.wk{size:Nat}{l m:List (List V)}(h:WkS size l m):Wk (.slice size l) (.slice size m):=by
  have hl:l.length=m.length:=by induction h with|nil=>rfl|cons _ _ _ _ ih=>simp[ih]
  refine Wk.slice hl (fun e he=>?_) (fun e he c hc=>?_) ?_
  . clear hl
    induction h with
    |nil=>cases he
    | cons _ hs _ _ ih => rcases vg.1 he with rfl | he; · exact hs
                          . exact ih he
  . clear hl
    induction h with
    |nil=>cases he
    | cons _ _ ho _ ih => rcases vg.1 he with rfl | he; · exact vj.1 ho c hc
                          . exact ih he
  clear hl
  induction h with
  |nil=>intro i j e u v c h1;simp at h1
  | cons hw _ _ _ ih=>
    intro i j e u v c h1 h2 h3 h4;cases i with
    | zero=>
      simp only[List.getElem?_cons_zero,uu] at h1 h2;subst h1 h2;obtain⟨v',q1,q2⟩:=hw.get h4;rw[h3] at q1;cases q1;exact q2
    |succ i=>exact ih i j e u v c (by simpa using h1) (by simpa using h2) h3 h4
theorem jmq:ex14.Fit:=by
 refine⟨⟨dcq,fun o ho=>?_⟩,⟨dcq,fun p hp=>?_⟩,⟨dcq,fun f hf=>?_⟩,⟨dcq,fun q hq=>?_⟩,⟨dcq,fun q hq=>?_⟩,⟨dcq,fun q hq=>?_⟩,⟨dcq,fun q hq=>(by cases hq)⟩,⟨dcq,fun q hq=>?_⟩,dcq,⟨dcq,fun q hq=>(by cases hq)⟩,dcq⟩
 .simp only[ex14,vg,xz,ya] at ho;subst ho;exact⟨dcq,dcq⟩
 .simp only[ex14,vg,xz,ya] at hp;subst hp;refine⟨dcq,dcq,fun c hc=>?_,fun c hc=>(by cases hc)⟩;simp only[vg,xz,ya] at hc;rcases hc with rfl|rfl<;>exact⟨dcq,dcq⟩
 .simp only[ex14,vg,xz,ya] at hf;subst hf;exact⟨dcq,dcq,dcq,fun n hn=>(by cases hn)⟩
 .exact zdp
 .exact zdp
 .simp only[ex14,vg,xz,ya] at hq;rcases hq with rfl|rfl|rfl<;>decide
 simp only[ex14,vg,xz,ya] at hq;subst hq;decide
theorem qeg:Den prog T 12 [] (.agg ex14.cs):=by
 refine ab call12 func12 34 ?_;refine run ?_;refine finW (jzp ?_ rfl);refine .cons (WkS.wk (.cons ?_ rfl rfl .nil)) (.cons (WkS.wk (.cons ?_ rfl rfl .nil)) (.cons (WkS.wk (.cons ?_ rfl rfl .nil)) (.cons (.refl _) (.cons (.refl _) (.cons (.refl _) ?_)))))
 all_goals repeat (first|exact .nil|refine .cons (.refl _) ?_|refine .cons (.nil _) ?_)
def jf8:Str:=[99,101,114,116,105,102,105,99,97,116,101,32,49,32,112,114,111,112,111,115,97,108,32,49,32,100,97,121,32,50,48,32,102,105,108,101,115,32,55,10]
theorem qpq:crtT (newC ex14 1 20 [7])=jf8++List.replicate 32 0:=by decide +kernel
theorem qpt:crtB (newC ex14 1 20 [7])=true:=by decide +kernel
theorem qqn(c:Crt)(s:Str):crtT { c with dig:=s } = crtT c:=rfl
theorem qqo(c:Crt)(s:Str):crtB { c with dig:=s } = crtB c:=rfl
theorem qi7:jia [newD ex14 1 20 [7]]=(-1,0):=by
 have h:dt [newD ex14 1 20 [7]] 0=true:=by
  unfold dt;simp only[List.getElem?_cons_zero];unfold sk newD;rw[qqn,qqo,qpt];simp only[yc];decide +kernel
 unfold jia;rw[ir dcq fun i hi=>?_];have:i=0:=by simp at hi;exact hi
 subst this;rw[um h]
theorem qlt:desP ex14 1 20=(morC ex14 (newD ex14 1 20 [7]),newD ex14 1 20 [7],0):=by
 rw[qbg 1 20 dcq (fun p hp=>by
  simp only[ex14,vg,xz,ya] at hp;subst hp
  decide)]
 unfold desR;rw[ul (fun e=>e qps)];rfl
theorem jn4:∀n:Nat,byL (List.replicate n (vb8 0))=some (List.replicate n 0)
 |0=>rfl
 |n+1=>by rw[List.replicate_succ,byL,jn4 n];rfl
theorem qgp(L:LibT T):Den prog T 4 [] (vb true):=by
 have c0:=qeg (T:=T)
 have c1:Den prog T 6 [.agg ex14.cs,vi 1,vi 20] (.tup [.agg (morC ex14 (newD ex14 1 20 [7])).cs,.agg (newD ex14 1 20 [7]).cs,vi 0]):=by
  have:=jta L ex14 jmq 1 20 dcq
  rwa [qlt] at this
 have c2:=jrt L (jf8++List.replicate 32 0) dcq
 have c4:Den prog T 15 [.agg ex14.cs] (vi 0):=by
  have:=jjd L ex14 jmq
  rwa [qpu] at this
 have c5:Den prog T 8 [.agg ex14.cs,vi 1,vi 19] (vi 22):=by
  have:=jja L ex14 jmq 1 19
  rwa [qpr] at this
 have hdig:(newD ex14 1 20 [7]).dig=sumD (jf8++List.replicate 32 0):=by rw[<- qpq];rfl
 have hcrs:(morC ex14 (newD ex14 1 20 [7])).crs=[newD ex14 1 20 [7]]:=rfl
 have c3:Den prog T 14 [crts (morC ex14 (newD ex14 1 20 [7])).crs] (.tup [vi (-1),vi 0]):=by
  have:=qji L [newD ex14 1 20 [7]] ⟨dcq,fun c hc=>by
   rw[xy.1 hc];refine⟨dcq,by decide +kernel,?_⟩;rw[hdig,jdv]
   decide⟩
  rw[qi7] at this;exact this
 have hlen:(morC ex14 (newD ex14 1 20 [7])).crs.length=1:=rfl;have hsl:=jdv (jf8++List.replicate 32 0);obtain⟨R,hR⟩:∃R,morC ex14 (newD ex14 1 20 [7])=R:=⟨_,rfl⟩;obtain⟨D,hD⟩:∃D,newD ex14 1 20 [7]=D:=⟨_,rfl⟩;obtain⟨S,hS⟩:∃S,sumD (jf8++List.replicate 32 0)=S:=⟨_,rfl⟩;obtain⟨X,hX⟩:∃X,ex14=X:=⟨_,rfl⟩;rw[hR,hD] at c1;rw[hR] at c3 hlen;rw[hD,hS] at hdig;rw[hS] at c2 hsl;rw[hX] at c0 c1 c4 c5;clear hR hD hS hX hcrs;have hby:=jn4 32;refine ab call4 func4 62 ?_;refine rc c0 ?_;refine rc c1 ?_;refine runW hby ?_;intro r' hnm;have q1:(List.replicate 32 (vb8 0)).length=32:=rfl;have q2:List.take 32 (List.replicate 32 (vb8 0))=List.replicate 32 (vb8 0):=rfl;have q3:(List.replicate 32 (0:UInt8)).length=32:=rfl;refine rcW (ai q1 (ai q2 (ai q3 hby))) c2 ?_;refine rcW trivial c3 ?_;refine rcW hlen c4 ?_;refine rcW hlen c5 ?_;refine runW (ai hlen (ai hdig hsl)) ?_;exact fin rfl
def bigC(c:Crt):Bool:=(decide (12<c.fls.length) && !decide (c.fls.length=257)) || decide (100<c.bef.length) || decide (100<c.dig.length)
def ji7(l:List Crt):Bool:=(decide (12<l.length) && decide (l.length<=1024)) || decide (1029<l.length)
def jb2(l:List Crt):Bool:= !ji7 l && !l.any bigC
def jf0(r:Rgs):Bool:=(decide (10<r.cks.length) && decide (r.cks.length<=32)) || decide (37<r.cks.length) || decide (8<r.pps.length) || decide (20<r.aps.length)
def jf7(r:Rgs):Bool:=fewG r && !jf0 r && !(r.cks.any fun c=>decide (100<c.name.length)) && !(r.pps.any fun p=>decide (12<p.fls.length)) && jb2 r.crs
theorem qfv(l:List Crt)(hl:l.length<=1048576/\∀c∈l,c.fls.length<=1048576/\c.bef.length<=1048576/\c.dig.length<=1048576):Den prog T 17 [crts l] (vb (jb2 l)):=by
 obtain⟨hl0,hl1⟩:=hl;refine ab call17 func17 57 ?_;unfold jb2
 have hm:(ji7 l=true/\((12<l.length/\l.length<=1024)\/1029<l.length))\/(ji7 l=false/\¬ 1029<l.length/\(12<l.length->¬l.length<=1024)):=by
  unfold ji7;by_cases h1:12<l.length<;>by_cases h2:l.length<=1024<;>by_cases h3:1029<l.length<;>simp[h1,h2,h3]<;>omega
 rcases hm with⟨h0,h1⟩|⟨h0,h3,h4⟩
 .rw[h0];rcases h1 with⟨h1,h2⟩|h3
  .exact za
  exact za
 rw[h0];by_cases h1:12<l.length
 .have h2:=h4 h1;refine runW trivial ?_;refine aj ⟨[3,0],[],[],[]⟩ l.length (fun k=>∀c∈l.take k,bigC c=false) smq ?_;rintro k ⟨hk,hall⟩;by_cases hlt:k<l.length
  .obtain⟨c,hx,-,hmm⟩:=ac hlt;obtain⟨hf,hb,hd⟩:=hl1 c hmm;have bad:bigC c=true->l.any bigC=true:=fun h=>vp.2 ⟨c,hmm,h⟩;have next:bigC c=false->∀x∈l.take (k+1),bigC x=false:=fun h=>an hall hx h;by_cases q1:12<c.fls.length
   .by_cases q2:c.fls.length=257
    .by_cases q3:100<c.bef.length
     .exact zcq
     by_cases q4:100<c.dig.length
     .exact zcp
     exact zdv
    rw[bad (by unfold bigC;simp[q1,q2])];exact zf
   by_cases q3:100<c.bef.length
   .exact zcq
   by_cases q4:100<c.dig.length
   .exact zcp
   exact zdw
  have ha:l.any bigC=false:=vn.2 fun x hx=>by rw[dh hall hlt x hx];decide
  rw[ha];exact za
 refine runW trivial ?_;refine aj ⟨[3,0],[],[],[]⟩ l.length (fun k=>∀c∈l.take k,bigC c=false) smq ?_;rintro k ⟨hk,hall⟩;by_cases hlt:k<l.length
 .obtain⟨c,hx,-,hmm⟩:=ac hlt;obtain⟨hf,hb,hd⟩:=hl1 c hmm;have bad:bigC c=true->l.any bigC=true:=fun h=>vp.2 ⟨c,hmm,h⟩;have next:bigC c=false->∀x∈l.take (k+1),bigC x=false:=fun h=>an hall hx h;by_cases q1:12<c.fls.length
  .by_cases q2:c.fls.length=257
   .by_cases q3:100<c.bef.length
    .exact zcq
    by_cases q4:100<c.dig.length
    .exact zcp
    exact zdv
   rw[bad (by unfold bigC;simp[q1,q2])];exact zf
  by_cases q3:100<c.bef.length
  .exact zcq
  by_cases q4:100<c.dig.length
  .exact zcp
  exact zdw
 have ha:l.any bigC=false:=vn.2 fun x hx=>by rw[dh hall hlt x hx];decide
 rw[ha];exact za
theorem qna(r:Rgs)(h:r.Fit):Den prog T 5 [.agg r.cs] (vb (jf7 r)):=by
 have hk:=h.cks.1;have hp:=h.pps.1;have ha:=h.aps;have hG:=qqe (T:=T) r h;have hC:=qfv (T:=T) r.crs h.crs;refine ab call5 func5 71 ?_;unfold jf7;refine rc hG ?_;cases e1:fewG r
 .exact za
 have hm:(jf0 r=true/\((10<r.cks.length/\r.cks.length<=32)\/37<r.cks.length\/(8<r.pps.length/\¬ 37<r.cks.length/\(10<r.cks.length->¬r.cks.length<=32))\/(20<r.aps.length/\¬ 8<r.pps.length/\¬ 37<r.cks.length/\(10<r.cks.length->¬r.cks.length<=32))))\/
   (jf0 r=false/\¬ 20<r.aps.length/\¬ 8<r.pps.length/\¬ 37<r.cks.length/\(10<r.cks.length->¬r.cks.length<=32)):=by
  unfold jf0;by_cases h1:10<r.cks.length<;>by_cases h2:r.cks.length<=32<;>by_cases h3:37<r.cks.length<;>by_cases h4:8<r.pps.length<;>by_cases h5:20<r.aps.length<;>simp[h1,h2,h3,h4,h5]<;>omega
 rcases hm with⟨h0,h1⟩|⟨h0,h5,h4,h3,h2⟩
 .rw[h0];rcases h1 with⟨h1,h2⟩|h3|⟨h4,h3,h2⟩|⟨h5,h4,h3,h2⟩
  .exact za
  .exact za
  .by_cases h1:10<r.cks.length
   .have:=h2 h1;exact za
   exact za
  by_cases h1:10<r.cks.length
  .have:=h2 h1;exact za
  exact za
 rw[h0];apply qqu ⟨71,[(1,.p 1 0),(3,.v (vi (0:Nat)))],[(1,.var r.cs)],[]⟩
 .intro tail;by_cases h1:10<r.cks.length
  .have:=h2 h1;refine run ?_;exact tail _ (bl [1] [1,3] rfl rfl rfl (fun _ _ e=>e) rfl)
  refine run ?_;exact tail _ (bl [1] [1,3] rfl rfl rfl (fun _ _ e=>e) rfl)
 refine aj ⟨[3,1],[1],[],[]⟩ r.cks.length (fun k=>∀c∈r.cks.take k,decide (100<c.name.length)=false) smq ?_;rintro k ⟨hk,hall⟩;by_cases hlt:k<r.cks.length
 .obtain⟨c,hx,-,hmm⟩:=ac hlt;have hn:=h.cks.2 c hmm;by_cases q1:100<c.name.length
  .have:(r.cks.any fun c=>decide (100<c.name.length))=true:=vp.2 ⟨c,hmm,ur q1⟩;rw[this];exact zf
  refine runW hx ?_;exact round (k+1) ⟨hlt,an hall hx (ux q1)⟩ omq
 have hn0:(r.cks.any fun c=>decide (100<c.name.length))=false:=vn.2 fun x hx=>by rw[dh hall hlt x hx];decide
 rw[hn0];clear hall;refine run ?_;refine aj ⟨[4,1],[1],[],[]⟩ r.pps.length (fun k=>∀c∈r.pps.take k,decide (12<c.fls.length)=false) smq ?_;rintro j ⟨hj,hall⟩;by_cases hjl:j<r.pps.length
 .obtain⟨c,hx,-,hmm⟩:=ac hjl;have hn:=h.pps.2 c hmm;by_cases q1:12<c.fls.length
  .have:(r.pps.any fun p=>decide (12<p.fls.length))=true:=vp.2 ⟨c,hmm,ur q1⟩;rw[this];exact zf
  refine runW hx ?_;exact round (j+1) ⟨hjl,an hall hx (ux q1)⟩ omq
 have hp0:(r.pps.any fun p=>decide (12<p.fls.length))=false:=vn.2 fun x hx=>by rw[dh hall hjl x hx];decide
 rw[hp0,show (!false && jb2 r.crs)=jb2 r.crs from by cases jb2 r.crs<;>rfl];refine rc hC ?_;exact za
structure Few14 (r:Rgs):Prop where
 g:fewG r=true
 crs:r.crs.length<=8
 pps:r.pps.length<=8
 aps:r.aps.length<=20
 cks:r.cks.length<=37
 fls:∀p∈r.pps,p.fls.length<=12
 crt:∀c∈r.crs,c.fls.length<=257/\c.bef.length<=100/\c.dig.length<=100
theorem qpp{r:Rgs}(h:jf7 r=true):Few14 r:=by
 unfold jf7 at h;simp only[uw,qvu] at h;obtain⟨⟨⟨⟨h1,h2⟩,-⟩,h4⟩,h5⟩:=h;unfold jf0 at h2;simp only[Bool.or_eq_false_iff,Bool.and_eq_false_iff,qvy] at h2;unfold jb2 at h5;simp only[uw,qvu] at h5;have hg:=h1;unfold fewG jr9 at hg;simp only[uw,qvu,qvy] at hg;refine⟨h1,omq,omq,omq,omq,fun p hp=>?_,fun c hc=>?_⟩
 .have:=vn.1 h4 p hp;simp at this;omega
 have:=vn.1 h5.2 c hc;unfold bigC at this;simp at this;omega
end Go.Arc
