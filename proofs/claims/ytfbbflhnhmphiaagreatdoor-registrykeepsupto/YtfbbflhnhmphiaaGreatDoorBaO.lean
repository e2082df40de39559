/- A part of this claim. -/
import Derived.Test.YtfbbflhnhmphiaaGreatDoorW138
import Derived.Test.YtfbbflhnhmphiaaGreatDoorW137
set_option maxHeartbeats 16000000
set_option maxRecDepth 100000
namespace Go.Arc
open Go.Ab Go.RowKit Go.Proofs Tryz
variable {T : Lay}
variable {P:Program}{k:Nat}{r:Rgs}{ks:List (Nat×Blk)}{res:Rgs}{p:Prp}{cs:List V}{l:List Prp}{a:Apv}{n:Nat}{b:Blk}{st:St}{i:Nat}{u:Crt}{v:V}{d:Int}
def jiu(r:Rgs)(pre:List Apv)(q:Option Apv)(a:Apv)(p:Prp):List (Bool×Int):=
 [(!(decide (p.day<=a.day) && decide (a.day<=1048575)),2),(jck q a,5),(decide (p.wdr<=a.day),11),(!pt r.cks a.clk a.day,7),(decide (a.clk=p.clk),22),(pre.any (jd1 a),6)]
theorem qlo(r:Rgs)(pre:List Apv)(q:Option Apv)(a:Apv)(p:Prp):fstB (jiu r pre q a p)=apvE r pre q a p:=by
 unfold apvE jiu;simp only[fstB];by_cases h1:a.day<p.day\/1048575<a.day
 .rw[ve h1,ve zep]
 rw[vd h1,vd zep];by_cases h2:jck q a=true
 .rw[ve h2,ve h2]
 rw[vd h2,vd h2];by_cases h3:p.wdr<=a.day
 .rw[ve h3,ve (vl h3)]
 rw[vd h3,vd zep];cases h4:pt r.cks a.clk a.day
 .rfl
 simp only[xbs,yw,reduceCtorEq,xy];by_cases h5:a.clk=p.clk
 .rw[ve h5,ve (vl h5)]
 rw[vd h5,vd (by simp[h5])]
theorem qt0(b a:Apv):Den prog T 130 [.agg b.cs,.row a.cs] (vb (jd1 a b)):=by
 refine ab call130 func130 16 ?_;unfold jd1;by_cases h1:b.prp=a.prp
 .refine runW (vg h1) ?_;exact z6
 exact zc9
abbrev gr134:List Gent:=gd 25 [[0,0,0],[1,1,0,0],[3,2,0],[7,3,0],[15,4,0,0],[31,5,0],[63,6,0,0],[127,7,0],[255,8,0],[511,9,0],[1023,10,0],[2047,11,0,0],[4095,12,0,0],[8191,13,0],[16383,14,0,0],[32767,15,0],[65535,16,0],[131071,17,0],[262143,18,0,0],[524287,19,1,20,2,21,0],[2621439,19,4,20,2],[1048575,20,2,21,3],[1572863,19,1,21,0],[3670015,19,2,0,0,0],[2097151,21,1,0,0,0],[3145727,20,0,0,0,0],[4194303,22,0,0,0,0],[8388607,23,0,0,0,0],[16777215,24,0,0,0,0],[33554431]]
theorem qfk(r:Rgs)(h:r.Fit)(i:Nat)(hi:i<r.aps.length):Den prog T 51 [.agg r.cs,vi i] (vi (ll r i)):=by
 have hl:=h.aps;have hpl:=h.pps.1;obtain⟨a,hc,-,hm⟩:=af hi;obtain⟨q,hq,-,-⟩:=af (l:=r.aps) (k:=i-1) omq;have hfind:=jea (T:=T) r h a.prp;have ht:(r.aps.map Apv.cs).take i=(r.aps.take i).map Apv.cs:=by rw[xb4]
 refine ab call51 func51 82 ?_;refine runD (ai hc hq) ?_;refine jco 2 ?_;refine fj (st':=⟨82,[(1,.v (vi i)),(2,.p 2 0)],[(2,.con r.cs)],[]⟩) ⟨[1,2],[2],[],[]⟩ rfl ?_;refine aq gr134 ?_;refine tz (fun _:Unit=>True) ⟨[1,2,5,6,7],[2,5,6],[],[]⟩ (fun _=>⟨82,[(1,.v (vi i)),(2,.p 2 0),(5,.p 5 0),(6,.p 6 0),(7,.v (vi (jm r.pps a.prp)))],[(2,.con r.cs),(5,.var a.cs),(6,.var q.cs)],[]⟩) (fun st st' hk h=>fj _ hk h) ?_ (fun K' hK=>?_)
 rotate_left
 .refine ax (ai hc (ai hq (jem i))) ?_
  try simp only[xaq]
  apply viaA
  .have hX:=fun k kn m h=>call (k:=k) (kn:=kn) (m:=m) hfind h
   repeat' (first|with_reducible apply yh|exact hX _ _ _)
  refine ax (ai hc (ai hq (jem i))) ?_
  try simp only[xg,xa]
  repeat' (with_reducible refine ai ?_ ?_)
  all_goals exact rg hK () trivial
 intro _ _;rcases ee (cq a.prp) r.pps with⟨h1,h2⟩|⟨k,p,h1,hk,hx,hpm,h2⟩
 .have he:ll r i=7:=by unfold ll;rw[hc];simp only;rw[h2]
  rw[he];have h1:jm r.pps a.prp= -1:=h1;rw[h1];exact za
 have he:ll r i=fstB (jiu r (r.aps.take i) (bm r.aps i) a p):=by
  rw[qlo];unfold ll;rw[hc];simp only;rw[h2]
 rw[he];have h1:jm r.pps a.prp=(k:Int):=h1;rw[h1];have hA:=jvf (T:=T) (r.aps.take i) 130 [.row a.cs] (jd1 a) ze8 fun b _=>qt0 b a;have hC:=jtt (T:=T) r h a.clk a.day;have hIn:=tj (T:=T) a.day p.day 1048575
 have hF:∀b1 b2 b3 b4 b5 b6,Den prog T 115 [.slice 1 [wRow b1 2,wRow b2 5,wRow b3 11,wRow b4 7,wRow b5 22,wRow b6 6]] (vi (fstB [(b1,2),(b2,5),(b3,11),(b4,7),(b5,22),(b6,6)])):=fun b1 b2 b3 b4 b5 b6=>
  jdt _ _ (.cons (fh _ _) (.cons (fh _ _) (.cons (fh _ _) (.cons (fh _ _) (.cons (fh _ _) (.cons (fh _ _) .nil)))))) (by show (6:Nat)<=1048576;decide)
 unfold jiu
 have hp:(¬ 0<(i:Int)/\jck (bm r.aps i) a=false)\/(0<(i:Int)/\jck (bm r.aps i) a=decide (a.day<q.day)):=by
  by_cases h0:i=0
  .left;subst h0;exact⟨dcq,rfl⟩
  right;refine⟨omq,?_⟩;unfold bm;rw[vd h0,hq];rfl
 refine runD hx ?_;refine jrn (h':=[(8,.var p.cs),(2,.con r.cs),(5,.con a.cs),(6,.var q.cs)]) rfq rfl krq rfq krq ?_;rcases hp with⟨h0,hpv⟩|⟨h0,hpv⟩<;>rw[hpv] <;>
 .refine rcW (ai hx ht) hIn ?_;refine rcW ht (de _ 2) ?_;refine rcW ht (de _ 5) ?_;refine rcW ht (de _ 11) ?_;refine rcW ht hC ?_;refine rcW ht (de _ 7) ?_;refine rcW ht (de _ 22) ?_;refine rcW ht hA ?_;refine rcW ht (de _ 6) ?_;refine rcW ht (hF _ _ _ _ _ _) ?_;exact za
theorem qow(L:LibT T)(r:Rgs)(h:r.Fit)(i:Nat)(hi:i<r.crs.length):Den prog T 132 [.row r.cs,.row [vi i]] (rowV (!ly r.crs i,14)):=by
 refine ab call132 func132 9 ?_;refine rc (qkd L r.crs i h.crs hi) ?_;exact zbm
theorem qep(L:LibT T)(r:Rgs)(h:r.Fit)(i:Nat)(hi:i<r.crs.length):Den prog T 52 [.agg r.cs,vi i] (vi (iy r i)):=by
 have hl:=h.crs.1;have hpl:=h.pps.1;obtain⟨c,hc,-,hm⟩:=af hi;have hfc:=(h.crs.2 c hm).1;refine ab call52 func52 32 ?_;refine rcW hc (jea r h c.prp) ?_;rcases ee (cq c.prp) r.pps with⟨h1,h2⟩|⟨k,p,h1,hk,hx,hpm,h2⟩
 .have he:iy r i=7:=by unfold iy;rw[hc];simp only;rw[h2]
  rw[he];have h1:jm r.pps c.prp= -1:=h1;rw[h1];exact za
 have he:iy r i=fstB [(!decide (c.fls=p.fls),10),(!ly r.crs i,14)]:=by
  unfold iy;rw[hc];simp only;rw[h2];simp only[fstB];by_cases h1:c.fls=p.fls
  .simp[h1]
  simp[h1]
 rw[he];have h1:jm r.pps c.prp=(k:Int):=h1;rw[h1]
 have hF:∀b,Den prog T 115 [.slice 1 [wRow b 10,[.func 132 [.row r.cs,.row [vi i]]]]] (vi (fstB [(b,10),(!ly r.crs i,14)])):=fun b=>
  jdt _ _ (.cons (fh _ _) (.cons (qow L r h i hi) .nil)) (by show (2:Nat)<=1048576;decide)
 refine rcW hx (qkm c.fls p.fls hfc) ?_;refine rc (de _ 10) ?_;refine rc (hF _) ?_;exact za
theorem jhl(r:Rgs)(n:Nat)(f:FuncId)(cap:List V)(g:Nat->Int)(hn:n<=1048576)(hg:∀i,i<n->Den prog T f (.agg r.cs::vi i::cap) (vi (g i))):Den prog T 53 [.agg r.cs,vi n,.func f cap] (vi (chk n n g).2):=by
 refine ab call53 func53 21 ?_;refine run ?_;refine dq ⟨[10,2,3,9],[3],[],[]⟩ n (fun k=>∀i,i<k->g i=0) (fun i hi=>absurd hi (xba i)) ?_;rintro k ⟨hk,hall⟩;by_cases hlt:k<n
 .refine rc (hg k hlt) ?_;by_cases hz:g k=0
  .refine runW hz ?_;refine round (k+1) ⟨omq,fun i hi=>?_⟩ omq;by_cases e:i=k
   .rw[e];exact hz
   exact hall i omq
  refine runW (vf hz) ?_;refine fin (bc ?_);rw[jf9 (Nat.lt_irrefl n) hlt hall hz]
 refine run ?_;refine fin (bc ?_);rw[jav (Nat.lt_irrefl n) fun i hi=>hall i omq]
theorem jca{lim:Nat}{f:Nat->Int}(h:¬lim<n):(chk lim n f).2=(chk n n f).2:=by unfold chk;rw[vd h,vd (Nat.lt_irrefl n)]
theorem jwy{l:List Int}{x:Int}(h:l[k]?=some x):fstE (l.drop k)=if x≠0 then x else fstE (l.drop (k+1)):=by
 obtain⟨hlt,rfl⟩:=gsi.1 h;exact zb9
abbrev lstV(n m:Int)(f:FuncId):List V:=[vi n,vi m,.func f []]
theorem ja3(L:LibT T)(r:Rgs)(h:r.Fit):Den prog T 25 [.agg r.cs] (vi (ce r)):=by
 have LC:=libC L;have hck:=h.cks.1;have hpp:=h.pps.1;have hap:=h.aps;have hcr:=h.crs.1;refine ab call25 func25 54 ?_;refine rc (jl4 LC r h) ?_;unfold ce;by_cases hg:checkG r=0
 case neg=>
  have he:fstE (checkG r::chkN r)=checkG r:=by show (if checkG r≠0 then _ else _)=_;rw[ve hg]
  rw[he];refine runW (vf hg) ?_;exact fin rfl
 have he:fstE (checkG r::chkN r)=fstE (chkN r):=by show (if checkG r≠0 then _ else _)=_;rw[vd (fun e=>e hg)]
 rw[he];refine runW hg ?_;obtain⟨LL,hLL⟩:∃l:List (List V),[lstV r.cks.length 32 49,lstV r.pps.length 1024 50,lstV r.aps.length 1024 51,lstV r.crs.length r.crs.length 52]=l:=⟨_,rfl⟩;have l0:LL[0]?=some (lstV r.cks.length 32 49):=by rw[<- hLL];rfl
 have l1:LL[1]?=some (lstV r.pps.length 1024 50):=by rw[<- hLL];rfl
 have l2:LL[2]?=some (lstV r.aps.length 1024 51):=by rw[<- hLL];rfl
 have l3:LL[3]?=some (lstV r.crs.length r.crs.length 52):=by rw[<- hLL];rfl
 have e0:=jhl (T:=T) r r.cks.length 49 [] (my r.cks) hck fun i hi=>qko LC r h i hi;have e1:=jhl (T:=T) r r.pps.length 50 [] (mt r) hpp fun i hi=>qfb r h i hi;have e2:=jhl (T:=T) r r.aps.length 51 [] (ll r) hap fun i hi=>qfk r h i hi;have e3:=jhl (T:=T) r r.crs.length 52 [] (iy r) hcr fun i hi=>qep L r h i hi
 refine loop ⟨[1,33,34,35],[1],[],[]⟩ (fun k:Nat=>k<=4/\fstE (chkN r)=fstE ((chkN r).drop k)) (fun k=>4-k)
  (fun k=>⟨54,[(1,.p 1 0),(33,.v (.slice 3 LL)),(34,.v (vi 4)),(35,.v (vi k))],[(1,.var r.cs)],[]⟩) 0 ⟨vj _,rfl⟩ ?_ ?_
 .rintro k ⟨hk,hall⟩
  have next:∀ {x:Int},(chkN r)[k]?=some x->x=0->fstE (chkN r)=fstE ((chkN r).drop (k+1)):=fun {x} hx hz=>by
   rw[hall,jwy hx,vd (fun e=>e hz)]
  have out:∀ {x y:Int},(chkN r)[k]?=some x->x=y->y≠0->(vi y:V)=vi (fstE (chkN r)):=fun {x y} hx hxy hz=>by
   subst hxy;rw[hall,jwy hx,ve hz]
  have hcs:k=0\/k=1\/k=2\/k=3\/k=4:=omq;rcases hcs with rfl|rfl|rfl|rfl|rfl
  .by_cases hm:32<r.cks.length
   .refine runW l0 ?_;exact fin (out (x:=(chk 32 r.cks.length (my r.cks)).2) rfl (by rw[ub hm]) dcq)
   refine rcW l0 e0 ?_;by_cases hz:(chk r.cks.length r.cks.length (my r.cks)).2=0
   .refine runW hz ?_;exact round 1 ⟨omq,next (x:=(chk 32 r.cks.length (my r.cks)).2) rfl (by rw[jca hm];exact hz)⟩ omq
   refine runW (vf hz) ?_;exact fin (out (x:=(chk 32 r.cks.length (my r.cks)).2) rfl (jca hm) hz)
  .by_cases hm:1024<r.pps.length
   .refine runW l1 ?_;exact fin (out (x:=(chk 1024 r.pps.length (mt r)).2) rfl (by rw[ub hm]) dcq)
   refine rcW l1 e1 ?_;by_cases hz:(chk r.pps.length r.pps.length (mt r)).2=0
   .refine runW hz ?_;exact round 2 ⟨omq,next (x:=(chk 1024 r.pps.length (mt r)).2) rfl (by rw[jca hm];exact hz)⟩ omq
   refine runW (vf hz) ?_;exact fin (out (x:=(chk 1024 r.pps.length (mt r)).2) rfl (jca hm) hz)
  .by_cases hm:1024<r.aps.length
   .refine runW l2 ?_;exact fin (out (x:=(chk 1024 r.aps.length (ll r)).2) rfl (by rw[ub hm]) dcq)
   refine rcW l2 e2 ?_;by_cases hz:(chk r.aps.length r.aps.length (ll r)).2=0
   .refine runW hz ?_;exact round 3 ⟨omq,next (x:=(chk 1024 r.aps.length (ll r)).2) rfl (by rw[jca hm];exact hz)⟩ omq
   refine runW (vf hz) ?_;exact fin (out (x:=(chk 1024 r.aps.length (ll r)).2) rfl (jca hm) hz)
  .refine rcW l3 e3 ?_;by_cases hz:(chk r.crs.length r.crs.length (iy r)).2=0
   .refine runW hz ?_;exact round 4 ⟨omq,next (x:=(chk r.crs.length r.crs.length (iy r)).2) rfl hz⟩ omq
   refine runW (vf hz) ?_;exact fin (out (x:=(chk r.crs.length r.crs.length (iy r)).2) rfl rfl hz)
  refine run ?_;refine fin (bc ?_);rw[hall];rfl
 rw[<- hLL];rfl
def vc(res:Rgs)(ks:List (Nat×Blk))(b:Blk)(v:V):Prop:=ks=[(999000,.var res.cs)]/\(∃cs,b=.con cs)/\v=.tup []
theorem jek(h:vc res ks b v):okZ ks=true/\Ab.look 999050 ks=none:=by
 obtain⟨rfl,-,-⟩:=h;exact⟨rfl,rfl⟩
theorem jsf(h1:Ab.look 999000 st.h=some (.var res.cs))(h2:Ab.look i st.h=some (.con cs))(hi:i ∉ [999000]:=by decide):jch P [] (vc res) .nm st:=by
 refine⟨[(999000,.var res.cs)],.con cs,.tup [],⟨rfl,⟨cs,rfl⟩,rfl⟩,?_,⟨i,.con cs,h2,?_,hi⟩,.tup [],rfl,.refl _⟩
 .intro x hx;rw[xn.1 hx];exact⟨_,h1,WkB.self _ _ _⟩
 exact zeb
theorem ag{α:Type}{f:α->List V}{l:List α}{P:Program}{w0 w:World}{M:Nat->Prop}{F0 F:Frz}{ρ:Nat->Nat}{a:Act}{n:Nat}{t:List (Nat×TV)}{hr:List (Nat×Blk)}{id q z:Nat}{cs:List V}{e:TypeId}{s:Option (Nat×Nat)}(j:Nat) 
  (S:SimS P T M F0 w0 F ρ ⟨n,t,(id,.var cs)::(rowB q (l.map f).flatten e z s++hr),[]⟩ a w) (hs:okB l.length s) (hj:cs[j]?=some (sOpt l.length s):=by rfl) (hz:∀x,(f x).length=z:=by intro _;rfl) (hids:∃ids,Ids hr ids/\ids.contains q=false/\ids.contains id=false:=by exact⟨_,by repeat (first|exact cf _|apply ez),rfl,rfl⟩)
  (hne:id≠q:=by decide) (hw:okW [(id,.var [])] t=true:=by rfl):∃F',SimS P T M F0 w0 F' ρ ⟨n,t,(id,.var (ba cs j [.slice z (l.map f)]))::hr,[]⟩ a w:=by
 obtain⟨ids,h1,h2,h3⟩:=hids;have:=qr7 (j:=j) S hs hj (by rw[ct hz];exact vo _) h1 h2 h3 hne hw
 rwa [il hz] at this
theorem rotH{w0 w:World}{M:Nat->Prop}{F0 F:Frz}{ρ:Nat->Nat}{a:Act}{t:List (Nat×TV)}{h1 X R:List (Nat×Blk)}{l m:List Nat}(S:SimS P T M F0 w0 F ρ ⟨n,t,h1++(X++R),[]⟩ a w)(hx:Ids X l:=by exact cf _)(hr:Ids R m:=by repeat (first|exact cf _|apply ez))(hd:(l.all fun i=> !m.contains i)=true:=by rfl)(hw:okW h1 t=true:=by rfl):
  SimS P T M F0 w0 F ρ ⟨n,t,h1++(R++X),[]⟩ a w:=qaq S hx hr hd hw
def cs_q(r:Rgs)(s:Option (Nat×Nat)):List V:=[ofcs r.ofs,bh r.pls,fils r.fls,ruls r.rls,hlds r.hls,clks r.cks,sels r.sls,sOpt r.pps.length s,apvs r.aps,crts r.crs,deps r.dps,vi r.chg]
def js7(r:Rgs)(s:Option (Nat×Nat)):Option Blk:=s.map fun x=>.var (r.pps.map Prp.cs).flatten (some x.1) (some (151,5,x.2))
theorem jt9(r:Rgs)(h:r.Fit):DenU prog T 296 [.agg r.cs] (fun ro v=>∃s,okB r.pps.length s/\ro=js7 r s/\v=.agg (cs_q r s)):=by
 refine jk3 r h _ ?_;rintro y ⟨hO,hP,hF,hU,hD,hC,hS,hQ,hA,hK,hM⟩ M F0 w0 F ρ a w S;obtain⟨F,S⟩:=ag (f:=Apv.cs) 8 S hA;obtain⟨F,S⟩:=ag (f:=Dep.cs) 10 S hM;obtain⟨F,S⟩:=ag (f:=Rul.cs) 3 S hU;obtain⟨F,S⟩:=ag (f:=Hld.cs) 4 S hD;obtain⟨F,S⟩:=ag (f:=Clk.cs) 5 S hC;obtain⟨F,S⟩:=ag (f:=Ofc.cs) 0 S hO;obtain⟨F,S⟩:=ag (f:=Plan.cs) 1 S hP;obtain⟨F,S⟩:=ag (f:=Fil.cs) 2 S hF;obtain⟨F,S⟩:=ag (f:=Sel.cs) 6 S hS;have S:=rotH (h1:=[(2,_)]) S;simp only[List.cons_append,List.nil_append] at S;obtain⟨F,S⟩:=ag (f:=Crt.cs) 9 S hK;refine⟨F,ρ,_,S,fun i=>(cs_q r y.sQ).getD i (vi 0),rfl,?_⟩;cases hs:y.sQ with
 |none=>rw[hs] at hQ;exact .inl ⟨none,hQ,rfl,rfl⟩
 |some z=>rw[hs] at hQ;exact .inr ⟨107,_,z.1,rfq,rfl,some z,hQ,rfl,rfl⟩
def cs_a(r:Rgs)(s:Option (Nat×Nat)):List V:=[ofcs r.ofs,bh r.pls,fils r.fls,ruls r.rls,hlds r.hls,clks r.cks,sels r.sls,prps r.pps,sOpt r.aps.length s,crts r.crs,deps r.dps,vi r.chg]
def qe1(r:Rgs)(s:Option (Nat×Nat)):Option Blk:=s.map fun x=>.var (r.aps.map Apv.cs).flatten (some x.1) (some (96,3,x.2))
theorem qgu(r:Rgs)(h:r.Fit):DenU prog T 296 [.agg r.cs] (fun ro v=>∃s,okB r.aps.length s/\ro=qe1 r s/\v=.agg (cs_a r s)):=by
 refine jk3 r h _ ?_;rintro y ⟨hO,hP,hF,hU,hD,hC,hS,hQ,hA,hK,hM⟩ M F0 w0 F ρ a w S;have S:=rotH (h1:=[(2,_)]) S;simp only[xb,List.cons_append,List.nil_append] at S;obtain⟨F,S⟩:=ag (f:=Dep.cs) 10 S hM;obtain⟨F,S⟩:=ag (f:=Rul.cs) 3 S hU;obtain⟨F,S⟩:=ag (f:=Hld.cs) 4 S hD;obtain⟨F,S⟩:=ag (f:=Clk.cs) 5 S hC;obtain⟨F,S⟩:=ag (f:=Ofc.cs) 0 S hO;obtain⟨F,S⟩:=ag (f:=Plan.cs) 1 S hP;obtain⟨F,S⟩:=ag (f:=Fil.cs) 2 S hF;obtain⟨F,S⟩:=ag (f:=Sel.cs) 6 S hS;obtain⟨F,S⟩:=ag (f:=Prp.cs) 7 S hQ;obtain⟨F,S⟩:=ag (f:=Crt.cs) 9 S hK;refine⟨F,ρ,_,S,fun i=>(cs_a r y.sA).getD i (vi 0),rfl,?_⟩;cases hs:y.sA with
 |none=>rw[hs] at hA;exact .inl ⟨none,hA,rfl,rfl⟩
 |some z=>rw[hs] at hA;exact .inr ⟨173,_,z.1,rfq,rfl,some z,hA,rfl,rfl⟩
def cs_k(r:Rgs)(s:Option (Nat×Nat)):List V:=[ofcs r.ofs,bh r.pls,fils r.fls,ruls r.rls,hlds r.hls,clks r.cks,sels r.sls,prps r.pps,apvs r.aps,sOpt r.crs.length s,deps r.dps,vi r.chg]
def js8(r:Rgs)(s:Option (Nat×Nat)):Option Blk:=s.map fun x=>.var (r.crs.map Crt.cs).flatten (some x.1) (some (48,6,x.2))
theorem qgt(r:Rgs)(h:r.Fit):DenU prog T 296 [.agg r.cs] (fun ro v=>∃s,okB r.crs.length s/\ro=js8 r s/\v=.agg (cs_k r s)):=by
 refine jk3 r h _ ?_;rintro y ⟨hO,hP,hF,hU,hD,hC,hS,hQ,hA,hK,hM⟩ M F0 w0 F ρ a w S;obtain⟨F,S⟩:=ag (f:=Apv.cs) 8 S hA;obtain⟨F,S⟩:=ag (f:=Dep.cs) 10 S hM;obtain⟨F,S⟩:=ag (f:=Rul.cs) 3 S hU;obtain⟨F,S⟩:=ag (f:=Hld.cs) 4 S hD;obtain⟨F,S⟩:=ag (f:=Clk.cs) 5 S hC;obtain⟨F,S⟩:=ag (f:=Ofc.cs) 0 S hO;obtain⟨F,S⟩:=ag (f:=Plan.cs) 1 S hP;obtain⟨F,S⟩:=ag (f:=Fil.cs) 2 S hF;obtain⟨F,S⟩:=ag (f:=Sel.cs) 6 S hS;obtain⟨F,S⟩:=ag (f:=Prp.cs) 7 S hQ;refine⟨F,ρ,_,S,fun i=>(cs_k r y.sK).getD i (vi 0),rfl,?_⟩;cases hs:y.sK with
 |none=>rw[hs] at hK;exact .inl ⟨none,hK,rfl,rfl⟩
 |some z=>rw[hs] at hK;exact .inr ⟨110,_,z.1,rfq,rfl,some z,hK,rfl,rfl⟩
abbrev qdc:List Gent:=gd 11 [[0,0,0],[1,1,0],[3,5,0,0],[35,2,1,6,0],[99,2,1,0,0,0],[39,3,1],[103,3,2],[47,4,0,6,1],[63,6,1,0,0,0],[111,4,0,0,0,0],[127,7,0,0,0,0],[255,8,0,0,0,0],[511,9,0],[1023,10,0,0,0,0],[2047]]
theorem xa0(r:Rgs)(p:Prp)(s:Option (Nat×Nat))(hs:okB r.pps.length s)(hb:r.pps.length<=1048576):DenV prog T 235 [(999000,.var (cs_q r s))] 999050 (js7 r s) [.p 999000 0,.v (.row (Prp.cs p))] (vc (morP r p)):=by
 have post:∀(r:Rgs) (p:Prp),∀(M:Nat->Prop) (F0:Frz) (w0:World) (F:Frz) (ρ:Nat->Nat) (st:St) (a:Act) (w:World) (e:AX),SimS prog T M F0 w0 F ρ st a w->endX prog T .nm (fun x:Nat×Nat=>r.pps.length+1<=x.2/\x.2<=maxLen) (fun x:Nat×Nat=>⟨13,[],[(10,Blk.var ((r.pps++[p]).map Prp.cs).flatten (some x.1) (some (151,5,x.2))),(999000,Blk.var [ofcs r.ofs,bh r.pls,fils r.fls,ruls r.rls,hlds r.hls,clks r.cks,sels r.sls,.val (.slice (some ⟨x.1,0,none⟩) (r.pps.length+1) x.2),apvs r.aps,crts r.crs,deps r.dps,vi r.chg])],[]⟩) e st->∃F' ρ' st',SimS prog T M F0 w0 F' ρ' st' a w/\jch prog [] (vc (morP r p)) e st':=by
  rintro r p M F0 w0 F ρ st a w e X ⟨rfl,x,⟨hx1,hx2⟩,hs⟩;obtain⟨F',X⟩:=jeu (k:=10) (id:=999000) (j:=7) (n:=r.pps.length+1) (size:=5) (hs _ _ _ _ _ _ _ X) rfl rfl dcq rfl hx1 hx2 (by rw[ct (cs:=Prp.cs) (z:=5) (fun _=>rfl),vr];exact vo _);have hch:=il (cs:=Prp.cs) (z:=5) (fun _=>rfl) (r.pps++[p]);rw[vr] at hch;simp only[fcSt] at X;rw[show be 0 (r.pps.length+1) 5 ((r.pps++[p]).map Prp.cs).flatten=(r.pps++[p]).map Prp.cs from hch] at X;exact⟨F',ρ,_,X,jsf (i:=10) rfl rfl⟩
 rcases s with _|⟨b,c⟩
 .have hz:r.pps=[]:=yg hs;have hz1:r.pps.length+1=1:=by rw[hz];rfl
  refine rk follows (fun args w=>call235 args w) func235 rfl 13 rfl rfl ?_ (fun _ _ _ h=>jek h);have hrow0:([]:List V)++[Prp.cs p].flatten=((r.pps++[p]).map Prp.cs).flatten:=by rw[hz];rfl
  show aw _ _ _ (St.mk 13 [(0,.p 999000 0),(1,.v (.row (Prp.cs p)))] [(999000,.var [ofcs r.ofs,bh r.pls,fils r.fls,ruls r.rls,hlds r.hls,clks r.cks,sels r.sls,.val (.slice none 0 0),apvs r.aps,crts r.crs,deps r.dps,vi r.chg])] []) _
  refine mi (ug .nm (fun x:Nat×Nat=>r.pps.length+1<=x.2/\x.2<=maxLen) (fun x:Nat×Nat=>⟨13,[],[(10,Blk.var ((r.pps++[p]).map Prp.cs).flatten (some x.1) (some (151,5,x.2))),(999000,Blk.var [ofcs r.ofs,bh r.pls,fils r.fls,ruls r.rls,hlds r.hls,clks r.cks,sels r.sls,.val (.slice (some ⟨x.1,0,none⟩) (r.pps.length+1) x.2),apvs r.aps,crts r.crs,deps r.dps,vi r.chg])],[]⟩) ?_) (post r p);intro E hE;refine runD ac ?_;refine aq qdc ?_;refine gi ac ?_
  try simp only[xg,xa,vz,bn,bq]
  refine sw ?_;unfold appR;refine gi ac ?_;intro r' cap' hnm h1 h2;rw[hrow0];refine gi ac ?_;refine⟨rfl,?_⟩;exact zr
 obtain⟨hc1,hc2⟩:r.pps.length<=c/\c<=maxLen:=hs;have hw:=ct (cs:=Prp.cs) (z:=5) (fun _=>rfl) r.pps;have hrow:(r.pps.map Prp.cs).flatten++[Prp.cs p].flatten=((r.pps++[p]).map Prp.cs).flatten:=by rw[xz,xd1];rfl
 refine rk follows (fun args w=>call235 args w) func235 rfl 13 rfl rfl ?_ (fun _ _ _ h=>jek h)
 show aw _ _ _ (St.mk 13 [(0,.p 999000 0),(1,.v (.row (Prp.cs p)))] [(999000,.var [ofcs r.ofs,bh r.pls,fils r.fls,ruls r.rls,hlds r.hls,clks r.cks,sels r.sls,.val (.slice (some ⟨b,0,none⟩) r.pps.length c),apvs r.aps,crts r.crs,deps r.dps,vi r.chg]),(999050,.var (r.pps.map Prp.cs).flatten (some b) (some (151,5,c)))] []) _
 refine mi (ug .nm (fun x:Nat×Nat=>r.pps.length+1<=x.2/\x.2<=maxLen) (fun x:Nat×Nat=>⟨13,[],[(10,Blk.var ((r.pps++[p]).map Prp.cs).flatten (some x.1) (some (151,5,x.2))),(999000,Blk.var [ofcs r.ofs,bh r.pls,fils r.fls,ruls r.rls,hlds r.hls,clks r.cks,sels r.sls,.val (.slice (some ⟨x.1,0,none⟩) (r.pps.length+1) x.2),apvs r.aps,crts r.crs,deps r.dps,vi r.chg])],[]⟩) ?_) (post r p);intro E hE;refine runD (ai hw ac) ?_;refine aq qdc ?_;refine gi (ai hw ac) ?_
 try simp only[xg,xa,vz,bn,bq]
 refine sw ?_;unfold appR;refine gi (ai hw ac) ?_;refine⟨hc1,⟨xc hb dcq,by have:r.pps.length<=1048576:=hb;omega⟩,.inr trivial,?_⟩;intro r' cap' hnm h1 h2;rw[hrow];refine gi (ai hw ac) ?_;refine⟨rfl,?_⟩;exact zbq
abbrev qdd:List Gent:=gd 11 [[0,0,0],[1,1,0],[3,5,0,0],[35,2,1,6,0],[99,2,1,0,0,0],[39,3,1],[103,3,2],[47,4,0,6,1],[63,6,1,0,0,0],[111,4,0,0,0,0],[127,7,0,0,0,0],[255,8,0,0,0,0],[511,9,0],[1023,10,0,0,0,0],[2047]]
theorem xa1(r:Rgs)(v:Apv)(s:Option (Nat×Nat))(hs:okB r.aps.length s)(hb:r.aps.length<=1048576):DenV prog T 236 [(999000,.var (cs_a r s))] 999050 (qe1 r s) [.p 999000 0,.v (.row (Apv.cs v))] (vc (morA r v)):=by
 have post:∀(r:Rgs) (v:Apv),∀(M:Nat->Prop) (F0:Frz) (w0:World) (F:Frz) (ρ:Nat->Nat) (st:St) (a:Act) (w:World) (e:AX),SimS prog T M F0 w0 F ρ st a w->endX prog T .nm (fun x:Nat×Nat=>r.aps.length+1<=x.2/\x.2<=maxLen) (fun x:Nat×Nat=>⟨13,[],[(10,Blk.var ((r.aps++[v]).map Apv.cs).flatten (some x.1) (some (96,3,x.2))),(999000,Blk.var [ofcs r.ofs,bh r.pls,fils r.fls,ruls r.rls,hlds r.hls,clks r.cks,sels r.sls,prps r.pps,.val (.slice (some ⟨x.1,0,none⟩) (r.aps.length+1) x.2),crts r.crs,deps r.dps,vi r.chg])],[]⟩) e st->∃F' ρ' st',SimS prog T M F0 w0 F' ρ' st' a w/\jch prog [] (vc (morA r v)) e st':=by
  rintro r v M F0 w0 F ρ st a w e X ⟨rfl,x,⟨hx1,hx2⟩,hs⟩;obtain⟨F',X⟩:=jeu (k:=10) (id:=999000) (j:=8) (n:=r.aps.length+1) (size:=3) (hs _ _ _ _ _ _ _ X) rfl rfl dcq rfl hx1 hx2 (by rw[ct (cs:=Apv.cs) (z:=3) (fun _=>rfl),vr];exact vo _);have hch:=il (cs:=Apv.cs) (z:=3) (fun _=>rfl) (r.aps++[v]);rw[vr] at hch;simp only[fcSt] at X;rw[show be 0 (r.aps.length+1) 3 ((r.aps++[v]).map Apv.cs).flatten=(r.aps++[v]).map Apv.cs from hch] at X;exact⟨F',ρ,_,X,jsf (i:=10) rfl rfl⟩
 rcases s with _|⟨b,c⟩
 .have hz:r.aps=[]:=yg hs;have hz1:r.aps.length+1=1:=by rw[hz];rfl
  refine rk follows (fun args w=>call236 args w) func236 rfl 13 rfl rfl ?_ (fun _ _ _ h=>jek h);have hrow0:([]:List V)++[Apv.cs v].flatten=((r.aps++[v]).map Apv.cs).flatten:=by rw[hz];rfl
  show aw _ _ _ (St.mk 13 [(0,.p 999000 0),(1,.v (.row (Apv.cs v)))] [(999000,.var [ofcs r.ofs,bh r.pls,fils r.fls,ruls r.rls,hlds r.hls,clks r.cks,sels r.sls,prps r.pps,.val (.slice none 0 0),crts r.crs,deps r.dps,vi r.chg])] []) _
  refine mi (ug .nm (fun x:Nat×Nat=>r.aps.length+1<=x.2/\x.2<=maxLen) (fun x:Nat×Nat=>⟨13,[],[(10,Blk.var ((r.aps++[v]).map Apv.cs).flatten (some x.1) (some (96,3,x.2))),(999000,Blk.var [ofcs r.ofs,bh r.pls,fils r.fls,ruls r.rls,hlds r.hls,clks r.cks,sels r.sls,prps r.pps,.val (.slice (some ⟨x.1,0,none⟩) (r.aps.length+1) x.2),crts r.crs,deps r.dps,vi r.chg])],[]⟩) ?_) (post r v);intro E hE;refine runD ac ?_;refine aq qdd ?_;refine gi ac ?_
  try simp only[xg,xa,vz,bn,bq]
  refine sw ?_;unfold appR;refine gi ac ?_;intro r' cap' hnm h1 h2;rw[hrow0];refine gi ac ?_;refine⟨rfl,?_⟩;exact zr
 obtain⟨hc1,hc2⟩:r.aps.length<=c/\c<=maxLen:=hs;have hw:=ct (cs:=Apv.cs) (z:=3) (fun _=>rfl) r.aps;have hrow:(r.aps.map Apv.cs).flatten++[Apv.cs v].flatten=((r.aps++[v]).map Apv.cs).flatten:=by rw[xz,xd1];rfl
 refine rk follows (fun args w=>call236 args w) func236 rfl 13 rfl rfl ?_ (fun _ _ _ h=>jek h)
 show aw _ _ _ (St.mk 13 [(0,.p 999000 0),(1,.v (.row (Apv.cs v)))] [(999000,.var [ofcs r.ofs,bh r.pls,fils r.fls,ruls r.rls,hlds r.hls,clks r.cks,sels r.sls,prps r.pps,.val (.slice (some ⟨b,0,none⟩) r.aps.length c),crts r.crs,deps r.dps,vi r.chg]),(999050,.var (r.aps.map Apv.cs).flatten (some b) (some (96,3,c)))] []) _
 refine mi (ug .nm (fun x:Nat×Nat=>r.aps.length+1<=x.2/\x.2<=maxLen) (fun x:Nat×Nat=>⟨13,[],[(10,Blk.var ((r.aps++[v]).map Apv.cs).flatten (some x.1) (some (96,3,x.2))),(999000,Blk.var [ofcs r.ofs,bh r.pls,fils r.fls,ruls r.rls,hlds r.hls,clks r.cks,sels r.sls,prps r.pps,.val (.slice (some ⟨x.1,0,none⟩) (r.aps.length+1) x.2),crts r.crs,deps r.dps,vi r.chg])],[]⟩) ?_) (post r v);intro E hE;refine runD (ai hw ac) ?_;refine aq qdd ?_;refine gi (ai hw ac) ?_
 try simp only[xg,xa,vz,bn,bq]
 refine sw ?_;unfold appR;refine gi (ai hw ac) ?_;refine⟨hc1,⟨xc hb dcq,by have:r.aps.length<=1048576:=hb;omega⟩,.inr trivial,?_⟩;intro r' cap' hnm h1 h2;rw[hrow];refine gi (ai hw ac) ?_;refine⟨rfl,?_⟩;exact zbq
abbrev lq:List V:=[.val (.slice none 0 0),.val (.slice none 0 0),.val (.slice none 0 0),.val (.slice none 0 0),.val (.slice none 0 0),.val (.slice none 0 0),.val (.slice none 0 0),.val (.slice none 0 0),.val (.slice none 0 0),.val (.slice none 0 0),.val (.slice none 0 0),vi 0]
theorem sa:Wk (.agg lq) (.agg aj.cs):=.agg rfl (fun c hc=>by
  have:∀c∈aj.cs,c.one=true:=by
   intro c hc;simp only[Rgs.cs,vt,yl,xx] at hc;rcases hc with rfl|rfl|rfl|rfl|rfl|rfl|rfl|rfl|rfl|rfl|rfl|rfl<;>rfl
  exact this c hc) fun j v u e1 e2=>by
 match j with
 |0=>cases e1;cases e2;exact .nil _
 |1=>cases e1;cases e2;exact .nil _
 |2=>cases e1;cases e2;exact .nil _
 |3=>cases e1;cases e2;exact .nil _
 |4=>cases e1;cases e2;exact .nil _
 |5=>cases e1;cases e2;exact .nil _
 |6=>cases e1;cases e2;exact .nil _
 |7=>cases e1;cases e2;exact .nil _
 |8=>cases e1;cases e2;exact .nil _
 |9=>cases e1;cases e2;exact .nil _
 |10=>cases e1;cases e2;exact .nil _
 |11=>cases e1;cases e2;exact .refl _
 |j+12=>cases e1
theorem fi(e:Int):Wk (.tup [.agg lq,vi e]) (.tup [.agg aj.cs,vi e]):=.t2 sa (.refl _)
theorem jqa{κ:List (Nat×Nat)}{h:List (Nat×Blk)}: ∀l:List V,ArgsM κ h (l.map .v) (l.map .v)
 |[]=>.nil
 |x::r=>.cons (.v x) (jqa r)
theorem jjr(L:LibT T)(r res:Rgs)(_h:r.Fit)(hres:res.Fit)(f:FuncId)(cap:List V)(PC:Option Blk->V->Prop)(hC:DenU prog T 296 [.agg r.cs] PC) 
  (hV:∀ro v,PC ro v->∃g:Nat->V,v=.agg [g 0,g 1,g 2,g 3,g 4,g 5,g 6,g 7,g 8,g 9,g 10,vi r.chg]/\(∀i,(g i).one=true)/\(∀b,ro=some b->b.isCon=false/\∃p,b.nm=some p)/\
   DenV prog T f [(999000,.var [g 0,g 1,g 2,g 3,g 4,g 5,g 6,g 7,g 8,g 9,g 10,vi r.chg])] 999050 ro (.p 999000 0::cap.map .v) (vc res)):
  Den prog T 234 [.agg r.cs,.func f cap] (.tup [.agg (chgd res).1.cs,vi (chgd res).2]):=by
 have hck:=ja3 L res hres;refine ab call234 func234 19 ?_;refine run ?_;refine fg (jda 9 hC ?_ ?_)
 .intro rr hP;obtain⟨g,rfl,hg,-,hD⟩:=hV none rr hP;refine runW hg ?_;refine jd9 ⟨[(999000,6)],999050,10,_,_,_,_,hD,.cons (.p rfl) (jqa cap),rfl,rfl,?_,(fun _=>rfl),(by show (10:Nat)<19;decide),?_⟩
  .intro x hx;simp only[rowL,xd,xn] at hx;subst hx;exact zcv
  rintro ks b v ⟨rfl,⟨cs,rfl⟩,rfl⟩;refine⟨rfl,fun _=>?_⟩;simp only[bg,setb,lk,ay,jr,sg,sx,sy,sf,Nat.reduceEqDiff,↓reduceIte,Blk.wn,Blk.nm,remK,dh,sc,cond_false];refine rc hck ?_;by_cases hz:ce res=0
  .refine runW hz ?_;have e:chgd res=(res,0):=by unfold chgd;rw[vd (fun h=>h hz)]
   rw[e];exact fin rfl
  refine runW (vf hz) ?_;have e:chgd res=(aj,ce res):=by unfold chgd;rw[ve hz]
  rw[e];exact zbw
 intro b rr hP hnm;obtain⟨g,rfl,hg,hb,hD⟩:=hV _ rr hP;obtain⟨hcon,p,hp⟩:=hb b rfl;refine runW hg ?_;refine jd9 ⟨[(999000,6)],999050,9,_,some b,_,_,hD,.cons (.p rfl) (jqa cap),rfl,rfl,?_,(fun h=>nomatch h),(by show (9:Nat)<19;decide),?_⟩
 .intro x hx;simp only[rowL,List.cons_append,List.nil_append,vt,yl,xx] at hx;rcases hx with rfl|rfl
  .exact zcv
  exact⟨9,b,rfl,rfl,rfl,.inr rfl,hcon⟩
 rintro ks b2 v ⟨rfl,⟨cs,rfl⟩,rfl⟩;refine⟨rfl,fun _=>?_⟩;simp only[bg,setb,lk,ay,jr,sg,sx,sy,sf,Nat.reduceEqDiff,↓reduceIte,Blk.wn,Blk.nm,remK,dh,sc,cond_false];refine rc hck ?_;by_cases hz:ce res=0
 .refine runW hz ?_;have e:chgd res=(res,0):=by unfold chgd;rw[vd (fun h=>h hz)]
  rw[e];exact fin rfl
 refine runW (vf hz) ?_;have e:chgd res=(aj,ce res):=by unfold chgd;rw[ve hz]
 rw[e];exact zbw
theorem jqv(r:Rgs):∀c∈r.cs,c.one=true:=by
 intro c hc;simp only[Rgs.cs,vt,yl,xx] at hc;rcases hc with rfl|rfl|rfl|rfl|rfl|rfl|rfl|rfl|rfl|rfl|rfl|rfl<;>rfl
theorem qfh(L:LibT T)(r:Rgs)(h:r.Fit)(p:Prp)(hres:(morP r p).Fit):Den prog T 234 [.agg r.cs,.func 235 [.row (Prp.cs p)]] (.tup [.agg (chgd (morP r p)).1.cs,vi (chgd (morP r p)).2]):=by
 refine jjr L r _ h hres _ _ _ (jt9 r h) ?_;rintro ro v ⟨s,hs,rfl,rfl⟩;refine⟨fun i=>(cs_q r s).getD i (vi 0),rfl,fun i=>?_,fun b hb=>?_,xa0 r p s hs h.pps.1⟩
 .match i with
  |0|1|2|3|4|5|6|7|8|9|10|11=>first|rfl|(cases s<;>rfl)
  |i+12=>rfl
 cases s with
 |none=>cases hb
 |some z=>cases hb;exact⟨rfl,_,rfl⟩
theorem qfi(L:LibT T)(r:Rgs)(h:r.Fit)(v:Apv)(hres:(morA r v).Fit):Den prog T 234 [.agg r.cs,.func 236 [.row (Apv.cs v)]] (.tup [.agg (chgd (morA r v)).1.cs,vi (chgd (morA r v)).2]):=by
 refine jjr L r _ h hres _ _ _ (qgu r h) ?_;rintro ro v ⟨s,hs,rfl,rfl⟩;refine⟨fun i=>(cs_a r s).getD i (vi 0),rfl,fun i=>?_,fun b hb=>?_,xa1 r v s hs h.aps⟩
 .match i with
  |0|1|2|3|4|5|6|7|8|9|10|11=>first|rfl|(cases s<;>rfl)
  |i+12=>rfl
 cases s with
 |none=>cases hb
 |some z=>cases hb;exact⟨rfl,_,rfl⟩
theorem qs3(h:r.Fit)(hp:p.fls.length<=1048576)(hl:r.pps.length<1048576):(morP r p).Fit:=
  { ofs:=h.ofs,pls:=h.pls,fls:=h.fls,rls:=h.rls,hls:=h.hls,cks:=h.cks,sls:=h.sls,aps:=h.aps,crs:=h.crs,dps:=h.dps
    pps:=⟨by show (r.pps++[p]).length<=1048576;rw[vr];exact hl,fun q hq=>by
      rcases xbu.1 hq with hq|hq
      . exact h.pps.2 q hq
      rw[xn.1 hq];exact hp⟩ }
theorem qs5(h:r.Fit)(hl:r.aps.length<1048576):(morA r a).Fit:=
  { ofs:=h.ofs,pls:=h.pls,fls:=h.fls,rls:=h.rls,hls:=h.hls,cks:=h.cks,sls:=h.sls,pps:=h.pps,crs:=h.crs,dps:=h.dps
    aps:=by show (r.aps++[a]).length<=1048576;rw[vr];exact hl }
theorem qi7(L:LibT T)(r:Rgs)(h:r.Fit)(p:Prp)(hp:p.fls.length<=1048576)(hl:r.pps.length<1048576):Den prog T 171 [.agg r.cs,.agg p.cs] (.tup [.agg (nc r p).1.cs,vi (nc r p).2]):=by
 have hck:=ja3 L r h;have hch:=qfh L r h p (qs3 h hp hl);refine ab call171 func171 23 ?_;unfold nc;refine rc hck ?_;by_cases hz:ce r=0
 .rw[vd (fun e=>e hz)];refine runW hz ?_;by_cases hw:p.wdr=1048576
  .rw[vd (fun e=>e hw)];refine rcW hw (rp p.fls hp).den ?_;refine rc hch ?_;exact za
  rw[ve hw];refine runW (vf hw) ?_;exact zbw
 rw[ve hz];exact zc0
theorem qie(L:LibT T)(r:Rgs)(h:r.Fit)(a:Apv)(hl:r.aps.length<1048576):Den prog T 172 [.agg r.cs,.agg a.cs] (.tup [.agg (nv r a).1.cs,vi (nv r a).2]):=by
 have hck:=ja3 L r h;have hch:=qfi L r h a (qs5 h hl);refine ab call172 func172 15 ?_;unfold nv;refine rc hck ?_;by_cases hz:ce r=0
 .rw[vd (fun e=>e hz)];refine rcW hz hch ?_;exact za
 rw[ve hz];exact zc0
def jj8(res:Rgs)(u:Crt)(ks:List (Nat×Blk))(b:Blk)(v:V):Prop:=ks=[(999000,.var res.cs),(999001,.var u.cs)]/\(∃cs,b=.con cs)/\v=.tup []
theorem jwi(h:jj8 res u ks b v):okZ ks=true/\Ab.look 999050 ks=none:=by
 obtain⟨rfl,-,-⟩:=h;exact⟨rfl,rfl⟩
theorem qzt(h1:Ab.look 999000 st.h=some (.var res.cs))(h0:Ab.look 999001 st.h=some (.var u.cs))(h2:Ab.look i st.h=some (.con cs))(hi:i ∉ [999000,999001]:=by decide):jch P [] (jj8 res u) .nm st:=by
 refine⟨[(999000,.var res.cs),(999001,.var u.cs)],.con cs,.tup [],⟨rfl,⟨cs,rfl⟩,rfl⟩,?_,⟨i,.con cs,h2,?_,hi⟩,.tup [],rfl,.refl _⟩
 .intro x hx;simp only[vt,yl,xx] at hx;rcases hx with rfl|rfl
  .exact⟨_,h1,WkB.self _ _ _⟩
  exact⟨_,h0,WkB.self _ _ _⟩
 exact zeb
abbrev qeb:List Gent:=gd 11 [[0,0,0],[1,1,0],[3,2,1,5,0],[35,2,1,6,3],[7,3,1],[39,3,4],[15,4,1,5,3],[99,2,1,0,0,0],[31,5,2,0,0,0],[103,3,2],[47,4,0,6,1],[63,6,1,0,0,0],[111,4,0,0,0,0],[127,7,0,0,0,0],[255,8,0,0,0,0],[511,9,0],[1023,10,0,0,0,0],[2047]]
theorem qc2(r:Rgs)(u:Crt)(s:Option (Nat×Nat))(hs:okB r.crs.length s)(hb:r.crs.length<=1048576):DenV prog T 243 [(999000,.var (cs_k r s)),(999001,.var u.cs)] 999050 (js8 r s) [.p 999000 0,.p 999001 0] (jj8 (morC r u) u):=by
 have post:∀(r:Rgs) (u:Crt),∀(M:Nat->Prop) (F0:Frz) (w0:World) (F:Frz) (ρ:Nat->Nat) (st:St) (a:Act) (w:World) (e:AX),SimS prog T M F0 w0 F ρ st a w->endX prog T .nm (fun x:Nat×Nat=>r.crs.length+1<=x.2/\x.2<=maxLen) (fun x:Nat×Nat=>⟨13,[],[(10,Blk.var ((r.crs++[u]).map Crt.cs).flatten (some x.1) (some (48,6,x.2))),(999000,Blk.var [ofcs r.ofs,bh r.pls,fils r.fls,ruls r.rls,hlds r.hls,clks r.cks,sels r.sls,prps r.pps,apvs r.aps,.val (.slice (some ⟨x.1,0,none⟩) (r.crs.length+1) x.2),deps r.dps,vi r.chg]),(999001,Blk.var u.cs)],[]⟩) e st->∃F' ρ' st',SimS prog T M F0 w0 F' ρ' st' a w/\jch prog [] (jj8 (morC r u) u) e st':=by
  rintro r u M F0 w0 F ρ st a w e X ⟨rfl,x,⟨hx1,hx2⟩,hs⟩;obtain⟨F',X⟩:=jeu (k:=10) (id:=999000) (j:=9) (n:=r.crs.length+1) (size:=6) (hs _ _ _ _ _ _ _ X) rfl rfl dcq rfl hx1 hx2 (by rw[ct (cs:=Crt.cs) (z:=6) (fun _=>rfl),vr];exact vo _);have hch:=il (cs:=Crt.cs) (z:=6) (fun _=>rfl) (r.crs++[u]);rw[vr] at hch;simp only[fcSt] at X;rw[show be 0 (r.crs.length+1) 6 ((r.crs++[u]).map Crt.cs).flatten=(r.crs++[u]).map Crt.cs from hch] at X;exact⟨F',ρ,_,X,qzt (i:=10) rfl rfl rfl⟩
 rcases s with _|⟨b,c⟩
 .have hz:r.crs=[]:=yg hs;have hz1:r.crs.length+1=1:=by rw[hz];rfl
  refine rk follows (fun args w=>call243 args w) func243 rfl 13 rfl rfl ?_ (fun _ _ _ h=>jwi h);have hrow0:([]:List V)++[Crt.cs u].flatten=((r.crs++[u]).map Crt.cs).flatten:=by rw[hz];rfl
  show aw _ _ _ (St.mk 13 [(0,.p 999000 0),(1,.p 999001 0)] [(999000,.var [ofcs r.ofs,bh r.pls,fils r.fls,ruls r.rls,hlds r.hls,clks r.cks,sels r.sls,prps r.pps,apvs r.aps,.val (.slice none 0 0),deps r.dps,vi r.chg]),(999001,.var u.cs)] []) _
  refine mi (ug .nm (fun x:Nat×Nat=>r.crs.length+1<=x.2/\x.2<=maxLen) (fun x:Nat×Nat=>⟨13,[],[(10,Blk.var ((r.crs++[u]).map Crt.cs).flatten (some x.1) (some (48,6,x.2))),(999000,Blk.var [ofcs r.ofs,bh r.pls,fils r.fls,ruls r.rls,hlds r.hls,clks r.cks,sels r.sls,prps r.pps,apvs r.aps,.val (.slice (some ⟨x.1,0,none⟩) (r.crs.length+1) x.2),deps r.dps,vi r.chg]),(999001,Blk.var u.cs)],[]⟩) ?_) (post r u);intro E hE;refine runD ac ?_;refine aq qeb ?_;refine gi ac ?_
  try simp only[xg,xa,vz,bn,bq]
  refine sw ?_;unfold appR;refine gi ac ?_;intro r' cap' hnm h1 h2;rw[hrow0];refine gi ac ?_;refine⟨rfl,?_⟩;exact zr
 obtain⟨hc1,hc2⟩:r.crs.length<=c/\c<=maxLen:=hs;have hw:=ct (cs:=Crt.cs) (z:=6) (fun _=>rfl) r.crs;have hrow:(r.crs.map Crt.cs).flatten++[Crt.cs u].flatten=((r.crs++[u]).map Crt.cs).flatten:=by rw[xz,xd1];rfl
 refine rk follows (fun args w=>call243 args w) func243 rfl 13 rfl rfl ?_ (fun _ _ _ h=>jwi h)
 show aw _ _ _ (St.mk 13 [(0,.p 999000 0),(1,.p 999001 0)] [(999000,.var [ofcs r.ofs,bh r.pls,fils r.fls,ruls r.rls,hlds r.hls,clks r.cks,sels r.sls,prps r.pps,apvs r.aps,.val (.slice (some ⟨b,0,none⟩) r.crs.length c),deps r.dps,vi r.chg]),(999001,.var u.cs),(999050,.var (r.crs.map Crt.cs).flatten (some b) (some (48,6,c)))] []) _
 refine mi (ug .nm (fun x:Nat×Nat=>r.crs.length+1<=x.2/\x.2<=maxLen) (fun x:Nat×Nat=>⟨13,[],[(10,Blk.var ((r.crs++[u]).map Crt.cs).flatten (some x.1) (some (48,6,x.2))),(999000,Blk.var [ofcs r.ofs,bh r.pls,fils r.fls,ruls r.rls,hlds r.hls,clks r.cks,sels r.sls,prps r.pps,apvs r.aps,.val (.slice (some ⟨x.1,0,none⟩) (r.crs.length+1) x.2),deps r.dps,vi r.chg]),(999001,Blk.var u.cs)],[]⟩) ?_) (post r u);intro E hE;refine runD (ai hw ac) ?_;refine aq qeb ?_;refine gi (ai hw ac) ?_
 try simp only[xg,xa,vz,bn,bq]
 refine sw ?_;unfold appR;refine gi (ai hw ac) ?_;refine⟨hc1,⟨xc hb dcq,by have:r.crs.length<=1048576:=hb;omega⟩,.inr trivial,?_⟩;intro r' cap' hnm h1 h2;rw[hrow];refine gi (ai hw ac) ?_;refine⟨rfl,?_⟩;exact zbq
theorem qf3(L:LibT T)(r:Rgs)(h:r.Fit)(u:Crt)(hres:(morC r u).Fit)(p0:Nat):
  DenS prog T 234 [(999000,.var u.cs (some p0))] [] [.v (.agg r.cs),.v (.func 243 [.val (.pointer (some ⟨p0,0,none⟩))])] [(999000,.var u.cs (some p0))] [] (.v (.tup [.agg (chgd (morC r u)).1.cs,vi (chgd (morC r u)).2])):=by
 have hck:=ja3 L (morC r u) hres;have hC:=qgt (T:=T) r h;refine bx follows (fun args w=>call234 args w) func234 rfl 19 rfl rfl ?_;refine run ?_;refine fg (jda 9 hC ?_ ?_)
 .rintro rr ⟨s,hs,hro,rfl⟩;have hs0:s=none:=by cases s with|none=>rfl|some z=>cases hro
  subst hs0;have hD:=qc2 (T:=T) r u none hs h.crs.1;unfold cs_k at hD ⊢;refine runW ac ?_;refine jd9 ⟨[(999000,6),(999001,999000)],999050,10,_,_,_,_,hD,.cons (.p rfl) (.cons (.pn rfl rfl) .nil),rfl,rfl,?_,(fun _=>rfl),(by show (10:Nat)<19;decide),?_⟩
  .intro x hx;simp only[rowL,js8,Option.map_none,xd,vt,yl,xx] at hx;rcases hx with rfl|rfl
   .exact zcv
   exact zcf
  rintro ks b v ⟨rfl,⟨cs,rfl⟩,rfl⟩;refine⟨rfl,fun _=>?_⟩;simp only[bg,setb,lk,ay,jr,sg,sx,sy,sf,Nat.reduceEqDiff,↓reduceIte,Blk.wn,Blk.nm,remK,dh,sc,cond_false];refine rc hck ?_;by_cases hz:ce (morC r u)=0
  .refine runW hz ?_;have e:chgd (morC r u)=(morC r u,0):=by unfold chgd;rw[vd (fun h=>h hz)]
   rw[e];exact zbo
  refine runW (vf hz) ?_;have e:chgd (morC r u)=(aj,ce (morC r u)):=by unfold chgd;rw[ve hz]
  rw[e];exact kf (.v (fi _))
 rintro b rr ⟨s,hs,hro,rfl⟩ hnm;obtain⟨z,rfl⟩:∃z,s=some z:=by cases s with|none=>cases hro|some z=>exact⟨z,rfl⟩
 have hD:=qc2 (T:=T) r u (some z) hs h.crs.1;cases hro;unfold cs_k at hD ⊢;refine runW ac ?_;refine jd9 ⟨[(999000,6),(999001,999000)],999050,9,_,some _,_,_,hD,.cons (.p rfl) (.cons (.pn rfl rfl) .nil),rfl,rfl,?_,(fun h=>nomatch h),(by show (9:Nat)<19;decide),?_⟩
 .intro x hx;simp only[rowL,List.cons_append,List.nil_append,vt,yl,xx] at hx;rcases hx with rfl|rfl|rfl
  .exact zcv
  .exact zcf
  exact⟨9,_,rfl,rfl,rfl,.inr rfl,rfl⟩
 rintro ks b2 v ⟨rfl,⟨cs,rfl⟩,rfl⟩;refine⟨rfl,fun _=>?_⟩;simp only[bg,setb,lk,ay,jr,sg,sx,sy,sf,Nat.reduceEqDiff,↓reduceIte,Blk.wn,Blk.nm,remK,dh,sc,cond_false];refine rc hck ?_;by_cases hz:ce (morC r u)=0
 .refine runW hz ?_;have e:chgd (morC r u)=(morC r u,0):=by unfold chgd;rw[vd (fun h=>h hz)]
  rw[e];exact zbo
 refine runW (vf hz) ?_;have e:chgd (morC r u)=(aj,ce (morC r u)):=by unfold chgd;rw[ve hz]
 rw[e];exact kf (.v (fi _))
theorem qoy(c:Clk)(a:Apv):Den prog T 399 [.agg c.cs,.row a.cs] (vb (uz a.clk c)):=by
 refine ab call399 func399 14 ?_;unfold uz;by_cases h1:c.id=a.clk
 .refine runW (vg h1) ?_;exact z6
 exact zc9
abbrev apvL(r:Rgs)(n d:Int)(k:Nat):List Apv:=(r.aps.take k).filter (forA n d)
abbrev arcA(r:Rgs)(a:Apv):Bool:=r.cks.any (uz a.clk)
theorem qyl{n:Int}(ha:r.aps[k]?=some a)(hf:forA n d a=true):apvL r n d (k+1)=apvL r n d k++[a]:=by
 unfold apvL;rw[jlf ha,xbj,xco hf];rfl
theorem qun{n:Int}(ha:r.aps[k]?=some a)(hf:¬forA n d a=true):apvL r n d (k+1)=apvL r n d k:=by
 unfold apvL;rw[jlf ha,xbj,xdb hf];simp
theorem qup(r:Rgs)(n d:Int)(k:Nat):(apvL r n d k).length<=k:=by
 have h1:=xcc (forA n d) (r.aps.take k);have h2:(r.aps.take k).length<=k:=List.length_take_le _ _;exact xc h1 h2
theorem qfj(r:Rgs)(h:r.Fit)(n d:Int):Den prog T 349 [.agg r.cs,vi n,vi d] (vb (apvB r n d)):=by
 have hl:=h.aps;have hA:∀a:Apv,Den prog T 191 [clks r.cks,.func 399 [.row a.cs]] (vb (arcA r a)):=fun a=>jve r.cks _ _ (uz a.clk) h.cks.1 fun c _=>qoy c a;refine ab call349 func349 43 ?_;refine run ?_;refine dl ⟨[7,8,14,1,2,3,12,13],[3],[],[]⟩ (fun k:Nat=>k<=r.aps.length) (fun k=>r.aps.length-k) (fun k=>[(7,.v (vi (apvL r n d k).length)),(8,.v (vb ((apvL r n d k).any (arcA r)))),(14,.v (vi k))]) 0 (vj _) ?_;intro k hk;have hle:=qup r n d k;by_cases hlt:k<r.aps.length
 .obtain⟨a,ha,-,-⟩:=af hlt;have hin:=fun hf=>qyl (r:=r) (n:=n) (d:=d) ha hf;have hout:=fun hf=>qun (r:=r) (n:=n) (d:=d) ha hf;obtain⟨X,hX⟩:∃X,apvL r n d k=X:=⟨_,rfl⟩;rw[hX] at hle hin hout;by_cases h1:a.prp=n
  .by_cases h2:d<a.day
   .have hno:=hout (by unfold forA;simp;omega);refine runW (ai hX (ai ha (vg h1))) ?_;refine round (k+1) hlt omq ?_;rw[hno];rfl
   have hyes:=hin (by unfold forA;simp;omega);have hyl:(apvL r n d (k+1)).length=X.length+1:=by rw[hyes,vr];rfl
   have hya:(apvL r n d (k+1)).any (arcA r)=(X.any (arcA r) || arcA r a):=by rw[hyes,xcf];simp
   cases hX2:X.any (arcA r)
   .refine rcW (ai hX (ai ha (ai (vg h1) hX2))) (hA a) ?_;refine run ?_;refine round (k+1) hlt omq ?_;rw[hyl,hya,hX2,xav];rfl
   refine runW (ai hX (ai ha (ai (vg h1) hX2))) ?_;refine round (k+1) hlt omq ?_;rw[hyl,hya,hX2,xam];rfl
  have hno:=hout (by unfold forA;simp[h1]);refine runW (ai hX (ai ha (vf h1))) ?_;refine round (k+1) hlt omq ?_;rw[hno];rfl
 have hk:k=r.aps.length:=omq;subst hk;have he:apvL r n d r.aps.length=r.aps.filter (forA n d):=by unfold apvL;rw[yk]
 have hB:apvB r n d=(decide (2<=(apvL r n d r.aps.length).length) && (apvL r n d r.aps.length).any (arcA r)):=by rw[he];rfl
 rw[hB];obtain⟨X,hX⟩:∃X,apvL r n d r.aps.length=X:=⟨_,rfl⟩;rw[hX] at hle ⊢;by_cases h2:2<=X.length
 .refine runW hX ?_;refine fin (ah ?_);simp[h2]
 refine runW hX ?_;refine fin (ah ?_);simp[h2]
theorem qhw(L:LibC T)(r:Rgs)(h:r.Fit)(f d:Int):Den prog T 351 [vi f,.row r.cs,.row [vi d]] (vb (np r d f)):=by
 have hO:=jau L r h f d;unfold np;obtain⟨v,hv⟩:∃v,onV r f d=v:=⟨_,rfl⟩;rw[hv] at hO ⊢;refine ab call351 func351 21 ?_;refine rc hO ?_;by_cases h1:onE r f d=0
 .rw[h1];refine run ?_;exact z6
 exact zc9
theorem qk0(L:LibC T)(r:Rgs)(h:r.Fit)(p:Prp)(hp:p.fls.length<=1048576)(d:Int):Den prog T 350 [.row p.cs,.row r.cs,.row [vi d]] (rowV (p.fls.any (np r d),21)):=by
 refine ab call350 func350 9 ?_;refine rc (jdu p.fls _ _ (np r d) hp fun f _=>qhw L r h f d) ?_;exact zbm
theorem qjz(L:LibC T)(r:Rgs)(h:r.Fit)(p:Prp)(hp:p.fls.length<=1048576)(d:Int):Den prog T 298 [.agg r.cs,.agg p.cs,vi d] (vi (jcc r p d)):=by
 have he:jcc r p d=fstB [(decide (d<p.day),5),(decide (p.wdr<=d) || jo r.crs p.id,11),(!apvB r p.id d,22),(p.fls.any (np r d),21)]:=by
  unfold jcc;simp only[fstB];by_cases h1:d<p.day
  .rw[ve h1,ve (vl h1)]
  rw[vd h1,vw h1];by_cases h2:p.wdr<=d\/jo r.crs p.id=true
  .rw[ve h2,(by simpa using h2:(decide (p.wdr<=d) || jo r.crs p.id)=true)];rfl
  rw[vd h2,(by simpa using h2:(decide (p.wdr<=d) || jo r.crs p.id)=false)];cases apvB r p.id d<;>rfl
 rw[he]
 have hF:∀b1 b2 b3,Den prog T 115 [.slice 1 [wRow b1 5,wRow b2 11,wRow b3 22,[.func 350 [.row p.cs,.row r.cs,.row [vi d]]]]] (vi (fstB [(b1,5),(b2,11),(b3,22),(p.fls.any (np r d),21)])):=fun b1 b2 b3=>
  jdt _ _ (.cons (fh _ _) (.cons (fh _ _) (.cons (fh _ _) (.cons (qk0 L r h p hp d) .nil)))) (by show (4:Nat)<=1048576;decide)
 have hcd:=jsw (T:=T) r h p.id;have hap:=qfj (T:=T) r h p.id d;refine ab call298 func298 33 ?_;by_cases h1:p.wdr<=d
 .rw[vl h1,xam];refine rc (de _ 5) ?_;exact zdb
 rw[vw h1,xav];refine rc (de _ 5) ?_;refine rc hcd ?_;exact zdb
theorem qi6(L:LibT T)(r:Rgs)(h:r.Fit)(n d:Int):Den prog T 241 [.agg r.cs,vi n,vi d] (vi (sr r n d)):=by
 have LC:=libC L;have hpl:=h.pps.1;refine ab call241 func241 30 ?_;unfold sr;refine rc (jea r h n) ?_;refine rc (ja3 L r h) ?_;by_cases hz:ce r=0
 case neg=>
  rw[ve hz];exact zd6
 rw[vd (fun e=>e hz)];rcases ee (cq n) r.pps with⟨h1,h2⟩|⟨k,p,h1,hk,hx,hpm,h2⟩
 .rw[h2];have h1:jm r.pps n= -1:=h1;rw[h1];refine runW hz ?_;exact fin rfl
 rw[h2];have h1:jm r.pps n=(k:Int):=h1;rw[h1];refine rcW hz (jkw d) ?_;cases hd:dayG d
 .exact za
 rw[vd dcq];refine rcW hx (qjz LC r h p (h.pps.2 p hpm) d) ?_;exact za
theorem qs4(h:r.Fit){c:Crt}(hc:c.fls.length<=1048576/\c.bef.length<=1048576/\c.dig.length<=1048576)(hl:r.crs.length<1048576):(morC r c).Fit:=
  { ofs:=h.ofs,pls:=h.pls,fls:=h.fls,rls:=h.rls,hls:=h.hls,cks:=h.cks,sls:=h.sls,pps:=h.pps,aps:=h.aps,dps:=h.dps
    crs:=⟨by show (r.crs++[c]).length<=1048576;rw[vr];exact hl,fun q hq=>by
      rcases xbu.1 hq with hq|hq
      . exact h.crs.2 q hq
      rw[xn.1 hq];exact hc⟩ }
abbrev qx:List V:=[vi 0,vi 0,vi 0,.val (.slice none 0 0),.str [],.str []]
theorem qqd:Wk (.agg qx) (.agg crtZ.cs):=.agg rfl (fun c hc=>by
  simp only[Crt.cs,vt,yl,xx] at hc
  rcases hc with rfl|rfl|rfl|rfl|rfl|rfl<;>rfl) fun j v u e1 e2=>by
 match j with
 |0=>cases e1;cases e2;exact .refl _
 |1=>cases e1;cases e2;exact .refl _
 |2=>cases e1;cases e2;exact .refl _
 |3=>cases e1;cases e2;exact .nil _
 |4=>cases e1;cases e2;exact .refl _
 |5=>cases e1;cases e2;exact .refl _
 |j+6=>cases e1
theorem jef(e:Int):Wk (.tup [.agg lq,.agg qx,vi e]) (.tup [.agg aj.cs,.agg crtZ.cs,vi e]):=.t3 sa qqd (.refl _)
theorem jes(e:Int):Den prog T 240 [vi e] (.tup [.agg lq,.agg qx,vi e]):=by
 refine ab call240 func240 8 ?_;exact za
theorem qsv(l:List Int)(hl:l.length<=1048576)(x:Dep):Den prog T 242 [.agg x.cs,.row [ints l]] (vb (depB l x)):=by
 have hh:=jbk (T:=T) l x.fil hl;refine ab call242 func242 8 ?_;refine rc hh ?_;refine run ?_;refine fin (ah ?_);unfold depB hasI;congr 1
 funext y
 rw[xc9];exact eq_comm
theorem qua{G:Prop}{c:Code}{Q:AX->St->Prop}(φ:Prop)(S:St)(h:(∀st,φ->Ab.Sub P T S st->aw P T c st Q)->G)(h2:φ->aw P T c S Q):G:=h fun _ hf hs=>xa7 hs (h2 hf)
abbrev qzh:List Gent:=gd 14 [[0,0,0],[1,1,0,0],[3,2,0,0],[7,3,0],[15,8,0],[271,9,0,0],[783,4,0,10,2,11,1],[799,5,3],[2831,4,4,10,3],[1807,4,0,11,2],[1823,5,5],[831,6,2],[3855,4,2,0,0,0],[2847,5,3],[895,7,4,0],[3871,5,5],[1855,6,3],[2879,6,0],[2943,7,5,0],[1023,10,3,11,4],[1919,7,2,0],[3903,6,0],[3967,7,3,0],[2047,11,2,0,0,0],[3071,10,1,12,0],[7167,10,1,0,0,0],[4095,12,0,0,0,0],[8191,13,0,0,0,0],[16383]]
abbrev qzg:List Gent:=gd 13 [[0,0,0],[1,1,0],[3,2,0],[7,3,0],[15,4,0,0],[31,6,0],[95,7,0,0],[223,8,0],[479,5,1,11,0],[2527,5,1,0,0,0],[511,9,1,11,0],[2559,9,1,0,0,0],[1023,10,1,11,0],[3071,10,1,0,0,0],[2047,11,0,0,0,0],[4095,12,0,0,0,0],[8191]]
abbrev qzf:List Gent:=gd 5 [[0,0,0,1,1],[1,1,1,2,2],[2,0,0,0,0,0],[3,2,1,0,0,0],[5,1,0,0,0,0],[7,3,0,0,0,0],[15,4,0,0,0,0],[31]]
theorem qib(L:LibT T)(r:Rgs)(h:r.Fit)(n d:Int)(hcr:r.crs.length<1048576):Den prog T 174 [.agg r.cs,vi n,vi d] (.tup [.agg (desP r n d).1.cs,.agg (desP r n d).2.1.cs,vi (desP r n d).2.2]):=by
 have hrd:=qi6 L r h n d;have hcl:=h.crs.1;refine ab call174 func174 113 ?_;refine rc hrd ?_;by_cases hz:sr r n d=0
 .obtain⟨p,hR⟩:=jki.1 hz;have hfp:=hR.fp;rcases ee (cq n) r.pps with⟨-,h2⟩|⟨k,p',h1,hk,hx,hpm,h2⟩
  .rw[h2] at hfp;cases hfp
  obtain rfl:p'=p:=by rw[h2] at hfp;exact xt hfp
  have hfd:=jea (T:=T) r h n;rw[show jm r.pps n=(k:Int) from h1] at hfd;have hfl:=h.pps.2 p' hpm;have hpl:=h.pps.1;refine runD hz ?_;refine jco 3 ?_;refine fj (st':=⟨113,[(1,.v (vi n)),(2,.v (vi d)),(3,.p 3 0),(6,.p 6 0),(7,.p 7 0),(8,.v (vi 0)),(9,.v (.func 240 []))],[(7,.var qx),(6,.var lq),(3,.con r.cs)],[]⟩) ⟨[1,2,3,6,7,8,9],[7,6,3],[],[]⟩ rfl ?_;refine lj .nm (fun _:Unit=>True) (fun _=>⟨113,[(1,.v (vi n)),(2,.v (vi d)),(3,.p 3 0),(6,.p 6 0),(7,.p 7 0),(8,.v (vi 0)),(9,.v (.func 240 [])),(11,.p 11 0),(12,.v (vi r.crs.length))],[(11,.var [ints p'.fls]),(7,.var qx),(6,.var lq),(3,.con r.cs)],[]⟩) ?_ ?_
  .intro E hE;refine aq qzh ?_;refine ax hx ?_
   try simp only[bn,xaq]
   apply viaA
   .have hX:=fun k kn m h0=>call (T:=T) (k:=k) (kn:=kn) (m:=m) hfd h0
    repeat' (first|with_reducible apply yh|exact hX _ _ _)
   refine ax hx ?_
   try simp only[xg,xa,vz,bn,bq]
   repeat' (with_reducible refine ai ?_ ?_)
   all_goals refine hE () _ trivial ?_
   all_goals exact bu [3,6,7,11] [1,2,3,6,7,8,9,11,12] rfl rfl rfl (fun _ _ e=>e) rfl
  intro _ _
  show aw _ _ _ ⟨113,[(1,.v (vi n)),(2,.v (vi d)),(3,.p 3 0),(6,.p 6 0),(7,.p 7 0),(8,.v (vi 0)),(9,.v (.func 240 [])),(11,.p 11 0),(12,.v (vi r.crs.length))],[(11,.var [ints p'.fls]),(7,.var qx),(6,.var lq),(3,.con r.cs)],[]⟩ _
  have hlate:(¬ 0<(r.crs.length:Int)/\te (bm r.crs r.crs.length) d=false)\/(0<(r.crs.length:Int)/\∃q,r.crs[r.crs.length-1]?=some q/\te (bm r.crs r.crs.length) d=decide (d<q.day)):=by
   unfold bm;by_cases h0:r.crs.length=0
   .left;rw[ve h0];exact⟨omq,rfl⟩
   right;rw[vd h0];obtain⟨q,hq,-,-⟩:=af (l:=r.crs) (k:=r.crs.length-1) omq;rw[hq];exact⟨omq,q,rfl,rfl⟩
  have hE0:desE r n d=if te (bm r.crs r.crs.length) d=true then 5 else if r.dps.any (depB p'.fls)=true then 6 else 0:=by
   unfold desE;rw[vd (fun e=>e hz),hfp]
  have hfail:∀e,desE r n d=e->e≠0->desP r n d=(aj,crtZ,e):=fun e h1 h2=>by
   unfold desP;rw[ve (by rw[h1];exact h2),h1]
  apply qua (te (bm r.crs r.crs.length) d=false) ⟨113,[(1,.v (vi n)),(2,.v (vi d)),(3,.p 3 0),(6,.p 6 0),(7,.p 7 0),(8,.v (vi 0)),(9,.v (.func 240 [])),(11,.p 11 0),(12,.v (vi r.crs.length))],[(11,.var [ints p'.fls]),(7,.var qx),(6,.var lq),(3,.con r.cs)],[]⟩
  .intro tail;rcases hlate with⟨h0,hl⟩|⟨h0,q,hq,hl⟩
   .refine jjb (vf h0) ?_;refine tail _ hl ?_;exact bu [3,6,7,11] [1,2,3,6,7,8,9,11,12] rfl rfl rfl (fun _ _ e=>e) rfl
   by_cases hdq:d<q.day
   .rw[hfail 5 (by rw[hE0,hl,vl hdq];rfl) dcq];refine rcW (ai hq hdq) (jes _) ?_;exact zcr
   refine jjb (ai hq (vf hdq)) ?_;refine tail _ (by rw[hl,vw hdq]) ?_;exact bu [3,6,7,11] [1,2,3,6,7,8,9,11,12] rfl rfl rfl (fun _ _ e=>e) rfl
  intro hl;have hE:desE r n d=if r.dps.any (depB p'.fls)=true then 6 else 0:=by rw[hE0,vd (by rw[hl];decide)]
  have hdepC:=jkz (T:=T) r.dps 242 [.row [ints p'.fls]] (depB p'.fls) h.dps (fun e _=>qsv p'.fls hfl e);refine rc hdepC ?_;by_cases hdep:r.dps.any (depB p'.fls)=true
  .rw[hfail 6 (by rw[hE,ve hdep]) dcq];refine rcW hdep (jes _) ?_;exact zcr
  rw[vd hdep] at hE;have hfls:=jx3 hfp
  have hP:desP r n d=if crtB (newC r n d p'.fls)=false then(aj,crtZ,1) else
    if ce (morC r (newD r n d p'.fls))≠0 then(aj,crtZ,ce (morC r (newD r n d p'.fls))) else(morC r (newD r n d p'.fls),newD r n d p'.fls,0):=by
   unfold desP;rw[vd (fun e=>e hE),hfls]
  have hbl:(befC r.crs r.crs.length).length=32:=qa9 hR.ok;have hcp:=(rp (T:=T) p'.fls hfl).den;have hbf:=jtv L r.crs r.crs.length hcl (vo _);refine runD (xbg.2 hdep) ?_;refine lj .nm (fun _:Unit=>True) (fun _=>⟨113,[(1,.v (vi n)),(2,.v (vi d)),(3,.p 3 0),(6,.p 6 0),(7,.p 7 0),(8,.v (vi 0)),(9,.v (.func 240 [])),(13,.p 13 0)],[(13,.var (newC r n d p'.fls).cs),(11,.con [ints p'.fls]),(7,.var qx),(6,.var lq),(3,.con r.cs)],[]⟩) ?_ ?_
  .intro E hE1;refine aq qzg ?_;refine ax trivial ?_
   try simp only[xg,xa,vz,bn,bq,xaq]
   apply viaA
   .have hX:=fun k kn m h0=>call (T:=T) (k:=k) (kn:=kn) (m:=m) hcp h0
    repeat' (first|with_reducible apply yh|exact hX _ _ _)
   refine ax trivial ?_
   try simp only[vz]
   apply viaA
   .have hX:=fun k kn m h0=>call (T:=T) (k:=k) (kn:=kn) (m:=m) hbf h0
    repeat' (first|with_reducible apply yh|exact hX _ _ _)
   refine ax trivial ?_
   try simp only[xg,xa,vz,bn,bq]
   repeat' (with_reducible refine ai ?_ ?_)
   all_goals refine hE1 () _ trivial ?_
   all_goals exact bu [3,6,7,11,13] [1,2,3,6,7,8,9,13] rfl rfl rfl (fun _ _ e=>e) rfl
  intro _ _
  show aw _ _ _ ⟨113,[(1,.v (vi n)),(2,.v (vi d)),(3,.p 3 0),(6,.p 6 0),(7,.p 7 0),(8,.v (vi 0)),(9,.v (.func 240 [])),(13,.p 13 0)],[(13,.var (newC r n d p'.fls).cs),(11,.con [ints p'.fls]),(7,.var qx),(6,.var lq),(3,.con r.cs)],[]⟩ _
  refine jit 13 ?_;intro b _;refine fj (st':=⟨113,[(1,.v (vi n)),(2,.v (vi d)),(3,.p 3 0),(6,.p 6 0),(7,.p 7 0),(8,.v (vi 0)),(9,.v (.func 240 [])),(13,.p 13 0)],[(13,.var (newC r n d p'.fls).cs (some b)),(7,.var qx),(6,.var lq),(3,.con r.cs)],[]⟩) ⟨[1,2,3,6,7,8,9,13],[13,7,6,3],[],[]⟩ rfl ?_;have hdg:=jtz L (newC r n d p'.fls) hfl (by show (befC r.crs r.crs.length).length<=1048576;omega);refine rc hdg ?_;by_cases hcb:crtB (newC r n d p'.fls)=true
  .have hdv:digV (newC r n d p'.fls)=.tup [.str (sumD (crtT (newC r n d p'.fls))),vi 0]:=qc0 ((jia _).1 hcb);rw[hdv];have hD:=qf3 L r h (newD r n d p'.fls) (qs4 h ⟨hfl,by show (befC r.crs r.crs.length).length<=1048576;omega,by show (sumD _).length<=1048576;rw[jmr];decide⟩ hcr) b;rw[vd (by rw[hcb];decide)] at hP;refine runW trivial ?_;refine fg (gh [(999000,13)] hD (.cons (.v _) (.cons (.v _) .nil)) ?_ ?_)
   .intro x hx;simp only[xn] at hx;subst hx;exact⟨13,_,rfl,rfl,rfl,.inr rfl,rfl⟩
   by_cases hc14:ce (morC r (newD r n d p'.fls))=0
   .rw[vd (fun e=>e hc14)] at hP;have e:chgd (morC r (newD r n d p'.fls))=(morC r (newD r n d p'.fls),0):=by unfold chgd;rw[vd (fun h=>h hc14)]
    rw[e,hP];refine rcW trivial hcp ?_;refine runD trivial ?_;refine lj .nm (fun _:Unit=>True) (fun _=>⟨113,[(6,.p 6 0),(7,.p 7 0),(8,.v (vi 0))],[(7,.var (newD r n d p'.fls).cs),(6,.var (morC r (newD r n d p'.fls)).cs)],[]⟩) ?_ ?_
    .intro E hE1;refine aq qzf ?_;refine ax trivial ?_
     try simp only[xg,xa,vz,bn,bq]
     repeat' (with_reducible refine ai ?_ ?_)
     all_goals refine hE1 () _ trivial ?_
     all_goals exact bu [6,7] [6,7,8] rfl rfl rfl (fun i k e=>by
      rw[ae,ae] at e;split at e
      .exact zo
      split at e
      .exact zo
      .cases e) rfl
    intro _ _
    show aw _ _ _ ⟨113,[(6,.p 6 0),(7,.p 7 0),(8,.v (vi 0))],[(7,.var (newD r n d p'.fls).cs),(6,.var (morC r (newD r n d p'.fls)).cs)],[]⟩ _
    exact za
   rw[ve hc14] at hP;have e:chgd (morC r (newD r n d p'.fls))=(aj,ce (morC r (newD r n d p'.fls))):=by unfold chgd;rw[ve hc14]
   rw[e,hP];refine rcW (vf hc14) (jes _) ?_;exact zcr
  have hdv:digV (newC r n d p'.fls)=.tup [.str [],vi 1]:=sk (fun h=>hcb ((jia _).2 h));rw[hdv];rw[ve (xbg.2 hcb)] at hP;rw[hP];refine rc (jes _) ?_;exact zcr
 have he:desP r n d=(aj,crtZ,sr r n d):=by unfold desP desE;rw[ve hz,ve hz]
 rw[he];refine rcW (vf hz) (jes _) ?_;exact zcr
theorem qvh(h:l[k]?=some p)(d:Int):((l.map Prp.cs).flatten).take (k*5+4)++[vi d]++((l.map Prp.cs).flatten).drop (k*5+4+1)=((l.set k { p with wdr:=d }).map Prp.cs).flatten:=by
 obtain⟨A,B,h1,h2,h3⟩:=qcu (cs:=Prp.cs) (z:=5) (fun _=>rfl) h;rw[h3,h1,<- h2,xbf,xd2,xbv];simp
theorem qqg(h:l[k]?=some p)(d:Int):wdrP l k d=l.set k { p with wdr:=d } := by unfold wdrP;rw[h]
theorem jmp(k:Nat)(d:Int):(wdrG r k d).pps.length=r.pps.length:=by
 show (wdrP r.pps k d).length=_
 unfold wdrP;split
 .rw[yc]
 rfl
abbrev gr147:List Gent:=gd 9 [[0,0,0],[1,4,0,0],[17,5,0,0],[49,1,0,0,0,0],[51,2,0],[55,3,0,0,0,0],[63,6,0],[127,7,0],[255,8,0,0,0,0],[511]]
theorem qzz(r:Rgs)(hx:r.pps[k]?=some p)(d:Int)(s:Option (Nat×Nat))(hs:okB r.pps.length s)(_hb:r.pps.length<=1048576):DenV prog T 239 [(999000,.var (cs_q r s))] 999050 (js7 r s) [.p 999000 0,.v (.row [vi d]),.v (.row [vi k])] (vc (wdrG r k d)):=by
 have hlt:=(gsi.1 hx).1;rcases s with _|⟨b,c⟩
 .have:r.pps.length=0:=hs;omega
 obtain⟨hc1,hc2⟩:r.pps.length<=c/\c<=maxLen:=hs;have hw:=ct (cs:=Prp.cs) (z:=5) (fun _=>rfl) r.pps;have hset:=qvh hx d;refine rk follows (fun args w=>call239 args w) func239 rfl 12 rfl rfl ?_ (fun _ _ _ h=>jek h)
 show aw _ _ _ (St.mk 12 [(0,.p 999000 0),(1,.v (.row [vi d])),(2,.v (.row [vi k]))] [(999000,.var [ofcs r.ofs,bh r.pls,fils r.fls,ruls r.rls,hlds r.hls,clks r.cks,sels r.sls,.val (.slice (some ⟨b,0,none⟩) r.pps.length c),apvs r.aps,crts r.crs,deps r.dps,vi r.chg]),(999050,.var (r.pps.map Prp.cs).flatten (some b) (some (151,5,c)))] []) _
 refine mi (ug .nm (fun _:Unit=>True) (fun _=>⟨12,[],[(999000,Blk.var [ofcs r.ofs,bh r.pls,fils r.fls,ruls r.rls,hlds r.hls,clks r.cks,sels r.sls,.val (.slice (some ⟨b,0,none⟩) r.pps.length c),apvs r.aps,crts r.crs,deps r.dps,vi r.chg]),(999050,Blk.var ((wdrG r k d).pps.map Prp.cs).flatten (some b) (some (151,5,c)))],[]⟩) ?_) ?_
 .intro E hE;obtain⟨W,hW⟩:∃W,(r.pps.map Prp.cs).flatten=W:=⟨_,rfl⟩
  have hset':W.take (k*5+4)++[vi d]++W.drop (k*5+4+1)=((wdrG r k d).pps.map Prp.cs).flatten:=by
   rw[<- hW,hset]
   show _=((wdrP r.pps k d).map Prp.cs).flatten
   rw[qqg hx]
  obtain⟨W2,hW2⟩:∃W2,((wdrG r k d).pps.map Prp.cs).flatten=W2:=⟨_,rfl⟩;rw[hW2] at hset' hE;simp only[hW] at hw ⊢;refine runD (ai hw ac) ?_;refine aq gr147 ?_;refine ax (ai hset' (ai hw ac)) ?_
  try simp only[xg,xa,vz,bn,bq]
  repeat' (with_reducible refine ai ?_ ?_)
  all_goals refine hE () _ trivial ?_
  all_goals exact bu [] [] rfl rfl rfl (fun _ _ e=>e) rfl
 rintro M F0 w0 F ρ st a w e X ⟨rfl,_,_,hs⟩;have hch:=il (cs:=Prp.cs) (z:=5) (fun _=>rfl) (wdrG r k d).pps;rw[jmp] at hch;obtain⟨F',X⟩:=jeu (k:=999050) (id:=999000) (j:=7) (n:=r.pps.length) (size:=5) (hs _ _ _ _ _ _ _ X) rfl rfl dcq rfl hc1 hc2 (by rw[ct (cs:=Prp.cs) (z:=5) (fun _=>rfl),jmp];exact vo _);simp only[fcSt] at X;rw[hch] at X;exact⟨F',ρ,_,X,jsf (i:=999050) rfl rfl⟩
theorem qs2(h:r.Fit)(k:Nat)(d:Int):(wdrG r k d).Fit:=
  { ofs:=h.ofs,pls:=h.pls,fls:=h.fls,rls:=h.rls,hls:=h.hls,cks:=h.cks,sls:=h.sls,aps:=h.aps,crs:=h.crs,dps:=h.dps
    pps:=⟨by rw[jmp];exact h.pps.1,fun q hq=>by
      have hq:q∈wdrP r.pps k d:=hq;unfold wdrP at hq;split at hq
      . rename_i p hp;rcases xbw hq with hq|rfl
        . exact h.pps.2 q hq
        exact h.pps.2 p (vp hp)
      exact h.pps.2 q hq⟩ }
theorem qfg(L:LibT T)(r:Rgs)(h:r.Fit)(hx:r.pps[k]?=some p)(d:Int):Den prog T 234 [.agg r.cs,.func 239 [.row [vi d],.row [vi k]]] (.tup [.agg (chgd (wdrG r k d)).1.cs,vi (chgd (wdrG r k d)).2]):=by
 refine jjr L r _ h (qs2 h k d) _ _ _ (jt9 r h) ?_;rintro ro v ⟨s,hs,rfl,rfl⟩;refine⟨fun i=>(cs_q r s).getD i (vi 0),rfl,fun i=>?_,fun b hb=>?_,qzz r hx d s hs h.pps.1⟩
 .match i with
  |0|1|2|3|4|5|6|7|8|9|10|11=>first|rfl|(cases s<;>rfl)
  |i+12=>rfl
 cases s with
 |none=>cases hb
 |some z=>cases hb;exact⟨rfl,_,rfl⟩
theorem qob(n d:Int)(a:Apv):Den prog T 238 [.agg a.cs,.row [vi n],.row [vi d]] (vb (pk n d a)):=by
 refine ab call238 func238 15 ?_;unfold pk;by_cases h1:a.prp=n
 .by_cases h2:d<=a.day
  .refine runW (ai (vg h1) (vg h2)) ?_;refine fin (ah ?_)
   first|rfl|(simp;done)|(simp[h1,h2])
  refine runW (ai (vg h1) (vf h2)) ?_;refine fin (ah ?_)
  first|rfl|(simp;done)|(simp[h1,h2])
 refine runW (vf h1) ?_;refine fin (ah ?_)
 first|rfl|(simp;done)|(simp[h1])
theorem qgr(L:LibT T)(r:Rgs)(h:r.Fit)(n d:Int):Den prog T 173 [.agg r.cs,vi n,vi d] (.tup [.agg (wdrR r n d).1.cs,vi (wdrR r n d).2]):=by
 have hck:=ja3 L r h;have hfd:=jea (T:=T) r h n;have hpl:=h.pps.1;have hce:=jsw (T:=T) r h n;have hla:=jvf (T:=T) r.aps 238 [.row [vi n],.row [vi d]] (pk n d) h.aps (fun a _=>qob n d a)
 have bad:∀e,wdrE r n d=e->e≠0->wdrR r n d=(aj,e):=fun e h1 h2=>by
  unfold wdrR;rw[ve (by rw[h1];exact h2),h1]
 rcases ee (cq n) r.pps with⟨h1,h2⟩|⟨k,p,h1,hk,hx,hpm,h2⟩
 .have h1:jm r.pps n= -1:=h1;rw[h1] at hfd;refine ab call173 func173 57 ?_;refine rc hfd ?_;refine rc hck ?_;by_cases hz:ce r=0
  .rw[bad 7 (by unfold wdrE;rw[vd (fun e=>e hz),h2]) dcq];refine runW hz ?_;exact zbw
  rw[bad 1 (by unfold wdrE;rw[ve hz]) dcq];exact zc0
 have h1:jm r.pps n=(k:Int):=h1;rw[h1] at hfd;have hch:=qfg L r h hx d;have hin:=tj (T:=T) d p.day 1048575;refine ab call173 func173 57 ?_;refine rc hfd ?_;refine rc hck ?_;by_cases hz:ce r=0
 .have hE:wdrE r n d=if d<p.day\/1048575<d then 2 else if p.wdr≠1048576\/jo r.crs n=true\/r.aps.any (pk n d)=true then 11 else 0:=by
   unfold wdrE;rw[vd (fun e=>e hz),h2]
  refine rcW (ai hz hx) hin ?_;by_cases hd:d<p.day\/1048575<d
  .have hb:(decide (p.day<=d) && decide (d<=1048575))=false:=by
    rcases hd with hd|hd
    .rw[vw omq,xau]
    rw[show decide (d<=1048575)=false from vw omq,yz]
   rw[hb,bad 2 (by rw[hE,ve hd]) dcq];refine run ?_;exact zbw
  have hb:(decide (p.day<=d) && decide (d<=1048575))=true:=by rw[vl omq,vl omq];rfl
  rw[vd hd] at hE;rw[hb];by_cases hw:p.wdr=1048576
  .refine rcW (ai hx (vg hw)) hce ?_;cases hc:jo r.crs n
   .refine rcW trivial hla ?_;cases ha:r.aps.any (pk n d)
    .have hE0:wdrE r n d=0:=by rw[hE,vd (by rintro (e|e|e);exact e hw;rw[hc] at e;cases e;rw[ha] at e;cases e)]
     have hok:ce (wdrG r k d)=0:=by
      have:=qyr hE0;rw[h1] at this;exact jc0.2 this
     have e:chgd (wdrG r k d)=(wdrG r k d,0):=by unfold chgd;rw[vd (fun e=>e hok)]
     have e2:wdrR r n d=(wdrG r k d,0):=by unfold wdrR;rw[vd (fun e=>e hE0),h1];rfl
     rw[e] at hch;rw[e2];refine rcW trivial hch ?_;exact za
    rw[bad 11 (by rw[hE,ve (.inr (.inr ha))]) dcq];refine run ?_;exact zbw
   rw[bad 11 (by rw[hE,ve (.inr (.inl hc))]) dcq];refine run ?_;exact zbw
  rw[bad 11 (by rw[hE,ve (.inl hw)]) dcq];refine runW (ai hx (vf hw)) ?_;exact zbw
 rw[bad 1 (by unfold wdrE;rw[ve hz]) dcq];exact zc0
end Go.Arc
