/- A part of this claim. -/
import Derived.Test.YtfbbflhnhmphiaaGreatDoorBaU
import Derived.Test.YtfbbflhnhmphiaaGreatDoorBaZ
set_option maxHeartbeats 8000000
set_option maxRecDepth 100000
namespace Go.Arc
open Go.Ab Go.RowKit Go.Proofs Tryz
variable {T : Lay}
variable {k:Nat}{n:Nat}{cs:List V}{d:Str}
theorem clPf {p:Prop} (h:p:=by
  cases l with
  |nil=>
   refine qy2 ?_;refine run ?_;intro b;cases b
   .refine run ?_;refine .inr ⟨2,7,_,_,rfl,rfl,krq,dcq,rfl,?_,fun r cap hcap=>?_⟩
    .exact⟨_,_,fe rfl,.refl _,.inl (.inl ⟨rfl,rfl,rfl⟩)⟩
    exact⟨_,_,fe rfl,.refl _,.inr ⟨7,_,r,rfl,rfl,.inr ⟨r,cap,rfl,vj _,hcap,rfl⟩⟩⟩
   refine run ?_;exact .inl ⟨_,_,fe rfl,.refl _,.inl (.inl ⟨rfl,rfl,rfl⟩)⟩
  |cons x r=>
   have h:r.length+1<=1048576:=hl
   dsimp only[ofcs,bh,fils,ruls,hlds,clks,sels,prps,apvs,crts,deps,vy]
   refine runB trivial ?_;refine sw ?_;unfold appR;refine run ?_;intro r' cap' hnm h1 h2;refine run ?_;refine⟨_,_,fe rfl,.refl _,.inr ⟨7,_,r',rfl,rfl,.inr ⟨r',cap',rfl,?_,h2,?_⟩⟩⟩
   .simpa using h1
   .simp):p:=h
theorem coPf {p:Prop} (h:p:=by
  cases l with
  |nil=>
   refine run ?_;intro b;cases b
   .exact zu
   refine run ?_;exact finO (.nil _)
  |cons x r=>
   have h:r.length+1<=1048576:=hl
   dsimp only[ofcs,bh,fils,ruls,hlds,clks,sels,prps,apvs,crts,deps,clss,movs,vy]
   refine run ?_
   exact finO (.refl _)):p:=h
theorem jsy(l:List Ofc)(hl:l.length<=1048576):DenU prog T 98 [ofcs l] (lm 136 5 (l.map Ofc.cs)):=by
 refine jp follows (fun args w=>call98 args w) func98 rfl 8 rfl ?_;exact clPf
theorem qfs(l:List Plan)(hl:l.length<=1048576):DenU prog T 99 [bh l] (lm 140 5 (l.map Plan.cs)):=by
 refine jp follows (fun args w=>call99 args w) func99 rfl 8 rfl ?_;exact clPf
theorem qfu(l:List Fil)(hl:l.length<=1048576):DenU prog T 100 [fils l] (lm 52 8 (l.map Fil.cs)):=by
 refine jp follows (fun args w=>call100 args w) func100 rfl 8 rfl ?_;exact clPf
theorem qfp(l:List Sel)(hl:l.length<=1048576):DenU prog T 108 [sels l] (lm 149 3 (l.map Sel.cs)):=by
 refine jp follows (fun args w=>call108 args w) func108 rfl 8 rfl ?_;exact clPf
theorem qfr(l:List Prp)(hl:l.length<=1048576):DenU prog T 109 [prps l] (lm 151 5 (l.map Prp.cs)):=by
 refine jp follows (fun args w=>call109 args w) func109 rfl 8 rfl ?_;exact clPf
theorem qfw(l:List Crt)(hl:l.length<=1048576):DenU prog T 110 [crts l] (lm 48 6 (l.map Crt.cs)):=by
 refine jp follows (fun args w=>call110 args w) func110 rfl 8 rfl ?_;exact clPf
theorem qfy(l:List Apv)(hl:l.length<=1048576):DenU prog T 111 [apvs l] (lm 96 3 (l.map Apv.cs)):=by
 refine jp follows (fun args w=>call111 args w) func111 rfl 8 rfl ?_;exact clPf
theorem qfq(l:List Rul)(hl:l.length<=1048576):DenU prog T 105 [ruls l] (lm 118 8 (l.map Rul.cs)):=by
 refine jp follows (fun args w=>call105 args w) func105 rfl 8 rfl ?_;exact clPf
theorem qft(l:List Hld)(hl:l.length<=1048576):DenU prog T 106 [hlds l] (lm 147 7 (l.map Hld.cs)):=by
 refine jp follows (fun args w=>call106 args w) func106 rfl 8 rfl ?_;exact clPf
theorem qfx(l:List Clk)(hl:l.length<=1048576):DenU prog T 107 [clks l] (lm 94 5 (l.map Clk.cs)):=by
 refine jp follows (fun args w=>call107 args w) func107 rfl 8 rfl ?_;exact clPf
theorem qfv(l:List Dep)(hl:l.length<=1048576):DenU prog T 112 [deps l] (lm 98 2 (l.map Dep.cs)):=by
 refine jp follows (fun args w=>call112 args w) func112 rfl 8 rfl ?_;exact clPf
theorem qi2(l:List Cls)(hl:l.length<=1048576):DenO prog T 102 [clss l] 142 (clss l):=by
 refine pz call102 func102 8 ?_;exact coPf
theorem qi1(l:List Mov)(hl:l.length<=1048576):DenO prog T 103 [movs l] 144 (movs l):=by
 refine pz call103 func103 8 ?_;exact coPf
theorem qgn(l:List Rul)(hl:l.length<=1048576):DenO prog T 105 [ruls l] 118 (ruls l):=by
 refine pz call105 func105 8 ?_;exact coPf
theorem rp(l:List Int)(hl:l.length<=1048576):DenO prog T 101 [ints l] 3 (ints l):=by
 refine pz call101 func101 8 ?_;cases l with
 |nil=>
  refine run ?_;intro b;cases b
  .exact zu
  refine run ?_;exact finO (.nil 1)
 |cons x r=>
  have h:r.length+1<=1048576:=hl;have e:ints (x::r)=.slice 1 (Cint x::r.map Cint):=rfl;rw[e];exact zu
abbrev vu(n:Int):V:=.val (.int .u64 n)
abbrev wds(l:List Int):List V:=l.map vu
abbrev nus(l:List Int):List V:=l.map vi
theorem mg{l:List Int}(h:k<l.length):(wds l).drop k=vu (atU l k)::(wds l).drop (k+1):=by
 have h':k<(wds l).length:=by rw[vm];exact h
 exact zdh
theorem qrl{l:List Int}(h:k<l.length):(nus l).drop k=vi (atU l k)::(nus l).drop (k+1):=by
 have h':k<(nus l).length:=by rw[vm];exact h
 exact zdh
theorem jex{l:List Int}(h:k<l.length)(x:Int):(wds l).take k++[vu x]++(wds l).drop (k+1)=wds (l.set k x):=by
 have e:l.set k x=l.take k++x::l.drop (k+1):=by rw[xd3,ve h]
 rw[e,xb];simp only[wds,xz,vy,xb4,xca,List.singleton_append]
theorem jua:∀cs:List V,cy cs.length cs=some cs
 |[]=>rfl
 |c::cs=>by rw[List.length_cons,cy,jua cs];rfl
theorem jw5(h:cs.length=n):cy n cs=some cs:=by rw[<- h];exact jua cs
theorem jw6:∀(cs ds:List V),cy cs.length (cs++ds)=some cs
 |[],_=>rfl
 |c::cs,ds=>by rw[List.length_cons,List.cons_append,cy,jw6 cs];rfl
theorem qyw:∀i:Nat,i<25->0<=atU rotL i/\atU rotL i<=63:=by decide
theorem and63:∀n:Int,0<=n->n<=63->bitF .and .u64 n 63=n:=by
 intro n h0 h1;have:∀m:Fin 64,bitF .and .u64 ((m.val:Nat):Int) 63=((m.val:Nat):Int):=by decide
 have h2:=this ⟨n.toNat,omq⟩;simp only[Int.toNat_of_nonneg h0] at h2;exact h2
theorem qdx:∀n:Int,0<=n->n<=64->IntKind.u64.wrap n=n:=fun n h0 h1=>IntWalk.u64_in n ⟨h0,omq⟩
theorem jzr(x n:Int)(h0:0<=n)(h1:n<=63):Den prog T 432 [vu x,vi n] (vu (rotU x n)):=by
 have a:=and63 n h0 h1;have b:=qdx n h0 omq;have c:=qdx (64-n) omq omq;refine ab call432 func432 17 ?_;refine runW (ai a (ai b c)) ?_;exact fin rfl
theorem qfa:Den prog T 422 [] (.agg (nus rotL)):=by
 refine ab call422 func422 2 ?_;exact zbm
theorem qff:Den prog T 423 [] (.agg (wds conL)):=by
 refine ab call423 func423 2 ?_;exact zbm
theorem jsg{P:Program}{x t j:Nat}{nm:Option Nat}{kk:Option (TypeId×Nat×Nat)}{st:St}[h0:TAgg P t n](h1:Ab.look x st.t=some (.p j 0))(h2:Ab.look j st.h=some (.var cs nm kk))(h3:cs.length=n):nq P [.cell x t] (.agg cs) .rt st:=by
 refine .inl ⟨.agg cs,fe ?_,.refl _⟩;have e:resV P st (.cell x t)=(behind st.h (Ab.look x st.t)).bind (ldV P t):=rfl;rw[e,h1];simp only[behind,memV,h2,xas,Option.bind_some,ldV,h0.agg,h0.size,jw5 h3,Option.map_some]
theorem jj9:(wds du).drop 25=[]/\du.length=25:=⟨rfl,rfl⟩
theorem qip{l:List Int}(h:l.length=25):(wds l).drop 25=[]:=xbc (by rw[vm];omega)
theorem tk25{l:List Int}(h:l.length=25):cy 25 (wds l)=some (wds l):=jw5 (by rw[vm];exact h)
theorem qw8{l:List Int}(h:0<l.length):ldV prog 390 (wds l)=some (vu (atU l 0)):=by
 have:=mg h;rw[xas] at this;rw[this,ml]
theorem qqe{l:List Int}(h:0<l.length)(x:Int):vu x::(wds l).drop 1=wds (l.set 0 x):=jex h x
def bK(a:List Int)(k:Nat):List Int:=layF id posF (fun i=>rotU (jja a i) (atU rotL i)) k du
def oK(b:List Int)(k:Nat):List Int:=layF id id (chiF b) k du
theorem qy0(a:List Int)(k:Nat):bK a (k+1)=(bK a k).set (posF k) (rotU (jja a k) (atU rotL k)):=jwr _ _ _ _ _
theorem qw0(b:List Int)(k:Nat):oK b (k+1)=(oK b k).set k (chiF b k):=jwr _ _ _ _ _
theorem qdp(a:List Int)(k:Nat):(bK a k).length=25:=jng _ _ _ _ _
theorem qcz(b:List Int)(k:Nat):(oK b k).length=25:=jng _ _ _ _ _
theorem qvl:∀i:Nat,i<25->posF i<25:=by decide
theorem xa6(a:List Int):(bF a).length=25:=qdp a 25
theorem qrf(b:List Int):(outF b).length=25:=qcz b 25
theorem qnz(a:List Int)(c:Int)(ha:a.length=25):Den prog T 424 [.agg (wds a),.agg (nus rotL),vu c] (.agg (wds (qp a c))):=by
 have ta:=tk25 ha;refine ab call424 func424 118 ?_;refine runW ta ?_
 refine loop ⟨[2,3,4,6,7,18,19],[3,4,6,7],[],[]⟩ (fun k:Nat=>k<=25) (fun k=>25-k)
  (fun k=>⟨118,[(2,.v (vu c)),(3,.p 3 0),(4,.p 4 0),(6,.p 6 0),(7,.p 7 0),(18,.v (.agg (wds a))),(19,.v (vi k))],[(3,.var (wds a)),(4,.var (nus rotL)),(6,.var (wds du)),(7,.var (wds (iz a k)))],[]⟩) 0 (vj _) ?_
 intro k hk;by_cases hlt:k<25
 .have hs:=jw7 a k;have m5:((k:Nat):Int).tmod 5=((k % 5:Nat):Int):=ol k 5;have d1:=mg (l:=a) (k:=k) omq;have d2:=mg (l:=iz a k) (k:=k % 5) omq
  have s1:(wds (iz a k)).take (k % 5)++[vu (bitF .xor .u64 (atU (iz a k) (k % 5)) (atU a k))]++(wds (iz a k)).drop (k % 5+1)=wds (iz a (k+1)):=by
   rw[jub];exact jex omq _
  refine runW (ai m5 (ai d1 (ai d2 s1))) ?_;exact round (k+1) omq omq
 have hk:k=25:=omq;subst hk;have hw:∀i,jja a i=xorU (xorU (atU a i) (atU (iz a 25) ((i+4) % 5))) (rotU (atU (iz a 25) ((i+1) % 5)) 1):=fun i=>rfl;have hSl:=jw7 a 25;obtain⟨S,hS⟩:∃S,iz a 25=S:=⟨_,rfl⟩;simp only[hS] at hw hSl ⊢;refine run ?_
 refine loop ⟨[2,3,4,6,7,10,31],[3,4,6,7,10],[],[]⟩ (fun y:Nat=>y<=5) (fun y=>5-y)
  (fun y=>⟨118,[(2,.v (vu c)),(3,.p 3 0),(4,.p 4 0),(6,.p 6 0),(7,.p 7 0),(10,.p 10 0),(31,.v (vi y))],[(3,.var (wds a)),(4,.var (nus rotL)),(6,.var (wds du)),(7,.var (wds S)),(10,.var (wds (bK a (5*y))))],[]⟩) 0 (vj _) ?_
 intro y hy;by_cases hylt:y<5
 .refine run ?_
  refine loop ⟨[2,3,4,6,7,10,31,11,34],[3,4,6,7,10],[],[]⟩ (fun x:Nat=>x<=5) (fun x=>5-x)
   (fun x=>⟨118,[(2,.v (vu c)),(3,.p 3 0),(4,.p 4 0),(6,.p 6 0),(7,.p 7 0),(10,.p 10 0),(31,.v (vi y)),(11,.v (vi y)),(34,.v (vi x))],[(3,.var (wds a)),(4,.var (nus rotL)),(6,.var (wds du)),(7,.var (wds S)),(10,.var (wds (bK a (5*y+x))))],[]⟩) 0 (vj _) ?_
  intro x hx;by_cases hxlt:x<5
  .have hB:=qdp a (5*y+x);have hj:=qvl (5*y+x) omq;have f1:(x:Int)+5*(y:Int)=((5*y+x:Nat):Int):=omq
   have f2:((x:Int)+4).tmod 5=(((5*y+x+4) % 5:Nat):Int):=by
    rw[show (5*y+x+4) % 5=(x+4) % 5 by omega];exact ol (x+4) 5
   have f3:((x:Int)+1).tmod 5=(((5*y+x+1) % 5:Nat):Int):=by
    rw[show (5*y+x+1) % 5=(x+1) % 5 by omega];exact ol (x+1) 5
   have f4:(2*(x:Int)+3*(y:Int)).tmod 5=(((2*x+3*y) % 5:Nat):Int):=ol (2*x+3*y) 5
   have f5:(y:Int)+5*(((2*x+3*y) % 5:Nat):Int)=((posF (5*y+x):Nat):Int):=by
    have h1:(5*y+x) / 5=y:=omq;have h2:(5*y+x) % 5=x:=omq;unfold posF;rw[h1,h2];omega
   have d1:=mg (l:=a) (k:=5*y+x) omq;have d2:=mg (l:=S) (k:=(5*y+x+4) % 5) omq;have d3:=mg (l:=S) (k:=(5*y+x+1) % 5) omq;have d4:=qrl (l:=rotL) (k:=5*y+x) (by show _<25;omega);have hr:=qyw (5*y+x) omq
   have s1:(wds (bK a (5*y+x))).take (posF (5*y+x))++[vu (rotU (bitF .xor .u64 (bitF .xor .u64 (atU a (5*y+x)) (atU S ((5*y+x+4) % 5))) (rotU (atU S ((5*y+x+1) % 5)) 1)) (atU rotL (5*y+x)))]++(wds (bK a (5*y+x))).drop (posF (5*y+x)+1)=wds (bK a (5*y+x+1)):=by
    rw[qy0,hw];exact jex omq _
   refine rcW (ai f1 (ai f2 (ai f3 (ai d1 (ai d2 d3))))) (jzr (atU S ((5*y+x+1) % 5)) 1 dcq dcq) ?_;refine rcW (ai f4 (ai f5 d4)) (jzr _ _ hr.1 hr.2) ?_;refine runW s1 ?_;exact round (x+1) omq omq
  have hx5:x=5:=omq;subst hx5;refine run ?_;exact round (y+1) omq omq
 have hy5:y=5:=omq;subst hy5;have hBl:=xa6 a;have hBe:bK a (5*5)=bF a:=rfl;have hRe:qp a c=(outF (bF a)).set 0 (bitF .xor .u64 (atU (outF (bF a)) 0) c):=rfl;have hRl:=jul a c;obtain⟨B,hB⟩:∃B,bF a=B:=⟨_,rfl⟩;simp only[hBe,hB] at hBl hRe ⊢;refine run ?_
 refine loop ⟨[2,6,10,15,74],[6,10,15],[],[]⟩ (fun y:Nat=>y<=5) (fun y=>5-y)
  (fun y=>⟨118,[(2,.v (vu c)),(6,.p 6 0),(10,.p 10 0),(15,.p 15 0),(74,.v (vi y))],[(6,.var (wds du)),(10,.var (wds B)),(15,.var (wds (oK B (5*y))))],[]⟩) 0 (vj _) ?_
 intro y hy;by_cases hylt:y<5
 .refine run ?_
  refine loop ⟨[2,6,10,15,74,16,77],[6,10,15],[],[]⟩ (fun x:Nat=>x<=5) (fun x=>5-x)
   (fun x=>⟨118,[(2,.v (vu c)),(6,.p 6 0),(10,.p 10 0),(15,.p 15 0),(74,.v (vi y)),(16,.v (vi y)),(77,.v (vi x))],[(6,.var (wds du)),(10,.var (wds B)),(15,.var (wds (oK B (5*y+x))))],[]⟩) 0 (vj _) ?_
  intro x hx;by_cases hxlt:x<5
  .have hO:=qcz B (5*y+x);have f1:(x:Int)+5*(y:Int)=((5*y+x:Nat):Int):=omq;have f2:((x:Int)+1).tmod 5=(((x+1) % 5:Nat):Int):=ol (x+1) 5;have f3:((x:Int)+2).tmod 5=(((x+2) % 5:Nat):Int):=ol (x+2) 5;have f4:(((x+1) % 5:Nat):Int)+5*(y:Int)=(((x+1) % 5+5*y:Nat):Int):=omq;have f5:(((x+2) % 5:Nat):Int)+5*(y:Int)=(((x+2) % 5+5*y:Nat):Int):=omq;have d1:=mg (l:=B) (k:=5*y+x) omq;have d2:=mg (l:=B) (k:=(x+1) % 5+5*y) omq;have d3:=mg (l:=B) (k:=(x+2) % 5+5*y) omq
   have s1:(wds (oK B (5*y+x))).take (5*y+x)++[vu (bitF .xor .u64 (atU B (5*y+x)) (bitF .and .u64 (notF .u64 (atU B ((x+1) % 5+5*y))) (atU B ((x+2) % 5+5*y))))]++(wds (oK B (5*y+x))).drop (5*y+x+1)=wds (oK B (5*y+x+1)):=by
    have h1:(5*y+x) / 5=y:=omq;have h2:(5*y+x) % 5=x:=omq;rw[qw0];unfold chiF;rw[h1,h2];exact jex omq _
   refine runW (ai f1 (ai f2 (ai f3 (ai f4 (ai f5 (ai d1 (ai d2 (ai d3 s1)))))))) ?_;exact round (x+1) omq omq
  have hx5:x=5:=omq;subst hx5;refine run ?_;exact round (y+1) omq omq
 have hy5:y=5:=omq;subst hy5;have hOl:=qrf B;have hOe:oK B (5*5)=outF B:=rfl;obtain⟨O,hO⟩:∃O,outF B=O:=⟨_,rfl⟩;simp only[hOe,hO] at hOl hRe ⊢;have e0:=qw8 (l:=O) omq;have e1:=qqe (l:=O) omq (bitF .xor .u64 (atU O 0) c);rw[<- hRe] at e1;obtain⟨R,hR⟩:∃R,qp a c=R:=⟨_,rfl⟩;simp only[hR] at hRl e1 ⊢;refine runW (ai e0 (ai e1 (ai (tk25 hRl) (ai hRl jj9)))) ?_;refine jsg (P:=prog) (x:=6) (t:=391) (j:=6) (cs:=wds R) (nm:=none) (kk:=none) ?_ ?_ ?_
 .rfl
 .rfl
 rw[vm];exact hRl
def pK(a:List Int)(k:Nat):List Int:=(conL.take k).foldl qp a
theorem qcx{a:List Int}(h:a.length=25)(k:Nat):(pK a k).length=25:=jm2 _ a h
theorem xa3:∀k:Nat,k<24->conL.take (k+1)=conL.take k++[atU conL k]:=by decide
theorem qvo(a:List Int)(h:k<24):pK a (k+1)=qp (pK a k) (atU conL k):=by
 unfold pK;rw[xa3 k h,xbk,List.foldl_cons,List.foldl_nil]
theorem qz2(a:List Int):pK a 24=tc a:=by rw[tc];rfl
theorem qi8(a:List Int)(ha:a.length=25):Den prog T 403 [.agg (wds a)] (.agg (wds (tc a))):=by
 have tr:cy 25 (nus rotL)=some (nus rotL):=rfl;have hrl:rotL.length=25:=rfl;refine ab call403 func403 17 ?_;refine rc qfa ?_;refine rcW hrl qff ?_;refine run ?_
 refine loop ⟨[1,2,3,7,8],[1,2,3],[],[]⟩ (fun k:Nat=>k<=24) (fun k=>24-k)
  (fun k=>⟨17,[(1,.p 1 0),(2,.p 2 0),(3,.p 3 0),(7,.v (.agg (wds conL))),(8,.v (vi k))],[(1,.var (wds (pK a k))),(2,.var (wds du)),(3,.var (nus rotL))],[]⟩) 0 (vj _) ?_
 intro k hk;have hl:=qcx ha k;by_cases hlt:k<24
 .have hl2:=qcx ha (k+1);have hc:=mg (l:=conL) (k:=k) hlt;have hR:=qnz (T:=T) (pK a k) (atU conL k) hl;rw[<- qvo a hlt] at hR;refine rcW (ai hc (ai (tk25 hl) tr)) hR ?_;refine runW (ai hl2 (qip hl)) ?_;exact zt
 have hk:k=24:=omq;subst hk;simp only[qz2] at hl ⊢;refine runW (ai (tk25 hl) (ai hl jj9)) ?_;refine jsg (P:=prog) (x:=2) (t:=391) (j:=2) (cs:=wds (tc a)) (nm:=none) (kk:=none) ?_ ?_ ?_
 .rfl
 .rfl
 rw[vm];exact hl
theorem xa4(b:UInt8):IntKind.u64.wrap (b.toNat:Int)=(b.toNat:Int):=IntWalk.u64_in _ ⟨omq,by have:=UInt8.toNat_lt b;omega⟩
theorem jxr(s:List Int)(d:Str)(hs:s.length=25)(hd:d.length=136):Den prog T 366 [.agg (wds s),.str d] (.agg (wds (gb s d))):=by
 have hfin:tc (eatF s d 136)=gb s d:=by rw[gb]
 refine ab call366 func366 28 ?_;refine run ?_
 refine loop ⟨[1,2,4,7,8],[2,4],[],[]⟩ (fun k:Nat=>k<=136) (fun k=>136-k)
  (fun k=>⟨28,[(1,.v (.str d)),(2,.p 2 0),(4,.p 4 0),(7,.v (vi d.length)),(8,.v (vi k))],[(2,.var (wds (eatF s d k))),(4,.var (wds du))],[]⟩) 0 (vj _) ?_
 intro k hk;have hl:(eatF s d k).length=25:=(jzk s d k).trans hs;by_cases hlt:k<136
 .obtain⟨b,hb,-,-⟩:=af (l:=d) (k:=k) omq;have hg:d.getD k 0=b:=by rw[xcy,hb];rfl
  have q1:((k:Nat):Int).tdiv 8=((k / 8:Nat):Int):=jbw k 8;have q2:((k:Nat):Int).tmod 8=((k % 8:Nat):Int):=ol k 8;have d1:=mg (l:=eatF s d k) (k:=k / 8) omq
  have s1:(wds (eatF s d k)).take (k / 8)++[vu (bitF .xor .u64 (atU (eatF s d k) (k / 8)) (shF true .u64 (b.toNat:Int) (8*((k % 8:Nat):Int))))]++(wds (eatF s d k)).drop (k / 8+1)=wds (eatF s d (k+1)):=by
   rw[jxj,hg];exact jex omq _
  refine runW (ai hb (ai q1 (ai q2 (ai d1 (ai s1 (xa4 b)))))) ?_;exact zt
 have hk:k=136:=omq;subst hk;have hP:=qi8 (T:=T) (eatF s d 136) hl;rw[hfin] at hP;have hl2:(gb s d).length=25:=jh7 s d hs;refine rcW (tk25 hl) hP ?_;refine runW (ai hl2 jj9) ?_;refine jsg (P:=prog) (x:=4) (t:=391) (j:=4) (cs:=wds (gb s d)) (nm:=none) (kk:=none) ?_ ?_ ?_
 .rfl
 .rfl
 rw[vm];exact hl2
def hshC(s:List Int)(r:Str)(n:Int):List V:=wds s++[.str r,vi n]
def NewP(ro:Option Blk)(r:V):Prop:=∃b,ro=some (.var (hshC du [] 0) (some b))/\r=.val (.pointer (some ⟨b,0,none⟩))
theorem qrh(σ:Sto):opv σ (.const (.pointer none))=some (.v (.val (.pointer none))):=rfl
theorem qtr:DenU prog T 310 [] NewP:=by
 refine jp follows (fun args w=>call310 args w) func310 rfl 3 rfl ?_;refine xaa ?_;refine runW (fun σ=>qrh σ) ?_;refine⟨0,2,0,rfl,fun b=>?_⟩;exact⟨_,_,fe rfl,.refl _,.inr ⟨2,_,b,rfl,rfl,b,rfl,rfl⟩⟩
structure HshF (s:List Int):Prop where
 d25:∀r n,(hshC s r n).drop 25=[.str r,vi n]
 d26:∀r n,(hshC s r n).drop 26=[vi n]
 d27:∀r n,(hshC s r n).drop 27=[]
 s25:∀r n q,(hshC s r n).take 25++[.str q]++[vi n]=hshC s q n
 s26:∀r n q,(hshC s r n).take 26++[vi q]=hshC s r q
 t25:∀r n,cy 25 (hshC s r n)=some (wds s)
 ln:∀r n,(hshC s r n).length=27
theorem jfr{s:List Int}(h:s.length=25):HshF s:=by
 have hl:(wds s).length=25:=by rw[vm];exact h
 refine⟨fun r n=>?_,fun r n=>?_,fun r n=>?_,fun r n q=>?_,fun r n q=>?_,fun r n=>?_,fun r n=>?_⟩<;>unfold hshC
 .rw[<- hl,List.drop_left]
 .rw[show 26=(wds s).length+1 by omega,xbv];rfl
 .rw[show 27=(wds s).length+2 by omega,xbv];rfl
 .rw[<- hl,List.take_left,xb];rfl
 .rw[show 26=(wds s).length+1 by omega,xd2,xb];rfl
 .have:=jw6 (wds s) [.str r,vi n];rw[hl] at this;exact this
 rw[vr,hl];rfl
theorem qlx{s:List Int}(h:d.length<136):absF n s d=(s,d):=by
 cases n with
 |zero=>rfl
 |succ n=>rw[absF,vd omq]
theorem qqb{s:List Int}(hn:d.length<=n)(h:136<=d.length):∃k,(d.drop 136).length<=k/\absF n s d=absF k (gb s (d.take 136)) (d.drop 136):=by
 cases n with
 |zero=>omega
 |succ n=>exact⟨n,by rw[xw];omega,by rw[absF,ve h]⟩
abbrev qzk:List Gent:=gd 14 [[0,0,0],[1,1,0],[3,5,0],[35,2,1,6,0],[99,7,2],[39,3,0],[47,4,2,6,1],[227,2,2,8,3],[111,7,5],[63,6,2,0,0,0],[231,3,3],[483,2,1,9,3],[127,7,3],[487,3,4],[239,4,1,8,3],[995,2,1,0,0,0],[255,8,2,0,0,0],[999,3,2],[495,4,0,9,1],[511,9,1,0,0,0],[1007,4,0,0,0,0],[1023,10,0,0,0,0],[2047,11,0,0,0,0],[4095,12,0],[8191,13,0,0,0,0],[16383]]
theorem ql8(s0:List Int)(d:Str)(hs0:s0.length=25)(hd:d.length<=1073741824):
  DenS prog T 311 [(999000,.var (hshC s0 [] 0))] [] [.p 999000 0,.v (strs [d])] [(999000,.var (hshC (absF d.length s0 d).1 (absF d.length s0 d).2 (d.length:Int)))] [] (.v (vi d.length)):=by
 have H:=jfr hs0;refine bx follows (fun args w=>call311 args w) func311 rfl 62 rfl rfl ?_;obtain⟨⟨sE,rE⟩,hE⟩:∃p,absF d.length s0 d=p:=⟨_,rfl⟩;have hEl:sE.length=25:=by have:=jml d.length s0 d hs0;rw[hE] at this;exact this
 rw[hE];refine run ?_
 refine loop ⟨[0,7,8,9],[999000],[],[]⟩ (fun _:Bool=>True) (fun b=>if b=true then 0 else 1)
  (fun b=>⟨62,[(0,.p 999000 0),(7,.v (strs [d])),(8,.v (vi 1)),(9,.v (vi (if b=true then 1 else 0)))],[(999000,.var (if b=true then hshC sE rE (d.length:Int) else hshC s0 [] 0))],[]⟩) false trivial ?_
 rintro b -;cases b with
 |true=>
  have HE:=jfr hEl;simp only[xf];refine runW HE.d26 ?_;exact zbo
 |false=>
  simp only[yw,xy];have z0:(0:Int)+(d.length:Int)=(d.length:Int):=Int.zero_add _;refine runW (ai H.d25 (ai H.d26 (ai H.d27 (ai H.s25 (ai H.s26 (ai H.ln z0)))))) ?_
  refine loop ⟨[0,7,8,9],[999000],[],[]⟩ (fun y:List Int×Str=>y.1.length=25/\y.2.length<=d.length/\∃n,y.2.length<=n/\absF n y.1 y.2=(sE,rE)) (fun y=>y.2.length)
   (fun y=>⟨62,[(0,.p 999000 0),(7,.v (strs [d])),(8,.v (vi 1)),(9,.v (vi 0))],[(999000,.var (hshC y.1 y.2 (d.length:Int)))],[]⟩) (s0,d) ⟨hs0,vo _,_,vo _,hE⟩ ?_
  rintro⟨s,r⟩ ⟨hs,hr,n,hn,hA⟩;simp only at hs hr hn hA;have H:=jfr hs;by_cases h136:136<=r.length
  .obtain⟨k,hk,hst⟩:=qqb (s:=s) hn h136;have htl:(r.take 136).length=136:=by rw[xq];omega
   have hB:=jxr (T:=T) s (r.take 136) hs htl;have hBl:=jh7 s (r.take 136) hs;have hta:r.take r.length=r:=yk;have H2:=jfr hBl;have hmk:∀r1 n1,wds (gb s (r.take 136))++[V.str r1,vi n1]=hshC (gb s (r.take 136)) r1 n1:=fun _ _=>rfl;refine runD (ai H.d25 (ai H.d26 H.ln)) ?_;refine aq qzk ?_;refine tz (fun _:Unit=>True) ⟨[0,7,8,9],[999000],[],[]⟩ (fun _=>⟨62,[(0,.p 999000 0),(7,.v (strs [d])),(8,.v (vi 1)),(9,.v (vi 0))],[(999000,.var (hshC (gb s (r.take 136)) r (d.length:Int)))],[]⟩) (fun st st' hk h=>fj _ hk h) ?_ (fun K' hK=>?_)
   rotate_left
   .refine ax (ai H.d25 (ai H.d26 H.t25)) ?_
    try simp only[xg,xa,vz,bn,bq]
    repeat' (with_reducible refine ai ?_ ?_)
    all_goals
     refine call hB ?_;refine ax (ai hBl (ai H.d25 (ai hmk H.ln))) ?_
     try simp only[xg,xa,vz,bn,bq]
     repeat' (with_reducible refine ai ?_ ?_)
     all_goals exact rg hK () trivial
   intro _ _;refine runW (ai H2.d25 (ai H2.d26 (ai H2.s25 (ai H2.ln hta)))) ?_;exact round (gb s (r.take 136),r.drop 136) ⟨hBl,by simp only[xw];omega,k,hk,by rw[<- hst];exact hA⟩ (by simp only[xw];omega)
  rw[qlx omq] at hA;cases hA;refine runW (ai H.d25 H.d26) ?_;refine round true trivial dcq ?_;simp only[xf];rfl
abbrev qzm:List Gent:=gd 15 [[0,0,0],[1,5,0],[33,1,0,6,1],[35,2,1],[97,7,1],[39,3,3,6,1],[225,1,1,8,3],[103,7,6],[227,2,5],[47,4,2,6,1],[481,1,2,9,4],[111,7,6],[63,6,4,0,0,0],[483,2,6],[231,3,3,8,5],[993,1,0,10,3],[995,2,7],[127,7,4],[239,4,3,8,2],[2017,1,3,11,5],[487,3,0,9,3],[495,4,5,9,7],[255,8,4,0,0,0],[2019,2,2],[999,3,4,10,1],[4065,1,2,0,0,0],[2023,3,5,11,4],[511,9,2,0,0,0],[4067,2,2],[1007,4,0,10,2],[1023,10,2,0,0,0],[4071,3,2,0,0,0],[2031,4,0,11,1],[2047,11,1,0,0,0],[4079,4,0,0,0,0],[4095,12,0,0,0,0],[8191,13,0,0,0,0],[16383,14,0,0,0,0],[32767]]
abbrev qzl:List Gent:=gd 9 [[0,0,0],[1,4,0],[17,1,1,5,2,7,0],[145,1,5,5,4],[19,2,2],[49,1,0,7,2],[51,2,5],[23,3,2,5,4,7,3],[177,1,4,0,0,0],[147,2,1],[31,5,5,7,3],[151,3,2,5,3],[55,3,3,7,2],[179,2,1],[159,5,3,0,0,0],[183,3,2,0,0,0],[63,6,0,7,1],[127,7,1,0,0,0],[191,6,0,0,0,0],[255,8,0,0,0,0],[511]]
theorem or128:∀n:Fin 256,(((UInt8.ofNat (bitF .or .u8 ((n.val:Nat):Int) 128).toNat).toNat:Nat):Int)=bitF .or .u8 ((n.val:Nat):Int) 128:=by decide
theorem qvp(b:UInt8):((orB b).toNat:Int)=bitF .or .u8 (b.toNat:Int) 128:=or128 ⟨b.toNat,UInt8.toNat_lt b⟩
abbrev vb8(n:Int):V:=.val (.int .u8 n)
theorem qu8{l:Str}{b:UInt8}(h:l[k]?=some b):(dm l).drop k=vb8 b.toNat::(dm l).drop (k+1):=by
 obtain⟨hlt,rfl⟩:=gsi.1 h;unfold dm;rw[<- xca,<- xca,xat hlt,vy]
theorem qxz{l:Str}(h:k<l.length)(x:UInt8):(dm l).take k++[vb8 x.toNat]++(dm l).drop (k+1)=dm (l.set k x):=by
 have e:l.set k x=l.take k++x::l.drop (k+1):=by rw[xd3,ve h]
 rw[e,xb];simp only[dm,xz,vy,xb4,xca,List.singleton_append]
theorem jrj:∀l:Str,byL (dm l)=some l
 |[]=>rfl
 |b::l=>by
  have ih:=jrj l;unfold dm at ih ⊢;rw[vy,byL,ih,Option.map_some,Int.toNat_natCast,UInt8.ofNat_toNat]
theorem qqc(x:Int):0<=IntKind.u8.wrap x/\IntKind.u8.wrap x<=255:=by
 unfold IntKind.wrap;simp[IntKind.signed,IntKind.bits];omega
theorem qpx(x:Int):(((UInt8.ofNat (IntKind.u8.wrap x).toNat).toNat:Nat):Int)=IntKind.u8.wrap x:=by
 have:=qqc x;rw[UInt8.toNat_ofNat_of_lt' (by show _<256;omega)];omega
theorem qns(s:List Int)(k:Nat):digF s (k+1)=digF s k++[UInt8.ofNat (IntKind.wrap .u8 (shF false .u64 (atU s (k / 8)) (8*((k % 8:Nat):Int)))).toNat]:=by
 unfold digF;rw[List.range_succ,xz];rfl
abbrev Cby(b:UInt8):List V:=[vb8 b.toNat]
abbrev bys(l:Str):V:=.slice 1 (l.map Cby)
theorem qa5:∀l:Str,(l.map Cby).flatten=dm l
 |[]=>rfl
 |b::l=>by
  have ih:=qa5 l;unfold dm at ih ⊢;rw[vy,List.flatten_cons,ih];rfl
theorem qh3(L:LibT T)(s:List Int)(d:Str)(n:Int)(hs:s.length=25)(hd:d.length<136):
  DenS prog T 312 [(999000,.var (hshC s d n))] [] [.p 999000 0] [(999000,.var (hshC s d n))] [] (.v (.str (digF (gb s (padF d)) 32))):=by
 have H:=jfr hs;have hR:=jth L (135-d.length) omq;have hc:((135-d.length:Nat):Int)=135-(d.length:Int):=omq;rw[hc] at hR;obtain⟨Lst,hL⟩:∃l,d++[6]++List.replicate (135-d.length) 0=l:=⟨_,rfl⟩;have hLl:Lst.length=136:=by rw[<- hL];simp;omega
 have hcat:((d++[(6:UInt8)]).length+(List.replicate (135-d.length) (0:UInt8)).length<=9223372036854775807)=True:=vg zep;have hpad:jfp Lst=padF d:=by rw[<- hL];unfold padF;simp
 have hPl:=qre d hd;have hB:=jxr (T:=T) s (padF d) hs hPl;have hBl:=jh7 s (padF d) hs;obtain⟨q,hq⟩:∃q,gb s (padF d)=q:=⟨_,rfl⟩;rw[hq] at hB hBl ⊢;obtain⟨x,hx,-,-⟩:=af (l:=Lst) (k:=135) omq;have hd1:=qu8 hx
 have hst:(dm Lst).take 135++[vb8 (bitF .or .u8 (x.toNat:Int) 128)]++(dm Lst).drop 136=dm (padF d):=by
  rw[<- hpad,<- qvp]
  have h1:jfp Lst=Lst.set 135 (orB x):=by
   unfold jfp;rw[hLl];simp only[xcy,hx];rfl
  rw[h1];exact qxz omq _
 obtain⟨P,hP⟩:∃P,padF d=P:=⟨_,rfl⟩;rw[hP] at hst hPl hB;have hby:=jrj P;have htk:(dm P).take 136=dm P:=ye (by rw[jh5];omega);have hbl:(dm P).length=136:=by rw[jh5];exact hPl
 refine bx follows (fun args w=>call312 args w) func312 rfl 51 rfl rfl ?_;refine runD trivial ?_;refine aq qzm ?_;refine tz (fun y:Nat×Nat=>136<=y.2/\y.2<=maxLen) ⟨[0,3],[999000,20],[],[]⟩ (fun y=>⟨51,[(0,.p 999000 0),(3,.v (.val (.slice (some ⟨y.1,0,none⟩) 136 y.2)))],[(999000,.var (hshC s d n)),(20,.var (dm Lst) (some y.1) (some (5,1,y.2)))],[]⟩) (fun st st' hk h=>fj _ hk h) ?_ (fun K' hK=>?_)
 rotate_left
 .refine ax H.d25 ?_
  try simp only[xa]
  repeat' (with_reducible refine ai ?_ ?_)
  all_goals
   refine call hR ?_;refine ax (ai H.d25 (ai hL hcat)) ?_
   try simp only[xg,xa,vz,bn,bq]
   repeat' (with_reducible refine ai ?_ ?_)
   all_goals
    unfold bytK;intro r cap hnm h1 h2;rw[hLl] at h1 ⊢;refine ax trivial ?_;exact rg hK (r,cap) ⟨h1,h2⟩
 rintro⟨r,cap⟩ ⟨hc1,hc2⟩;simp only;have hLb:(dm Lst).length=136:=by rw[jh5];exact hLl
 refine runD (ai hd1 (ai hst hLb)) ?_;refine aq qzl ?_;refine tz (fun _:Unit=>True) ⟨[0,4],[999000,4],[],[]⟩ (fun _=>⟨51,[(0,.p 999000 0),(4,.p 4 0)],[(999000,.var (hshC s d n)),(4,.var (wds q))],[]⟩) (fun st st' hk h=>fj _ hk h) ?_ (fun K' hK=>?_)
 rotate_left
 .refine ax (ai H.t25 (ai hbl (ai htk hby))) ?_
  try simp only[xg,vz]
  repeat' (with_reducible refine ai ?_ ?_)
  all_goals
   refine call hB ?_;refine ax (ai hBl jj9) ?_
   try simp only[xg,xa,vz,bn,bq]
   repeat' (with_reducible refine ai ?_ ?_)
   all_goals exact rg hK () trivial
 intro _ _;refine run ?_
 refine loop ⟨[0,4,5,33],[999000,4],[5],[(5,5,1)]⟩ (fun k:Nat=>k<=32) (fun k=>32-k)
  (fun k=>⟨51,[(0,.p 999000 0),(4,.p 4 0),(5,.v (bys (digF q k))),(33,.v (vi k))],[(999000,.var (hshC s d n)),(4,.var (wds q))],[(5,[5])]⟩) 0 (vj _) ?_
 intro k hk;by_cases hlt:k<32
 .have q1:((k:Nat):Int).tdiv 8=((k / 8:Nat):Int):=jbw k 8;have q2:((k:Nat):Int).tmod 8=((k % 8:Nat):Int):=ol k 8;have d1:=mg (l:=q) (k:=k / 8) omq
  have hap:(digF q k).map Cby++[[vb8 (IntKind.u8.wrap (shF false .u64 (atU q (k / 8)) (8*((k % 8:Nat):Int))))]]=(digF q (k+1)).map Cby:=by
   rw[qns,xz,List.map_singleton];simp only[Cby,vb8,qpx]
  have hdl:(digF q k).length=k:=by unfold digF;rw[vm,List.length_range]
  refine runW (ai q1 (ai q2 (ai d1 hap))) ?_;exact zt
 have hk:k=32:=omq;subst hk;have hby:=jrj (digF q 32);rw[<- qa5] at hby;refine runW hby ?_;exact zbo
theorem jsx(L:LibT T)(d:Str)(hd:d.length<=1073741824):Den prog T 255 [.str d] (.str (sumD d)):=by
 have hz:du.length=25:=rfl;have hW:=ql8 (T:=T) du d hz hd;have h1:=qah d.length du d (vo _);have h2:=jml d.length du d hz;have hS:=qh3 L (absF d.length du d).1 (absF d.length du d).2 (d.length:Int) h2 h1;have he:digF (gb (absF d.length du d).1 (padF (absF d.length du d).2)) 32=sumD d:=rfl;rw[he] at hS;obtain⟨⟨s,r⟩,hp⟩:∃p,absF d.length du d=p:=⟨_,rfl⟩;rw[hp] at hW hS;refine ab call255 func255 11 ?_;refine run ?_;refine fg (jda 4 qtr ?_ ?_)
 .rintro r ⟨b,h,-⟩;cases h
 rintro k v ⟨b,hk,rfl⟩ hnm;cases hk;refine run ?_;refine fg (gh [(999000,4)] hW (.cons (.pn rfl rfl) (.cons (.v _) .nil)) ?_ ?_)
 .exact zc5
 refine run ?_;refine fg (gh [(999000,4)] hS (.cons (.pn rfl rfl) .nil) ?_ ?_)
 .exact zc5
 exact za
theorem tj(n a b:Int):Den prog T 118 [vi n,vi a,vi b] (vb (decide (a<=n) && decide (n<=b))):=by
 refine ab call118 func118 15 ?_;by_cases h1:a<=n<;>by_cases h2:n<=b<;>(refine run ?_;refine fin (ah ?_);simp;try omega)
theorem qwl(n:Int):(decide (1<=n) && decide (n<=1073741824))=idB n:=by unfold idB;simp
theorem je9(n:Int):Den prog T 117 [vi n] (vb (idB n)):=by
 rw[<- qwl];refine ab call117 func117 5 ?_;refine rc (tj n 1 1073741824) ?_;exact za
theorem jkw(n:Int):Den prog T 123 [vi n] (vb (dayG n)):=by
 refine ab call123 func123 5 ?_;refine rc (tj n 0 1048575) ?_;exact za
theorem jtp(l:List Int)(hl:l.length<=1048576):Den prog T 127 [ints l] (vb (risI l)):=by
 refine ab call127 func127 21 ?_;refine run ?_;refine dq ⟨[7,0,6],[],[],[]⟩ l.length (fun k=>∀j,j<k->∀x y,l[j]?=some x->l[j+1]?=some y->x<y) (fun j hj=>absurd hj (xba j)) ?_;rintro k ⟨hk,hall⟩;by_cases hlt:k+1<l.length
 .obtain⟨x,hx,-,-⟩:=af (l:=l) (k:=k) omq;obtain⟨y,hy,-,-⟩:=af (l:=l) (k:=k+1) hlt;by_cases hxy:x<y
  .refine runW (ai hx hy) ?_;refine round (k+1) ⟨omq,fun j hj u v hu hv=>?_⟩ omq;rcases xk j k with h|h
   .exact hall j h u v hu hv
   have:j=k:=omq;subst this;rw[hx] at hu;rw[hy] at hv;cases hu;cases hv;exact hxy
  refine runW (ai hx hy) ?_;refine fin (ah ?_)
  symm
  rw[xbg];intro h;exact hxy ((jeh l).1 h k x y hx hy)
 refine run ?_;refine fin (ah ?_)
 symm
 rw[jeh];intro j x y hx hy;have:=(gsi.1 hy).1;exact hall j omq x y hx hy
def dig7(c:Crt):List Str:=[[99,101,114,116,105,102,105,99,97,116,101],decS c.num,[112,114,111,112,111,115,97,108],decS c.prp,[100,97,121],decS c.day,[102,105,108,101,115]]
theorem jlf{α:Type}{l:List α}{x:α}(h:l[k]?=some x):l.take (k+1)=l.take k++[x]:=by
 obtain⟨hlt,rfl⟩:=gsi.1 h;rw[xap hlt]
theorem jwt:∀(l:List Str) (x sep:Str),l≠[]->Lib.join (l++[x]) sep=Lib.join l sep++sep++x
 |[],_,_,h=>absurd rfl h
 |[a],x,sep,_=>by simp[Lib.join,List.intercalate]
 |a::b::r,x,sep,_=>by
  have ih:=jwt (b::r) x sep (List.cons_ne_nil _ _);simp only[Lib.join,List.intercalate,List.cons_append,List.intersperse_cons_cons,List.flatten_cons] at ih ⊢;rw[ih];simp only[xb]
theorem qrt(l:List Str)(hl:l≠[]):∀fs:List Int,Lib.join (l++fs.map decS) [32]=Lib.join l [32]++flsT fs:=by
 intro fs
 induction fs generalizing l with
 |nil=>simp[flsT]
 |cons f fs ih=>
  have:=ih (l++[decS f]) smq;rw[vy,show l++decS f::fs.map decS=l++[decS f]++fs.map decS by simp,this,jwt l (decS f) [32] hl];simp[flsT]
theorem qru(c:Crt):Lib.join (dig7 c++c.fls.map decS) [32]++[10]++c.bef=crtT c:=by
 rw[qrt _ (by simp[dig7])];unfold crtT dig7 jru jld jrt jqf;simp[Lib.join,List.intercalate,List.intersperse]
structure CrtOk (c:Crt):Prop where
 num:idB c.num=true
 prp:idB c.prp=true
 day:dayG c.day=true
 ne:1<=c.fls.length
 le:c.fls.length<=256
 ris:risI c.fls=true
 ids:c.fls.all idB=true
 bef:c.bef.length=32
theorem jia(c:Crt):crtB c=true↔CrtOk c:=by
 unfold crtB;simp only[vn,vq];constructor
 .rintro⟨⟨⟨⟨⟨⟨⟨a,b⟩,d⟩,e⟩,f⟩,g⟩,h⟩,i⟩;exact⟨a,b,d,e,f,g,h,i⟩
 rintro⟨a,b,d,e,f,g,h,i⟩;exact⟨⟨⟨⟨⟨⟨⟨a,b⟩,d⟩,e⟩,f⟩,g⟩,h⟩,i⟩
abbrev digV(c:Crt):V:=.tup [.str (digR c).1,vi (digR c).2]
theorem sk{c:Crt}(h:¬CrtOk c):digV c=.tup [.str [],vi 1]:=by
 have:¬crtB c=true:=fun e=>h ((jia c).1 e);unfold digV digR;rw[vd this]
theorem qc0{c:Crt}(h:CrtOk c):digV c=.tup [.str (sumD (crtT c)),vi 0]:=by
 unfold digV digR;rw[ve ((jia c).2 h)]
theorem uk{n:Int}(h:idB n=true):1<=n/\n<=1073741824:=by unfold idB at h;exact xj h
theorem jpq{n:Int}(h:dayG n=true):0<=n/\n<=1048575:=by unfold dayG at h;simpa using h
theorem qpg(h:n<10000000000):(Lib.decDigits n).length<=10:=by
 rw[Lib.decDigits_length];refine Nat.le_of_not_lt fun hlt=>?_
 have key:∀(k u:Nat),u<10 ^ (k+1)->Lib.nDigits u<=k+1:=by
  intro k
  induction k with
  |zero=>intro u hu;rw[Lib.nDigits_small (by simpa using hu)];exact vo _
  |succ k ih=>
   intro u hu;by_cases h10:u<10
   .rw[Lib.nDigits_small h10];omega
   rw[Lib.nDigits_big h10];have:=ih (u / 10) (by rw[Nat.pow_succ] at hu;omega);omega
 exact absurd (key 9 n h) omq
theorem jec{n:Int}(h:0<=n/\n<=1073741824):(decS n).length<=10:=by
 rw[qxq omq];exact qpg omq
theorem qbr{m:Nat}: ∀ {l:List Str},(∀p∈l,p.length<=m)->l.flatten.length<=l.length*m
 |[],_=>by simp
 |p::l,h=>by
  have h1:=h p yo;have h2:=qbr (l:=l) fun q hq=>h q (ym _ hq);simp only[List.flatten_cons,vr,List.length_cons,yy];omega
theorem qtv{c:Crt}(h:CrtOk c):(crtT c).length<=10000:=by
 have h1:=jec (n:=c.num) (by have:=uk h.num;omega);have h2:=jec (n:=c.prp) (by have:=uk h.prp;omega);have h3:=jec (n:=c.day) (by have:=jpq h.day;omega)
 have h4:(flsT c.fls).length<=256*11:=by
  have:(flsT c.fls).length<=(c.fls.map fun f=>32::decS f).length*11:=qbr fun p hp=>by
   obtain⟨f,hf,rfl⟩:=ya.1 hp;have:=jec (n:=f) (by have:=uk (xi.1 h.ids f hf);omega);simp only[List.length_cons];omega
  rw[vm] at this;have:=h.le;omega
 have h5:=h.bef;unfold crtT jru jld jrt jqf;simp only[vr,List.length_cons,List.length_nil];omega
abbrev gr132:List Gent:=gd 11 [[0,0,0],[1,3,0],[9,6,0],[73,1,1,4,0,7,2],[89,1,5,7,4],[75,2,2,4,4,7,1],[201,1,0,4,2],[203,2,5,4,4],[79,4,2,7,4],[217,1,2,0,0,0],[91,2,0,7,1],[95,5,2,7,3],[219,2,2,0,0,0],[207,4,1,0,0,0],[127,7,1,0,0,0],[223,5,0,0,0,0],[255,8,0,0,0,0],[511,9,0,0,0,0],[1023,10,0,0,0,0],[2047]]
theorem qmr{l:List Int}(h:1<=l.length):∃a,l[0]?=some a:=⟨_,gge omq⟩
theorem jtz(L:LibT T)(c:Crt)(hf:c.fls.length<=1048576)(_hb:c.bef.length<=1048576):Den prog T 196 [.agg c.cs] (digV c):=by
 refine ab call196 func196 90 ?_;refine rc (je9 c.num) ?_;cases h1:idB c.num
 .rw[sk fun h=>by have:=h.num;rw[h1] at this;cases this];exact za
 refine rc (je9 c.prp) ?_;cases h2:idB c.prp
 .rw[sk fun h=>by have:=h.prp;rw[h2] at this;cases this];exact za
 refine rc (jkw c.day) ?_;cases h3:dayG c.day
 .rw[sk fun h=>by have:=h.day;rw[h3] at this;cases this];exact za
 refine rc (tj (c.fls.length:Int) 1 256) ?_;cases h4:(decide ((1:Int)<=(c.fls.length:Int)) && decide ((c.fls.length:Int)<=256))
 .rw[sk fun h=>by
   have e1:=h.ne;have e2:=h.le;simp at h4
   omega]
  exact za
 have h4:1<=c.fls.length/\c.fls.length<=256:=by simp at h4;omega
 refine rc (jtp c.fls hf) ?_;cases h5:risI c.fls
 .rw[sk fun h=>by have:=h.ris;rw[h5] at this;cases this];exact za
 obtain⟨a,ha⟩:=qmr h4.1;obtain⟨b,hbl⟩:∃b,c.fls[c.fls.length-1]?=some b:=⟨_,gge omq⟩;have hids:=qr8 h5 ha hbl;have ein:((c.fls.length:Int)-1).toNat=c.fls.length-1:=omq;have nn:(0:Int)<=(c.fls.length:Int)-1:=omq;have el:(c.fls.map Cint)[c.fls.length-1]?=some [vi b]:=by rw[xe,hbl];rfl
 have e0:(c.fls.map Cint)[0]?=some [vi a]:=by rw[xe,ha];rfl
 by_cases h6:a<1
 .rw[sk fun h=>by
   have:=h.ids;rw[hids] at this;simp at this
   omega]
  refine runW (ai ha e0) ?_;exact fin rfl
 by_cases h7:1073741824<b
 .rw[sk fun h=>by
   have:=h.ids;rw[hids] at this;simp at this
   omega]
  refine runW (ai ha (ai e0 (ai hbl (ai ein el)))) ?_;exact fin rfl
 by_cases h8:c.bef.length=32
 case neg=>
  rw[sk fun h=>h8 h.bef];refine runW (ai ha (ai e0 (ai hbl (ai ein el)))) ?_;exact fin rfl
 have hok:CrtOk c:=⟨h1,h2,h3,h4.1,h4.2,h5,by rw[hids];simp;omega,h8⟩;rw[qc0 hok];have i1:=jc1 L c.num (by have:=uk h1;omega) (by have:=uk h1;omega);have i2:=jc1 L c.prp (by have:=uk h2;omega) (by have:=uk h2;omega);have i3:=jc1 L c.day (by have:=jpq h3;omega) (by have:=jpq h3;omega)
 have i4:∀f∈c.fls,Den prog T 207 [vi f] (.str (decS f)):=fun f hfm=>by
  have:=uk (xi.1 hok.ids f hfm);exact jc1 L f omq omq
 have hjd:=qru c;have hlen:=qtv hok
 have hjl:(Lib.join (dig7 c++c.fls.map decS) [32]).length<=10000:=by
  have:=congrArg List.length hjd;simp only[vr] at this;omega
 have hJ:=jyy L (dig7 c++c.fls.map decS) [32] (by simp[dig7];omega) omq;have hS:=jsx L (crtT c) omq;have hd7:dig7 c=[[99,101,114,116,105,102,105,99,97,116,101],decS c.num,[112,114,111,112,111,115,97,108],decS c.prp,[100,97,121],decS c.day,[102,105,108,101,115]]:=rfl;have hd7l:(dig7 c).length=7:=rfl;obtain⟨n1,hn1⟩:∃n,decS c.num=n:=⟨_,rfl⟩;obtain⟨n2,hn2⟩:∃n,decS c.prp=n:=⟨_,rfl⟩;obtain⟨n3,hn3⟩:∃n,decS c.day=n:=⟨_,rfl⟩;simp only[hn1,hn2,hn3] at i1 i2 i3 hd7;obtain⟨D,hD⟩:∃D,dig7 c=D:=⟨_,rfl⟩;rw[hD] at hd7 hJ hjd hjl hd7l;have hcst:(.slice 1 [Cst [99,101,114,116,105,102,105,99,97,116,101],Cst n1,Cst [112,114,111,112,111,115,97,108],Cst n2,Cst [100,97,121],Cst n3,Cst [102,105,108,101,115]]:V)=strs D:=by rw[hd7];rfl
 refine runD (ai ha (ai e0 (ai hbl (ai ein el)))) ?_;refine aq gr132 ?_;refine tz (fun _:Unit=>True) ⟨[1,4],[1],[4],[]⟩ (fun _=>⟨90,[(1,.p 1 0),(4,.v (strs D))],[(1,.var c.cs)],[(9,[4])]⟩) (fun st st' hk h=>fj _ hk h) ?_ (fun K' hK=>?_)
 rotate_left
 .refine ax trivial ?_
  try simp only[vz]
  repeat' (with_reducible refine ai ?_ ?_)
  all_goals
   refine call i1 ?_;refine ax trivial ?_
   try simp only[vz]
   repeat' (with_reducible refine ai ?_ ?_)
   all_goals
    refine call i2 ?_;refine ax trivial ?_
    try simp only[xg,xa,vz,bn,bq]
    repeat' (with_reducible refine ai ?_ ?_)
    all_goals
     refine call i3 ?_;refine ax trivial ?_
     try simp only[xg,xa,vz,bn,bq]
     repeat' (with_reducible refine ai ?_ ?_)
     all_goals
      refine rg hK () trivial ?_;rw[<- hcst];rfl
 intro _ _;refine run ?_
 refine loop ⟨[1,4,71,72,73],[1],[4],[]⟩ (fun k:Nat=>k<=c.fls.length) (fun k=>c.fls.length-k)
  (fun k=>⟨90,[(1,.p 1 0),(4,.v (strs (D++(c.fls.take k).map decS))),(71,.v (ints c.fls)),(72,.v (vi c.fls.length)),(73,.v (vi k))],[(1,.var c.cs)],[(9,[4])]⟩) 0 (vj _) ?_ ?_
 .intro k hk;by_cases hlt:k<c.fls.length
  .obtain⟨f,hfx,-,hfm⟩:=af hlt
   have hap:(D++(c.fls.take k).map decS).map Cst++[[V.str (decS f)]]=(D++(c.fls.take (k+1)).map decS).map Cst:=by
    rw[jlf hfx];simp
   have hle:(D++(c.fls.take k).map decS).length<=300:=by rw[vr,vm,xq];omega
   refine rcW hfx (i4 f hfm) ?_;refine runW (ai hap hle) ?_;exact zt
  have hk:k=c.fls.length:=omq;subst hk;rw[yk];refine rc hJ ?_;refine rcW hjd hS ?_;exact za
 simp only[List.take_zero,xcb,xd];rfl
theorem jtv(L:LibT T)(l:List Crt)(i:Nat)(hl:l.length<=1048576)(hi:i<=l.length):Den prog T 197 [crts l,vi i] (.str (befC l i)):=by
 refine ab call197 func197 14 ?_;unfold befC bm;by_cases h0:i=0
 .subst h0;rw[ve rfl];refine rc (jth L 32 omq) ?_;exact za
 rw[vd h0];obtain⟨x,hx,-,-⟩:=af (l:=l) (k:=i-1) omq;rw[hx];refine runW hx ?_;exact fin rfl
theorem qkd(L:LibT T)(l:List Crt)(i:Nat)(hl:l.length<=1048576/\∀c∈l,c.fls.length<=1048576/\c.bef.length<=1048576/\c.dig.length<=1048576)(hi:i<l.length):Den prog T 133 [crts l,vi i] (vb (ly l i)):=by
 have hl0:=hl.1;obtain⟨c,hc,-,hm⟩:=af hi;have hfc:=hl.2 c hm;have hD:=jtz L c hfc.1 hfc.2.1;have hlk:ly l i=jcy (befC l i) i c:=by unfold ly;rw[hc]
 rw[hlk];refine ab call133 func133 40 ?_;refine rcW hc hD ?_;unfold jcy digV digR;cases h1:crtB c
 .rw[vd dcq];exact za
 rw[ve rfl];by_cases h2:c.num=(i:Int)+1
 .cases h3:c.dig == sumD (crtT c)
  .refine runW (ai (vg h2) h3) ?_;exact z6
  refine rcW (ai (vg h2) h3) (jtv L l i hl0 omq) ?_;refine runW (ai (vg h2) h3) ?_;exact z6
 refine runW (vf h2) ?_;exact z6
theorem qon(l:List Clk)(f:FuncId)(cap:List V)(p:Clk->Bool)(hl:l.length<=1048576)(hp:∀e∈l,Den prog T f (.agg e.cs::cap) (vb (p e))):
   Den prog T 254 [clks l,.func f cap] (vi (ix p l)):=by
  refine ab call254 func254 19 ?_;exact ixPf
theorem jve(l:List Clk)(f:FuncId)(cap:List V)(p:Clk->Bool)(hl:l.length<=1048576)(hp:∀e∈l,Den prog T f (.agg e.cs::cap) (vb (p e))):
   Den prog T 191 [clks l,.func f cap] (vb (l.any p)):=by
  refine ab call191 func191 9 ?_;refine rc (qon l f cap p hl hp) ?_;exact zbr
theorem jxn(l:List Prp)(f:FuncId)(cap:List V)(p:Prp->Bool)(hl:l.length<=1048576)(hp:∀e∈l,Den prog T f (.agg e.cs::cap) (vb (p e))):
   Den prog T 190 [prps l,.func f cap] (vi (ix p l)):=by
  refine ab call190 func190 19 ?_;exact ixPf
theorem qku(l:List Prp)(f:FuncId)(cap:List V)(p:Prp->Bool)(hl:l.length<=1048576)(hp:∀e∈l,Den prog T f (.agg e.cs::cap) (vb (p e))):
   Den prog T 121 [prps l,.func f cap] (vb (l.any p)):=by
  refine ab call121 func121 9 ?_;refine rc (jxn l f cap p hl hp) ?_;exact zbr
theorem qoo(l:List Apv)(f:FuncId)(cap:List V)(p:Apv->Bool)(hl:l.length<=1048576)(hp:∀e∈l,Den prog T f (.agg e.cs::cap) (vb (p e))):
   Den prog T 195 [apvs l,.func f cap] (vi (ix p l)):=by
  refine ab call195 func195 19 ?_;exact ixPf
theorem jvf(l:List Apv)(f:FuncId)(cap:List V)(p:Apv->Bool)(hl:l.length<=1048576)(hp:∀e∈l,Den prog T f (.agg e.cs::cap) (vb (p e))):
   Den prog T 129 [apvs l,.func f cap] (vb (l.any p)):=by
  refine ab call129 func129 9 ?_;refine rc (qoo l f cap p hl hp) ?_;exact zbr
abbrev rowV(x:Bool×Int):V:=.agg [vb x.1,vi x.2]
theorem de(b:Bool)(e:Int):Den prog T 116 [vb b,vi e] (.func 187 [.row [vb b],.row [vi e]]):=by
 refine ab call116 func116 6 ?_;exact za
theorem fh(b:Bool)(e:Int):Den prog T 187 [.row [vb b],.row [vi e]] (rowV (b,e)):=by
 refine ab call187 func187 6 ?_;exact zbm
def fstB:List (Bool×Int)->Int
 |[]=>0
 |x::r=>if x.1=true then x.2 else fstB r
theorem qnh{l:List (Bool×Int)}{x:Bool×Int}(h:l[k]?=some x):fstB (l.drop k)=if x.1=true then x.2 else fstB (l.drop (k+1)):=by
 obtain⟨hlt,rfl⟩:=gsi.1 h;exact zb9
inductive RowsD (T:Lay):List (List V)->List (Bool×Int)->Prop
 |nil:RowsD T [] []
 |cons {f:FuncId} {cap:List V} {x:Bool×Int} {l:List (List V)} {m:List (Bool×Int)} (h:Den prog T f cap (rowV x)) (t:RowsD T l m):RowsD T ([.func f cap]::l) (x::m)
theorem RowsD.len{l:List (List V)}{m:List (Bool×Int)}(h:RowsD T l m):l.length=m.length:=by
 induction h with
 |nil=>rfl
 |cons _ _ ih=>simp[ih]
theorem RowsD.at{l:List (List V)}{m:List (Bool×Int)}(h:RowsD T l m):∀ {k:Nat},k<l.length->∃f cap x,l[k]?=some [.func f cap]/\m[k]?=some x/\Den prog T f cap (rowV x):=by
 induction h with
 |nil=>intro k hk;exact absurd hk (xba k)
 |cons hd _ ih=>
  intro k hk;cases k with
  |zero=>exact⟨_,_,_,rfl,rfl,hd⟩
  |succ k=>exact ih (by simpa using hk)
theorem jdt(l:List (List V))(m:List (Bool×Int))(h:RowsD T l m)(hl:l.length<=1048576):Den prog T 115 [.slice 1 l] (vi (fstB m)):=by
 have hlen:=h.len;refine ab call115 func115 19 ?_;refine run ?_;refine dq ⟨[8,6,7],[],[],[]⟩ l.length (fun k=>fstB m=fstB (m.drop k)) rfl ?_;rintro k ⟨hk,hall⟩;by_cases hlt:k<l.length
 .obtain⟨f,cap,⟨b,e⟩,h1,h2,h3⟩:=h.at hlt;have hd:=qnh h2;refine rcW h1 h3 ?_;cases b
  .refine run ?_;exact round (k+1) ⟨hlt,by rw[hall,hd];rfl⟩ omq
  refine run ?_;refine fin (bc ?_);rw[hall,hd];rfl
 refine run ?_;refine fin (bc ?_);rw[hall,xbc omq];rfl
theorem qgq(c:Clk)(n d:Int):Den prog T 192 [.agg c.cs,.row [vi n],.row [vi d]] (vb (ul n d c)):=by
 refine ab call192 func192 23 ?_;unfold ul inS;by_cases h1:c.id=n
 .by_cases h2:c.frm<=d
  .refine run ?_;refine fin (ah ?_);simp[h2]
  refine run ?_;refine fin (ah ?_);simp[h2]
 exact zc9
theorem jtt(r:Rgs)(h:r.Fit)(n d:Int):Den prog T 124 [.agg r.cs,vi n,vi d] (vb (pt r.cks n d)):=by
 refine ab call124 func124 11 ?_;refine rc (jve r.cks _ _ (ul n d) h.cks.1 fun c _=>qgq c n d) ?_;exact za
theorem qkk(p:Prp)(n:Int):Den prog T 194 [.agg p.cs,.row [vi n]] (vb (cq n p)):=by
 refine ab call194 func194 8 ?_;exact za
theorem jea(r:Rgs)(h:r.Fit)(n:Int):Den prog T 128 [.agg r.cs,vi n] (vi (jm r.pps n)):=by
 refine ab call128 func128 9 ?_;refine rc (jxn r.pps _ _ (cq n) h.pps.1 fun p _=>qkk p n) ?_;exact za
theorem qez(c:Crt)(n:Int):Den prog T 297 [.agg c.cs,.row [vi n]] (vb (jr3 n c)):=by
 refine ab call297 func297 8 ?_;exact za
theorem jsw(r:Rgs)(h:r.Fit)(n:Int):Den prog T 237 [.agg r.cs,vi n] (vb (jo r.crs n)):=by
 refine ab call237 func237 9 ?_;refine rc (jl0 r.crs _ _ (jr3 n) h.crs.1 fun c _=>qez c n) ?_;exact za
theorem jem(i:Nat):(if(0:Int) > (i:Int)-1 then(0:Int) else(i:Int)-1)=((i-1:Nat):Int):=by split<;>omega
def jpx(q:Option Clk)(c:Clk):List (Bool×Int):=[(!idB c.id || !(decide (1<=c.role) && decide (c.role<=3)) || decide (c.frm<0) || decide (c.til<=c.frm) || decide (1048576<c.til),2),(!name c.name,4),(jfh q c,5)]
theorem qle{l:List Clk}{i:Nat}{c:Clk}(h:l[i]?=some c):fstB (jpx (bm l i) c)=my l i:=by
 unfold my jpx;rw[h];simp only[fstB]
 have hg:(!idB c.id || !(decide (1<=c.role) && decide (c.role<=3)) || decide (c.frm<0) || decide (c.til<=c.frm) || decide (1048576<c.til))=true↔(idB c.id=false\/c.role<1\/3<c.role\/cd c.frm c.til=false):=by
  unfold cd;cases idB c.id<;>simp<;>omega
 by_cases h1:idB c.id=false\/c.role<1\/3<c.role\/cd c.frm c.til=false
 .rw[ve (hg.2 h1),ve h1]
 rw[vd (fun e=>h1 (hg.1 e)),vd h1];cases name c.name<;>rfl
theorem qko(L:LibC T)(r:Rgs)(h:r.Fit)(i:Nat)(hi:i<r.cks.length):Den prog T 49 [.agg r.cs,vi i] (vi (my r.cks i)):=by
 have hl:=h.cks.1;obtain⟨c,hc,-,hm⟩:=af hi;have hN:=ua L c.name (h.cks.2 c hm);rw[<- qle hc]
 have hrow:∀b2 b3,RowsD T [[.func 187 [.row [vb b2],.row [vi 2]]],[.func 187 [.row [vb (!name c.name)],.row [vi 4]]],[.func 187 [.row [vb b3],.row [vi 5]]]] [(b2,2),(!name c.name,4),(b3,5)]:=fun b2 b3=>
  .cons (fh _ _) (.cons (fh _ _) (.cons (fh _ _) .nil))
 have hF:∀b2 b3,Den prog T 115 [.slice 1 [[.func 187 [.row [vb b2],.row [vi 2]]],[.func 187 [.row [vb (!name c.name)],.row [vi 4]]],[.func 187 [.row [vb b3],.row [vi 5]]]]] (vi (fstB [(b2,2),(!name c.name,4),(b3,5)])):=fun b2 b3=>jdt _ _ (hrow b2 b3) (by show (3:Nat)<=1048576;decide)
 have hp:(i=0/\jfh (bm r.cks i) c=false)\/(i≠0/\∃q,r.cks[i-1]?=some q/\jfh (bm r.cks i) c=decide (c.id<=q.id)):=by
  by_cases h0:i=0
  .left;subst h0;exact⟨rfl,rfl⟩
  right;obtain⟨q,hq,-,-⟩:=af (l:=r.cks) (k:=i-1) omq;refine⟨h0,q,hq,?_⟩;unfold bm;rw[vd h0,hq];rfl
 have hcs:(idB c.id=false)\/(idB c.id=true/\(decide (1<=c.role) && decide (c.role<=3))=false)\/(idB c.id=true/\(decide (1<=c.role) && decide (c.role<=3))=true/\c.frm<0)\/(idB c.id=true/\(decide (1<=c.role) && decide (c.role<=3))=true/\¬c.frm<0/\c.til<=c.frm)\/(idB c.id=true/\(decide (1<=c.role) && decide (c.role<=3))=true/\¬c.frm<0/\¬c.til<=c.frm):=by
  cases idB c.id
  .exact .inl rfl
  cases (decide (1<=c.role) && decide (c.role<=3))
  .exact .inr (.inl ⟨rfl,rfl⟩)
  by_cases h1:c.frm<0
  .exact .inr (.inr (.inl ⟨rfl,rfl,h1⟩))
  by_cases h2:c.til<=c.frm
  .exact .inr (.inr (.inr (.inl ⟨rfl,rfl,h1,h2⟩)))
  exact .inr (.inr (.inr (.inr ⟨rfl,rfl,h1,h2⟩)))
 unfold jpx;refine ab call49 func49 66 ?_;rcases hp with⟨rfl,hpv⟩|⟨h0,q,hq,hpv⟩<;>rw[hpv]
 .rcases hcs with h1|⟨h1,h2⟩|⟨h1,h2,h3⟩|⟨h1,h2,h3,h4⟩|⟨h1,h2,h3,h4⟩
  all_goals
   refine rcW hc (je9 c.id) ?_;rw[h1];refine runW hc ?_
   try (refine call (tj c.role 1 3) ?_;rw[h2];refine runW hc ?_)
   refine call (de _ 2) ?_;refine rcW hc hN ?_;refine rcW hc (de _ 4) ?_;refine rcW hc (de _ 5) ?_;refine rcW hc (hF _ _) ?_;refine runW hc ?_;refine fin (bc ?_)
   first|(simp only;done)|simp
 have F:=ai hc (ai hq (jem i));rcases hcs with h1|⟨h1,h2⟩|⟨h1,h2,h3⟩|⟨h1,h2,h3,h4⟩|⟨h1,h2,h3,h4⟩
 all_goals
  refine rcW F (je9 c.id) ?_;rw[h1];refine runW F ?_
  try (refine call (tj c.role 1 3) ?_;rw[h2];refine runW F ?_)
  refine call (de _ 2) ?_;refine rcW F hN ?_;refine rcW F (de _ 4) ?_;refine rcW F (de _ 5) ?_;refine rcW F (hF _ _) ?_;refine runW F ?_;refine fin (bc ?_)
  first|(simp only;done)|simp
def jih(r:Rgs)(pre:List Prp)(q:Option Prp)(p:Prp):List (Bool×Int):=
 [(!idB p.id || !dayG p.day || !wdrB p,2),(pa q p,5),(!pt r.cks p.clk p.day,7),(decide ((p.fls.length:Int)=0),9),(p.fls.any fun f=>decide (az r.fls f<0),7),(!risI p.fls,5),(p.fls.any (jas pre p.day),6)]
theorem jv0(l:List Fil)(n:Int):hasF l n= !decide (az l n<0):=by
 unfold hasF az;rcases ee (ci n) l with⟨h1,h2⟩|⟨k,x,h1,-,-,h4,h5⟩
 .rw[h1];have:l.any (fun f=>decide (f.id=n))=false:=yf.2 fun x hx e=>yq.1 h2 x hx e;rw[this];rfl
 rw[h1];have:l.any (fun f=>decide (f.id=n))=true:=yd.2 ⟨x,h4,yu (p:=ci n) h5⟩;rw[this];simp
theorem qj6(r:Rgs)(pre:List Prp)(q:Option Prp)(p:Prp):fstB (jih r pre q p)=prpE r pre q p:=by
 unfold prpE jih;simp only[fstB]
 have e1:(!idB p.id || !dayG p.day || !wdrB p)=true↔(idB p.id=false\/dayG p.day=false\/wdrB p=false):=by
  cases idB p.id<;>cases dayG p.day<;>cases wdrB p<;>simp
 have e4:decide ((p.fls.length:Int)=0)=true↔p.fls=[]:=by
  rw[vq];constructor
  .intro h;exact yg omq
  intro h;rw[h];rfl
 have e5:(p.fls.any fun f=>decide (az r.fls f<0))=true↔p.fls.all (hasF r.fls)=false:=by
  rw[yd,List.all_eq_false];constructor
  .rintro⟨f,hf,h⟩;exact⟨f,hf,by rw[jv0,h];decide⟩
  rintro⟨f,hf,h⟩;refine⟨f,hf,?_⟩;rw[jv0] at h;simpa using h
 by_cases h1:idB p.id=false\/dayG p.day=false\/wdrB p=false
 .rw[ve (e1.2 h1),ve h1]
 rw[vd (fun e=>h1 (e1.1 e)),vd h1];by_cases h2:pa q p=true
 .rw[ve h2,ve h2]
 rw[vd h2,vd h2];cases h3:pt r.cks p.clk p.day
 .rfl
 simp only[xbs,yw,reduceCtorEq,xy];by_cases h4:p.fls=[]
 .rw[ve (e4.2 h4),ve h4]
 rw[vd (fun e=>h4 (e4.1 e)),vd h4];by_cases h5:p.fls.all (hasF r.fls)=false
 .rw[ve (e5.2 h5),ve h5]
 rw[vd (fun e=>h5 (e5.1 e)),vd h5];cases h6:risI p.fls
 .rfl
 simp only[xbs,yw,reduceCtorEq,xy]
theorem qo0(r:Rgs)(h:r.Fit)(f:Int):Den prog T 126 [vi f,.row r.cs] (vb (decide (az r.fls f<0))):=by
 have hl:=h.fls.1;refine ab call126 func126 9 ?_;refine rc (tq r.fls f hl) ?_;exact za
theorem qk1(q p:Prp)(f:Int)(hq:q.fls.length<=1048576):Den prog T 122 [.agg q.cs,.row p.cs,.row [vi f]] (vb (jfs p.day f q)):=by
 refine ab call122 func122 16 ?_;unfold jfs;by_cases h1:p.day<q.wdr
 .refine rc (jbk q.fls f hq) ?_;refine run ?_;refine fin (ah ?_);simp only[hasI];congr 1
  funext y
  exact xc9.2 eq_comm
 refine run ?_;refine fin (ah ?_);simp[]
theorem qo1(r:Rgs)(h:r.Fit)(i:Nat)(hi:i<=r.pps.length)(p:Prp)(f:Int):Den prog T 120 [vi f,.row r.cs,.row [vi i],.row p.cs] (vb (jas (r.pps.take i) p.day f)):=by
 have hl:=h.pps.1;have hA:=qku (T:=T) (r.pps.take i) 122 [.row p.cs,.row [vi f]] (jfs p.day f) ze8 fun q hq=>qk1 q p f (h.pps.2 q (xb5 hq));have ht:(r.pps.map Prp.cs).take i=(r.pps.take i).map Prp.cs:=by rw[xb4]
 refine ab call120 func120 12 ?_;refine rcW ht hA ?_;exact za
end Go.Arc
