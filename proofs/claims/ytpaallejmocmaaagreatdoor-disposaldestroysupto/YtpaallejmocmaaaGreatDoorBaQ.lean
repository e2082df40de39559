/- A part of this claim. -/
import Derived.Test.YtpaallejmocmaaaGreatDoorBaU
import Derived.Test.YtpaallejmocmaaaGreatDoorBaZ
set_option maxHeartbeats 8000000
set_option maxRecDepth 100000
namespace Go.Arc
open Go.Ab Go.RowKit Go.Proofs Tryz
variable {T : Lay}
variable {k:Nat}{n:Nat}{cs:List V}{d:Str}
theorem clPf {p:Prop} (h:p:=by
  cases l with
  |nil=>
   refine qsy ?_;refine run ?_;intro b;cases b
   .refine run ?_;refine .inr ⟨2,7,_,_,rfl,rfl,krq,dcq,rfl,?_,fun r cap hcap=>?_⟩
    .exact⟨_,_,dl rfl,.refl _,.inl (.inl ⟨rfl,rfl,rfl⟩)⟩
    exact⟨_,_,dl rfl,.refl _,.inr ⟨7,_,r,rfl,rfl,.inr ⟨r,cap,rfl,uq _,hcap,rfl⟩⟩⟩
   refine run ?_;exact .inl ⟨_,_,dl rfl,.refl _,.inl (.inl ⟨rfl,rfl,rfl⟩)⟩
  |cons x r=>
   have h:r.length+1<=1048576:=hl
   dsimp only[ofcs,ay,fils,ruls,hlds,clks,sels,prps,apvs,crts,deps,vl]
   refine runB trivial ?_;refine mb ?_;unfold appR;refine run ?_;intro r' cap' hnm h1 h2;refine run ?_;refine⟨_,_,dl rfl,.refl _,.inr ⟨7,_,r',rfl,rfl,.inr ⟨r',cap',rfl,?_,h2,?_⟩⟩⟩
   .simpa using h1
   .simp):p:=h
theorem coPf {p:Prop} (h:p:=by
  cases l with
  |nil=>
   refine run ?_;intro b;cases b
   .exact zq
   refine run ?_;exact finO (.nil _)
  |cons x r=>
   have h:r.length+1<=1048576:=hl
   dsimp only[ofcs,ay,fils,ruls,hlds,clks,sels,prps,apvs,crts,deps,clss,movs,vl]
   refine run ?_
   exact finO (.refl _)):p:=h
theorem qey(l:List Ofc)(hl:l.length<=1048576):DenU prog T 119 [ofcs l] (mc 99 5 (l.map Ofc.cs)):=by
 refine jz follows (fun args w=>call119 args w) func119 rfl 8 rfl ?_;exact clPf
theorem qex(l:List Plan)(hl:l.length<=1048576):DenU prog T 120 [ay l] (mc 105 5 (l.map Plan.cs)):=by
 refine jz follows (fun args w=>call120 args w) func120 rfl 8 rfl ?_;exact clPf
theorem qf0(l:List Fil)(hl:l.length<=1048576):DenU prog T 121 [fils l] (mc 88 8 (l.map Fil.cs)):=by
 refine jz follows (fun args w=>call121 args w) func121 rfl 8 rfl ?_;exact clPf
theorem qeu(l:List Sel)(hl:l.length<=1048576):DenU prog T 128 [sels l] (mc 125 3 (l.map Sel.cs)):=by
 refine jz follows (fun args w=>call128 args w) func128 rfl 8 rfl ?_;exact clPf
theorem qew(l:List Prp)(hl:l.length<=1048576):DenU prog T 129 [prps l] (mc 58 5 (l.map Prp.cs)):=by
 refine jz follows (fun args w=>call129 args w) func129 rfl 8 rfl ?_;exact clPf
theorem qf2(l:List Crt)(hl:l.length<=1048576):DenU prog T 130 [crts l] (mc 39 6 (l.map Crt.cs)):=by
 refine jz follows (fun args w=>call130 args w) func130 rfl 8 rfl ?_;exact clPf
theorem qf4(l:List Apv)(hl:l.length<=1048576):DenU prog T 131 [apvs l] (mc 96 3 (l.map Apv.cs)):=by
 refine jz follows (fun args w=>call131 args w) func131 rfl 8 rfl ?_;exact clPf
theorem qev(l:List Rul)(hl:l.length<=1048576):DenU prog T 125 [ruls l] (mc 107 8 (l.map Rul.cs)):=by
 refine jz follows (fun args w=>call125 args w) func125 rfl 8 rfl ?_;exact clPf
theorem qez(l:List Hld)(hl:l.length<=1048576):DenU prog T 126 [hlds l] (mc 109 7 (l.map Hld.cs)):=by
 refine jz follows (fun args w=>call126 args w) func126 rfl 8 rfl ?_;exact clPf
theorem qf3(l:List Clk)(hl:l.length<=1048576):DenU prog T 127 [clks l] (mc 56 5 (l.map Clk.cs)):=by
 refine jz follows (fun args w=>call127 args w) func127 rfl 8 rfl ?_;exact clPf
theorem qf1(l:List Dep)(hl:l.length<=1048576):DenU prog T 132 [deps l] (mc 64 2 (l.map Dep.cs)):=by
 refine jz follows (fun args w=>call132 args w) func132 rfl 8 rfl ?_;exact clPf
theorem qgn(l:List Cls)(hl:l.length<=1048576):DenO prog T 122 [clss l] 101 (clss l):=by
 refine lf call122 func122 8 ?_;exact coPf
theorem qgm(l:List Mov)(hl:l.length<=1048576):DenO prog T 123 [movs l] 152 (movs l):=by
 refine lf call123 func123 8 ?_;exact coPf
theorem jd7(l:List Int)(hl:l.length<=1048576):DenO prog T 23 [ints l] 3 (ints l):=by
 refine lf call23 func23 8 ?_;cases l with
 |nil=>
  refine run ?_;intro b;cases b
  .exact zq
  refine run ?_;exact finO (.nil 1)
 |cons x r=>
  have h:r.length+1<=1048576:=hl;have e:ints (x::r)=.slice 1 (Cint x::r.map Cint):=rfl;rw[e];exact zq
abbrev vu(n:Int):V:=.val (.int .u64 n)
abbrev wds(l:List Int):List V:=l.map vu
abbrev nus(l:List Int):List V:=l.map vi
theorem dn{l:List Int}(h:k<l.length):(wds l).drop k=vu (atU l k)::(wds l).drop (k+1):=by
 have h':k<(wds l).length:=by rw[ut];exact h
 exact zdq
theorem jy6{l:List Int}(h:k<l.length):(nus l).drop k=vi (atU l k)::(nus l).drop (k+1):=by
 have h':k<(nus l).length:=by rw[ut];exact h
 exact zdq
theorem ql{l:List Int}(h:k<l.length)(x:Int):(wds l).take k++[vu x]++(wds l).drop (k+1)=wds (l.set k x):=by
 have e:l.set k x=l.take k++x::l.drop (k+1):=by rw[List.set_eq_take_append_cons_drop,um h]
 rw[e,vt];simp only[wds,vy,vl,qvm,qvn,List.singleton_append]
theorem jtn:∀cs:List V,cn cs.length cs=some cs
 |[]=>rfl
 |c::cs=>by rw[List.length_cons,cn,jtn cs];rfl
theorem jvf(h:cs.length=n):cn n cs=some cs:=by rw[<- h];exact jtn cs
theorem jvg:∀(cs ds:List V),cn cs.length (cs++ds)=some cs
 |[],_=>rfl
 |c::cs,ds=>by rw[List.length_cons,List.cons_append,cn,jvg cs];rfl
theorem qc9:∀i:Nat,i<25->0<=atU rotL i/\atU rotL i<=63:=by decide
theorem and63:∀n:Int,0<=n->n<=63->bitF .and .u64 n 63=n:=by
 intro n h0 h1;have:∀m:Fin 64,bitF .and .u64 ((m.val:Nat):Int) 63=((m.val:Nat):Int):=by decide
 have h2:=this ⟨n.toNat,omq⟩;simp only[Int.toNat_of_nonneg h0] at h2;exact h2
theorem qd3:∀n:Int,0<=n->n<=64->IntKind.u64.wrap n=n:=fun n h0 h1=>IntWalk.u64_in n ⟨h0,omq⟩
theorem jyx(x n:Int)(h0:0<=n)(h1:n<=63):Den prog T 304 [vu x,vi n] (vu (rotU x n)):=by
 have a:=and63 n h0 h1;have b:=qd3 n h0 omq;have c:=qd3 (64-n) omq omq;refine ab call304 func304 17 ?_;refine runW (ai a (ai b c)) ?_;exact fin rfl
theorem juh(x n:Int)(h0:0<=n)(h1:n<=63):Den prog T 264 [vu x,vi n] (vu (rotU x n)):=by
 refine ab call264 func264 13 ?_;exact za
theorem qec:Den prog T 243 [] (.agg (nus rotL)):=by
 refine ab call243 func243 2 ?_;exact zba
theorem qdv:Den prog T 191 [] (.agg (nus rotL)):=by
 refine ab call191 func191 2 ?_;exact zba
theorem qei:Den prog T 244 [] (.agg (wds conL)):=by
 refine ab call244 func244 2 ?_;exact zba
theorem qdz:Den prog T 190 [] (.agg (wds conL)):=by
 refine ab call190 func190 2 ?_;exact zba
theorem jf6{P:Program}{x t j:Nat}{nm:Option Nat}{kk:Option (TypeId×Nat×Nat)}{st:St}[h0:TAgg P t n](h1:Ab.look x st.t=some (.p j 0))(h2:Ab.look j st.h=some (.var cs nm kk))(h3:cs.length=n):sl P [.cell x t] (.agg cs) .rt st:=by
 refine .inl ⟨.agg cs,dl ?_,.refl _⟩;have e:resV P st (.cell x t)=(behind st.h (Ab.look x st.t)).bind (ldV P t):=rfl;rw[e,h1];simp only[behind,memV,h2,ym,Option.bind_some,ldV,h0.agg,h0.size,jvf h3,Option.map_some]
theorem jcg:(wds bq).drop 25=[]/\bq.length=25:=⟨rfl,rfl⟩
theorem jjg{l:List Int}(h:l.length=25):(wds l).drop 25=[]:=qvb (by rw[ut];omega)
theorem tk25{l:List Int}(h:l.length=25):cn 25 (wds l)=some (wds l):=jvf (by rw[ut];exact h)
theorem qak{l:List Int}(h:0<l.length):ldV prog 154 (wds l)=some (vu (atU l 0)):=by
 have:=dn h;rw[ym] at this;rw[this,nf]
theorem jxm{l:List Int}(h:0<l.length)(x:Int):vu x::(wds l).drop 1=wds (l.set 0 x):=ql h x
def bK(a:List Int)(k:Nat):List Int:=layF id posF (fun i=>rotU (pg a i) (atU rotL i)) k bq
def oK(b:List Int)(k:Nat):List Int:=layF id id (chiF b) k bq
theorem qsw(a:List Int)(k:Nat):bK a (k+1)=(bK a k).set (posF k) (rotU (pg a k) (atU rotL k)):=td _ _ _ _ _
theorem qrz(b:List Int)(k:Nat):oK b (k+1)=(oK b k).set k (chiF b k):=td _ _ _ _ _
theorem qcx(a:List Int)(k:Nat):(bK a k).length=25:=tg _ _ _ _ _
theorem qce(b:List Int)(k:Nat):(oK b k).length=25:=tg _ _ _ _ _
theorem qa4:∀i:Nat,i<25->posF i<25:=by decide
theorem qcy(a:List Int):(bF a).length=25:=qcx a 25
theorem jy4(b:List Int):(outF b).length=25:=qce b 25
theorem qm3(a:List Int)(c:Int)(ha:a.length=25):Den prog T 245 [.agg (wds a),.agg (nus rotL),vu c] (.agg (wds (lq a c))):=by
 have ta:=tk25 ha;refine ab call245 func245 118 ?_;refine runW ta ?_
 refine loop ⟨[2,3,4,6,7,18,19],[3,4,6,7],[],[]⟩ (fun k:Nat=>k<=25) (fun k=>25-k)
  (fun k=>⟨118,[(2,.v (vu c)),(3,.p 3 0),(4,.p 4 0),(6,.p 6 0),(7,.p 7 0),(18,.v (.agg (wds a))),(19,.v (vi k))],[(3,.var (wds a)),(4,.var (nus rotL)),(6,.var (wds bq)),(7,.var (wds (dk a k)))],[]⟩) 0 (uq _) ?_
 intro k hk;by_cases hlt:k<25
 .have hs:=jgo a k;have m5:((k:Nat):Int).tmod 5=((k % 5:Nat):Int):=fo k 5;have d1:=dn (l:=a) (k:=k) omq;have d2:=dn (l:=dk a k) (k:=k % 5) omq
  have s1:(wds (dk a k)).take (k % 5)++[vu (bitF .xor .u64 (atU (dk a k) (k % 5)) (atU a k))]++(wds (dk a k)).drop (k % 5+1)=wds (dk a (k+1)):=by
   rw[jjk];exact ql omq _
  refine runW (ai m5 (ai d1 (ai d2 s1))) ?_;exact zy
 have hk:k=25:=omq;subst hk;have hw:∀i,pg a i=xorU (xorU (atU a i) (atU (dk a 25) ((i+4) % 5))) (rotU (atU (dk a 25) ((i+1) % 5)) 1):=fun i=>rfl;have hSl:=jgo a 25;obtain⟨S,hS⟩:∃S,dk a 25=S:=⟨_,rfl⟩;simp only[hS] at hw hSl ⊢;refine run ?_
 refine loop ⟨[2,3,4,6,7,10,31],[3,4,6,7,10],[],[]⟩ (fun y:Nat=>y<=5) (fun y=>5-y)
  (fun y=>⟨118,[(2,.v (vu c)),(3,.p 3 0),(4,.p 4 0),(6,.p 6 0),(7,.p 7 0),(10,.p 10 0),(31,.v (vi y))],[(3,.var (wds a)),(4,.var (nus rotL)),(6,.var (wds bq)),(7,.var (wds S)),(10,.var (wds (bK a (5*y))))],[]⟩) 0 (uq _) ?_
 intro y hy;by_cases hylt:y<5
 .refine run ?_
  refine loop ⟨[2,3,4,6,7,10,31,11,34],[3,4,6,7,10],[],[]⟩ (fun x:Nat=>x<=5) (fun x=>5-x)
   (fun x=>⟨118,[(2,.v (vu c)),(3,.p 3 0),(4,.p 4 0),(6,.p 6 0),(7,.p 7 0),(10,.p 10 0),(31,.v (vi y)),(11,.v (vi y)),(34,.v (vi x))],[(3,.var (wds a)),(4,.var (nus rotL)),(6,.var (wds bq)),(7,.var (wds S)),(10,.var (wds (bK a (5*y+x))))],[]⟩) 0 (uq _) ?_
  intro x hx;by_cases hxlt:x<5
  .have hB:=qcx a (5*y+x);have hj:=qa4 (5*y+x) omq;have f1:(x:Int)+5*(y:Int)=((5*y+x:Nat):Int):=omq
   have f2:((x:Int)+4).tmod 5=(((5*y+x+4) % 5:Nat):Int):=by
    rw[show (5*y+x+4) % 5=(x+4) % 5 by omega];exact fo (x+4) 5
   have f3:((x:Int)+1).tmod 5=(((5*y+x+1) % 5:Nat):Int):=by
    rw[show (5*y+x+1) % 5=(x+1) % 5 by omega];exact fo (x+1) 5
   have f4:(2*(x:Int)+3*(y:Int)).tmod 5=(((2*x+3*y) % 5:Nat):Int):=fo (2*x+3*y) 5
   have f5:(y:Int)+5*(((2*x+3*y) % 5:Nat):Int)=((posF (5*y+x):Nat):Int):=by
    have h1:(5*y+x) / 5=y:=omq;have h2:(5*y+x) % 5=x:=omq;unfold posF;rw[h1,h2];omega
   have d1:=dn (l:=a) (k:=5*y+x) omq;have d2:=dn (l:=S) (k:=(5*y+x+4) % 5) omq;have d3:=dn (l:=S) (k:=(5*y+x+1) % 5) omq;have d4:=jy6 (l:=rotL) (k:=5*y+x) (by show _<25;omega);have hr:=qc9 (5*y+x) omq
   have s1:(wds (bK a (5*y+x))).take (posF (5*y+x))++[vu (rotU (bitF .xor .u64 (bitF .xor .u64 (atU a (5*y+x)) (atU S ((5*y+x+4) % 5))) (rotU (atU S ((5*y+x+1) % 5)) 1)) (atU rotL (5*y+x)))]++(wds (bK a (5*y+x))).drop (posF (5*y+x)+1)=wds (bK a (5*y+x+1)):=by
    rw[qsw,hw];exact ql omq _
   refine rcW (ai f1 (ai f2 (ai f3 (ai d1 (ai d2 d3))))) (jyx (atU S ((5*y+x+1) % 5)) 1 dcq dcq) ?_;refine rcW (ai f4 (ai f5 d4)) (jyx _ _ hr.1 hr.2) ?_;refine runW s1 ?_;exact round (x+1) omq omq
  have hx5:x=5:=omq;subst hx5;refine run ?_;exact round (y+1) omq omq
 have hy5:y=5:=omq;subst hy5;have hBl:=qcy a;have hBe:bK a (5*5)=bF a:=rfl;have hRe:lq a c=(outF (bF a)).set 0 (bitF .xor .u64 (atU (outF (bF a)) 0) c):=rfl;have hRl:=jjn a c;obtain⟨B,hB⟩:∃B,bF a=B:=⟨_,rfl⟩;simp only[hBe,hB] at hBl hRe ⊢;refine run ?_
 refine loop ⟨[2,6,10,15,74],[6,10,15],[],[]⟩ (fun y:Nat=>y<=5) (fun y=>5-y)
  (fun y=>⟨118,[(2,.v (vu c)),(6,.p 6 0),(10,.p 10 0),(15,.p 15 0),(74,.v (vi y))],[(6,.var (wds bq)),(10,.var (wds B)),(15,.var (wds (oK B (5*y))))],[]⟩) 0 (uq _) ?_
 intro y hy;by_cases hylt:y<5
 .refine run ?_
  refine loop ⟨[2,6,10,15,74,16,77],[6,10,15],[],[]⟩ (fun x:Nat=>x<=5) (fun x=>5-x)
   (fun x=>⟨118,[(2,.v (vu c)),(6,.p 6 0),(10,.p 10 0),(15,.p 15 0),(74,.v (vi y)),(16,.v (vi y)),(77,.v (vi x))],[(6,.var (wds bq)),(10,.var (wds B)),(15,.var (wds (oK B (5*y+x))))],[]⟩) 0 (uq _) ?_
  intro x hx;by_cases hxlt:x<5
  .have hO:=qce B (5*y+x);have f1:(x:Int)+5*(y:Int)=((5*y+x:Nat):Int):=omq;have f2:((x:Int)+1).tmod 5=(((x+1) % 5:Nat):Int):=fo (x+1) 5;have f3:((x:Int)+2).tmod 5=(((x+2) % 5:Nat):Int):=fo (x+2) 5;have f4:(((x+1) % 5:Nat):Int)+5*(y:Int)=(((x+1) % 5+5*y:Nat):Int):=omq;have f5:(((x+2) % 5:Nat):Int)+5*(y:Int)=(((x+2) % 5+5*y:Nat):Int):=omq;have d1:=dn (l:=B) (k:=5*y+x) omq;have d2:=dn (l:=B) (k:=(x+1) % 5+5*y) omq;have d3:=dn (l:=B) (k:=(x+2) % 5+5*y) omq
   have s1:(wds (oK B (5*y+x))).take (5*y+x)++[vu (bitF .xor .u64 (atU B (5*y+x)) (bitF .and .u64 (notF .u64 (atU B ((x+1) % 5+5*y))) (atU B ((x+2) % 5+5*y))))]++(wds (oK B (5*y+x))).drop (5*y+x+1)=wds (oK B (5*y+x+1)):=by
    have h1:(5*y+x) / 5=y:=omq;have h2:(5*y+x) % 5=x:=omq;rw[qrz];unfold chiF;rw[h1,h2];exact ql omq _
   refine runW (ai f1 (ai f2 (ai f3 (ai f4 (ai f5 (ai d1 (ai d2 (ai d3 s1)))))))) ?_;exact round (x+1) omq omq
  have hx5:x=5:=omq;subst hx5;refine run ?_;exact round (y+1) omq omq
 have hy5:y=5:=omq;subst hy5;have hOl:=jy4 B;have hOe:oK B (5*5)=outF B:=rfl;obtain⟨O,hO⟩:∃O,outF B=O:=⟨_,rfl⟩;simp only[hOe,hO] at hOl hRe ⊢;have e0:=qak (l:=O) omq;have e1:=jxm (l:=O) omq (bitF .xor .u64 (atU O 0) c);rw[<- hRe] at e1;obtain⟨R,hR⟩:∃R,lq a c=R:=⟨_,rfl⟩;simp only[hR] at hRl e1 ⊢;refine runW (ai e0 (ai e1 (ai (tk25 hRl) (ai hRl jcg)))) ?_;refine jf6 (P:=prog) (x:=6) (t:=155) (j:=6) (cs:=wds R) (nm:=none) (kk:=none) ?_ ?_ ?_
 .rfl
 .rfl
 rw[ut];exact hRl
def pK(a:List Int)(k:Nat):List Int:=(conL.take k).foldl lq a
theorem ji5{a:List Int}(h:a.length=25)(k:Nat):(pK a k).length=25:=jl2 _ a h
theorem qum:∀k:Nat,k<24->conL.take (k+1)=conL.take k++[atU conL k]:=by decide
theorem qa6(a:List Int)(h:k<24):pK a (k+1)=lq (pK a k) (atU conL k):=by
 unfold pK;rw[qum k h,qvk,List.foldl_cons,List.foldl_nil]
theorem qcb(a:List Int):pK a 24=nt a:=by rw[nt];rfl
theorem qgr(a:List Int)(ha:a.length=25):Den prog T 163 [.agg (wds a)] (.agg (wds (nt a))):=by
 have tr:cn 25 (nus rotL)=some (nus rotL):=rfl;have hrl:rotL.length=25:=rfl;refine ab call163 func163 17 ?_;refine rc qec ?_;refine rcW hrl qei ?_;refine run ?_
 refine loop ⟨[1,2,3,7,8],[1,2,3],[],[]⟩ (fun k:Nat=>k<=24) (fun k=>24-k)
  (fun k=>⟨17,[(1,.p 1 0),(2,.p 2 0),(3,.p 3 0),(7,.v (.agg (wds conL))),(8,.v (vi k))],[(1,.var (wds (pK a k))),(2,.var (wds bq)),(3,.var (nus rotL))],[]⟩) 0 (uq _) ?_
 intro k hk;have hl:=ji5 ha k;by_cases hlt:k<24
 .have hl2:=ji5 ha (k+1);have hc:=dn (l:=conL) (k:=k) hlt;have hR:=qm3 (T:=T) (pK a k) (atU conL k) hl;exact zcz
 have hk:k=24:=omq;subst hk;simp only[qcb] at hl ⊢;refine runW (ai (tk25 hl) (ai hl jcg)) ?_;refine jf6 (P:=prog) (x:=2) (t:=155) (j:=2) (cs:=wds (nt a)) (nm:=none) (kk:=none) ?_ ?_ ?_
 .rfl
 .rfl
 rw[ut];exact hl
theorem qcu(b:UInt8):IntKind.u64.wrap (b.toNat:Int)=(b.toNat:Int):=IntWalk.u64_in _ ⟨omq,by have:=UInt8.toNat_lt b;omega⟩
theorem jwz(s:List Int)(d:Str)(hs:s.length=25)(hd:d.length=136):Den prog T 97 [.agg (wds s),.str d] (.agg (wds (de s d))):=by
 have hfin:nt (eatF s d 136)=de s d:=by rw[de]
 refine ab call97 func97 28 ?_;refine run ?_
 refine loop ⟨[1,2,4,7,8],[2,4],[],[]⟩ (fun k:Nat=>k<=136) (fun k=>136-k)
  (fun k=>⟨28,[(1,.v (.str d)),(2,.p 2 0),(4,.p 4 0),(7,.v (vi d.length)),(8,.v (vi k))],[(2,.var (wds (eatF s d k))),(4,.var (wds bq))],[]⟩) 0 (uq _) ?_
 intro k hk;have hl:(eatF s d k).length=25:=(jmr s d k).trans hs;by_cases hlt:k<136
 .obtain⟨b,hb,-,-⟩:=ac (l:=d) (k:=k) omq;have hg:d.getD k 0=b:=by rw[qvd,hb];rfl
  have q1:((k:Nat):Int).tdiv 8=((k / 8:Nat):Int):=na k 8;have q2:((k:Nat):Int).tmod 8=((k % 8:Nat):Int):=fo k 8;have d1:=dn (l:=eatF s d k) (k:=k / 8) omq
  have s1:(wds (eatF s d k)).take (k / 8)++[vu (bitF .xor .u64 (atU (eatF s d k) (k / 8)) (shF true .u64 (b.toNat:Int) (8*((k % 8:Nat):Int))))]++(wds (eatF s d k)).drop (k / 8+1)=wds (eatF s d (k+1)):=by
   rw[jl9,hg];exact ql omq _
  refine runW (ai hb (ai q1 (ai q2 (ai d1 (ai s1 (qcu b)))))) ?_;exact ze
 have hk:k=136:=omq;subst hk;have hP:=qgr (T:=T) (eatF s d 136) hl;rw[hfin] at hP;have hl2:(de s d).length=25:=jdi s d hs;refine rcW (tk25 hl) hP ?_;refine runW (ai hl2 jcg) ?_;refine jf6 (P:=prog) (x:=4) (t:=155) (j:=4) (cs:=wds (de s d)) (nm:=none) (kk:=none) ?_ ?_ ?_
 .rfl
 .rfl
 rw[ut];exact hl2
def hshC(s:List Int)(r:Str)(n:Int):List V:=wds s++[.str r,vi n]
def NewP(ro:Option Blk)(r:V):Prop:=∃b,ro=some (.var (hshC bq [] 0) (some b))/\r=.val (.pointer (some ⟨b,0,none⟩))
theorem qoz(σ:Sto):opv σ (.const (.pointer none))=some (.v (.val (.pointer none))):=rfl
theorem qqk:DenU prog T 49 [] NewP:=by
 refine jz follows (fun args w=>call49 args w) func49 rfl 3 rfl ?_;refine qut ?_;refine runW (fun σ=>qoz σ) ?_;refine⟨0,2,0,rfl,fun b=>?_⟩;exact⟨_,_,dl rfl,.refl _,.inr ⟨2,_,b,rfl,rfl,b,rfl,rfl⟩⟩
structure HshF (s:List Int):Prop where
 d25:∀r n,(hshC s r n).drop 25=[.str r,vi n]
 d26:∀r n,(hshC s r n).drop 26=[vi n]
 d27:∀r n,(hshC s r n).drop 27=[]
 s25:∀r n q,(hshC s r n).take 25++[.str q]++[vi n]=hshC s q n
 s26:∀r n q,(hshC s r n).take 26++[vi q]=hshC s r q
 t25:∀r n,cn 25 (hshC s r n)=some (wds s)
 ln:∀r n,(hshC s r n).length=27
theorem jf2{s:List Int}(h:s.length=25):HshF s:=by
 have hl:(wds s).length=25:=by rw[ut];exact h
 refine⟨fun r n=>?_,fun r n=>?_,fun r n=>?_,fun r n q=>?_,fun r n q=>?_,fun r n=>?_,fun r n=>?_⟩<;>unfold hshC
 .rw[<- hl,List.drop_left]
 .rw[show 26=(wds s).length+1 by omega,List.drop_length_add_append];rfl
 .rw[show 27=(wds s).length+2 by omega,List.drop_length_add_append];rfl
 .rw[<- hl,List.take_left,vt];rfl
 .rw[show 26=(wds s).length+1 by omega,List.take_length_add_append,vt];rfl
 .have:=jvg (wds s) [.str r,vi n];rw[hl] at this;exact this
 rw[ve,hl];rfl
theorem qk4{s:List Int}(h:d.length<136):absF n s d=(s,d):=by
 cases n with
 |zero=>rfl
 |succ n=>rw[absF,ul omq]
theorem qoa{s:List Int}(hn:d.length<=n)(h:136<=d.length):∃k,(d.drop 136).length<=k/\absF n s d=absF k (de s (d.take 136)) (d.drop 136):=by
 cases n with
 |zero=>omega
 |succ n=>exact⟨n,by rw[xo];omega,by rw[absF,um h]⟩
abbrev qu9:List Gent:=gd 14 [[0,0,0],[1,1,0],[3,5,0],[35,2,1,6,0],[99,7,2],[39,3,0],[47,4,2,6,1],[227,2,2,8,3],[111,7,5],[63,6,2,0,0,0],[231,3,3],[483,2,1,9,3],[127,7,3],[487,3,4],[239,4,1,8,3],[995,2,1,0,0,0],[255,8,2,0,0,0],[999,3,2],[495,4,0,9,1],[511,9,1,0,0,0],[1007,4,0,0,0,0],[1023,10,0,0,0,0],[2047,11,0,0,0,0],[4095,12,0],[8191,13,0,0,0,0],[16383]]
theorem qjk(s0:List Int)(d:Str)(hs0:s0.length=25)(hd:d.length<=1073741824):
  DenS prog T 50 [(999000,.var (hshC s0 [] 0))] [] [.p 999000 0,.v (strs [d])] [(999000,.var (hshC (absF d.length s0 d).1 (absF d.length s0 d).2 (d.length:Int)))] [] (.v (vi d.length)):=by
 have H:=jf2 hs0;refine lc follows (fun args w=>call50 args w) func50 rfl 62 rfl rfl ?_;obtain⟨⟨sE,rE⟩,hE⟩:∃p,absF d.length s0 d=p:=⟨_,rfl⟩;have hEl:sE.length=25:=by have:=jln d.length s0 d hs0;rw[hE] at this;exact this
 rw[hE];refine run ?_
 refine loop ⟨[0,7,8,9],[999000],[],[]⟩ (fun _:Bool=>True) (fun b=>if b=true then 0 else 1)
  (fun b=>⟨62,[(0,.p 999000 0),(7,.v (strs [d])),(8,.v (vi 1)),(9,.v (vi (if b=true then 1 else 0)))],[(999000,.var (if b=true then hshC sE rE (d.length:Int) else hshC s0 [] 0))],[]⟩) false trivial ?_
 rintro b -;cases b with
 |true=>
  have HE:=jf2 hEl;simp only[uy];refine runW HE.d26 ?_;exact zcr
 |false=>
  simp only[vq,va];have z0:(0:Int)+(d.length:Int)=(d.length:Int):=Int.zero_add _;refine runW (ai H.d25 (ai H.d26 (ai H.d27 (ai H.s25 (ai H.s26 (ai H.ln z0)))))) ?_
  refine loop ⟨[0,7,8,9],[999000],[],[]⟩ (fun y:List Int×Str=>y.1.length=25/\y.2.length<=d.length/\∃n,y.2.length<=n/\absF n y.1 y.2=(sE,rE)) (fun y=>y.2.length)
   (fun y=>⟨62,[(0,.p 999000 0),(7,.v (strs [d])),(8,.v (vi 1)),(9,.v (vi 0))],[(999000,.var (hshC y.1 y.2 (d.length:Int)))],[]⟩) (s0,d) ⟨hs0,uv _,_,uv _,hE⟩ ?_
  rintro⟨s,r⟩ ⟨hs,hr,n,hn,hA⟩;simp only at hs hr hn hA;have H:=jf2 hs;by_cases h136:136<=r.length
  .obtain⟨k,hk,hst⟩:=qoa (s:=s) hn h136;have htl:(r.take 136).length=136:=by rw[vz];omega
   have hB:=jwz (T:=T) s (r.take 136) hs htl;have hBl:=jdi s (r.take 136) hs;have hta:r.take r.length=r:=vk;have H2:=jf2 hBl;have hmk:∀r1 n1,wds (de s (r.take 136))++[V.str r1,vi n1]=hshC (de s (r.take 136)) r1 n1:=fun _ _=>rfl;refine runD (ai H.d25 (ai H.d26 H.ln)) ?_;refine bt qu9 ?_;refine il (fun _:Unit=>True) ⟨[0,7,8,9],[999000],[],[]⟩ (fun _=>⟨62,[(0,.p 999000 0),(7,.v (strs [d])),(8,.v (vi 1)),(9,.v (vi 0))],[(999000,.var (hshC (de s (r.take 136)) r (d.length:Int)))],[]⟩) (fun st st' hk h=>ci _ hk h) ?_ (fun K' hK=>?_)
   rotate_left
   .refine am (ai H.d25 (ai H.d26 H.t25)) ?_
    try simp only[vf,vd,uz,bg,bn]
    repeat' (with_reducible refine ai ?_ ?_)
    all_goals
     refine call hB ?_;refine am (ai hBl (ai H.d25 (ai hmk H.ln))) ?_
     try simp only[vf,vd,uz,bg,bn]
     repeat' (with_reducible refine ai ?_ ?_)
     all_goals exact gk hK () trivial
   intro _ _;refine runW (ai H2.d25 (ai H2.d26 (ai H2.s25 (ai H2.ln hta)))) ?_;exact round (de s (r.take 136),r.drop 136) ⟨hBl,by simp only[xo];omega,k,hk,by rw[<- hst];exact hA⟩ (by simp only[xo];omega)
  rw[qk4 omq] at hA;cases hA;refine runW (ai H.d25 H.d26) ?_;refine round true trivial dcq ?_;simp only[uy];rfl
abbrev qub:List Gent:=gd 15 [[0,0,0],[1,5,0],[33,1,0,6,1],[35,2,1],[97,7,1],[39,3,3,6,1],[225,1,1,8,3],[103,7,6],[227,2,5],[47,4,2,6,1],[481,1,2,9,4],[111,7,6],[63,6,4,0,0,0],[483,2,6],[231,3,3,8,5],[993,1,0,10,3],[995,2,7],[127,7,4],[239,4,3,8,2],[2017,1,3,11,5],[487,3,0,9,3],[495,4,5,9,7],[255,8,4,0,0,0],[2019,2,2],[999,3,4,10,1],[4065,1,2,0,0,0],[2023,3,5,11,4],[511,9,2,0,0,0],[4067,2,2],[1007,4,0,10,2],[1023,10,2,0,0,0],[4071,3,2,0,0,0],[2031,4,0,11,1],[2047,11,1,0,0,0],[4079,4,0,0,0,0],[4095,12,0,0,0,0],[8191,13,0,0,0,0],[16383,14,0,0,0,0],[32767]]
abbrev qua:List Gent:=gd 9 [[0,0,0],[1,4,0],[17,1,1,5,2,7,0],[145,1,5,5,4],[19,2,2],[49,1,0,7,2],[51,2,5],[23,3,2,5,4,7,3],[177,1,4,0,0,0],[147,2,1],[31,5,5,7,3],[151,3,2,5,3],[55,3,3,7,2],[179,2,1],[159,5,3,0,0,0],[183,3,2,0,0,0],[63,6,0,7,1],[127,7,1,0,0,0],[191,6,0,0,0,0],[255,8,0,0,0,0],[511]]
theorem or128:∀n:Fin 256,(((UInt8.ofNat (bitF .or .u8 ((n.val:Nat):Int) 128).toNat).toNat:Nat):Int)=bitF .or .u8 ((n.val:Nat):Int) 128:=by decide
theorem qa7(b:UInt8):((orB b).toNat:Int)=bitF .or .u8 (b.toNat:Int) 128:=or128 ⟨b.toNat,UInt8.toNat_lt b⟩
abbrev vb8(n:Int):V:=.val (.int .u8 n)
theorem jzf{l:Str}{b:UInt8}(h:l[k]?=some b):(bc l).drop k=vb8 b.toNat::(bc l).drop (k+1):=by
 obtain⟨hlt,rfl⟩:=gsi.1 h;unfold bc;rw[<- qvn,<- qvn,qvq hlt,vl]
theorem qbt{l:Str}(h:k<l.length)(x:UInt8):(bc l).take k++[vb8 x.toNat]++(bc l).drop (k+1)=bc (l.set k x):=by
 have e:l.set k x=l.take k++x::l.drop (k+1):=by rw[List.set_eq_take_append_cons_drop,um h]
 rw[e,vt];simp only[bc,vy,vl,qvm,qvn,List.singleton_append]
theorem jib:∀l:Str,byL (bc l)=some l
 |[]=>rfl
 |b::l=>by
  have ih:=jib l;unfold bc at ih ⊢;rw[vl,byL,ih,Option.map_some,Int.toNat_natCast,UInt8.ofNat_toNat]
theorem qob(x:Int):0<=IntKind.u8.wrap x/\IntKind.u8.wrap x<=255:=by
 unfold IntKind.wrap;simp[IntKind.signed,IntKind.bits];omega
theorem jxc(x:Int):(((UInt8.ofNat (IntKind.u8.wrap x).toNat).toNat:Nat):Int)=IntKind.u8.wrap x:=by
 have:=qob x;rw[UInt8.toNat_ofNat_of_lt' (by show _<256;omega)];omega
theorem jwr(s:List Int)(k:Nat):digF s (k+1)=digF s k++[UInt8.ofNat (IntKind.wrap .u8 (shF false .u64 (atU s (k / 8)) (8*((k % 8:Nat):Int)))).toNat]:=by
 unfold digF;rw[List.range_succ,vy];rfl
abbrev Cby(b:UInt8):List V:=[vb8 b.toNat]
abbrev bys(l:Str):V:=.slice 1 (l.map Cby)
theorem jn3:∀l:Str,(l.map Cby).flatten=bc l
 |[]=>rfl
 |b::l=>by
  have ih:=jn3 l;unfold bc at ih ⊢;rw[vl,List.flatten_cons,ih];rfl
theorem qg0(L:LibT T)(s:List Int)(d:Str)(n:Int)(hs:s.length=25)(hd:d.length<136):
  DenS prog T 51 [(999000,.var (hshC s d n))] [] [.p 999000 0] [(999000,.var (hshC s d n))] [] (.v (.str (digF (de s (padF d)) 32))):=by
 have H:=jf2 hs;have hR:=jsn L (135-d.length) omq;have hc:((135-d.length:Nat):Int)=135-(d.length:Int):=omq;rw[hc] at hR;obtain⟨Lst,hL⟩:∃l,d++[6]++List.replicate (135-d.length) 0=l:=⟨_,rfl⟩;have hLl:Lst.length=136:=by rw[<- hL];simp;omega
 have hcat:((d++[(6:UInt8)]).length+(List.replicate (135-d.length) (0:UInt8)).length<=9223372036854775807)=True:=uo zew;have hpad:ig Lst=padF d:=by rw[<- hL];unfold padF;simp
 have hPl:=jy3 d hd;have hB:=jwz (T:=T) s (padF d) hs hPl;have hBl:=jdi s (padF d) hs;obtain⟨q,hq⟩:∃q,de s (padF d)=q:=⟨_,rfl⟩;rw[hq] at hB hBl ⊢;obtain⟨x,hx,-,-⟩:=ac (l:=Lst) (k:=135) omq;have hd1:=jzf hx
 have hst:(bc Lst).take 135++[vb8 (bitF .or .u8 (x.toNat:Int) 128)]++(bc Lst).drop 136=bc (padF d):=by
  rw[<- hpad,<- qa7]
  have h1:ig Lst=Lst.set 135 (orB x):=by
   unfold ig;rw[hLl];simp only[qvd,hx];rfl
  rw[h1];exact qbt omq _
 obtain⟨P,hP⟩:∃P,padF d=P:=⟨_,rfl⟩;rw[hP] at hst hPl hB;have hby:=jib P;have htk:(bc P).take 136=bc P:=xn (by rw[ja8];omega);have hbl:(bc P).length=136:=by rw[ja8];exact hPl
 refine lc follows (fun args w=>call51 args w) func51 rfl 51 rfl rfl ?_;refine runD trivial ?_;refine bt qub ?_;refine il (fun y:Nat×Nat=>136<=y.2/\y.2<=maxLen) ⟨[0,3],[999000,20],[],[]⟩ (fun y=>⟨51,[(0,.p 999000 0),(3,.v (.val (.slice (some ⟨y.1,0,none⟩) 136 y.2)))],[(999000,.var (hshC s d n)),(20,.var (bc Lst) (some y.1) (some (5,1,y.2)))],[]⟩) (fun st st' hk h=>ci _ hk h) ?_ (fun K' hK=>?_)
 rotate_left
 .refine am H.d25 ?_
  try simp only[vd]
  repeat' (with_reducible refine ai ?_ ?_)
  all_goals
   refine call hR ?_;refine am (ai H.d25 (ai hL hcat)) ?_
   try simp only[vf,vd,uz,bg,bn]
   repeat' (with_reducible refine ai ?_ ?_)
   all_goals
    unfold bytK;intro r cap hnm h1 h2;rw[hLl] at h1 ⊢;refine am trivial ?_;exact gk hK (r,cap) ⟨h1,h2⟩
 rintro⟨r,cap⟩ ⟨hc1,hc2⟩;simp only;have hLb:(bc Lst).length=136:=by rw[ja8];exact hLl
 refine runD (ai hd1 (ai hst hLb)) ?_;refine bt qua ?_;refine il (fun _:Unit=>True) ⟨[0,4],[999000,4],[],[]⟩ (fun _=>⟨51,[(0,.p 999000 0),(4,.p 4 0)],[(999000,.var (hshC s d n)),(4,.var (wds q))],[]⟩) (fun st st' hk h=>ci _ hk h) ?_ (fun K' hK=>?_)
 rotate_left
 .refine am (ai H.t25 (ai hbl (ai htk hby))) ?_
  try simp only[vf,uz]
  repeat' (with_reducible refine ai ?_ ?_)
  all_goals
   refine call hB ?_;refine am (ai hBl jcg) ?_
   try simp only[vf,vd,uz,bg,bn]
   repeat' (with_reducible refine ai ?_ ?_)
   all_goals exact gk hK () trivial
 intro _ _;refine run ?_
 refine loop ⟨[0,4,5,33],[999000,4],[5],[(5,5,1)]⟩ (fun k:Nat=>k<=32) (fun k=>32-k)
  (fun k=>⟨51,[(0,.p 999000 0),(4,.p 4 0),(5,.v (bys (digF q k))),(33,.v (vi k))],[(999000,.var (hshC s d n)),(4,.var (wds q))],[(5,[5])]⟩) 0 (uq _) ?_
 intro k hk;by_cases hlt:k<32
 .have q1:((k:Nat):Int).tdiv 8=((k / 8:Nat):Int):=na k 8;have q2:((k:Nat):Int).tmod 8=((k % 8:Nat):Int):=fo k 8;have d1:=dn (l:=q) (k:=k / 8) omq
  have hap:(digF q k).map Cby++[[vb8 (IntKind.u8.wrap (shF false .u64 (atU q (k / 8)) (8*((k % 8:Nat):Int))))]]=(digF q (k+1)).map Cby:=by
   rw[jwr,vy,List.map_singleton];simp only[Cby,vb8,jxc]
  have hdl:(digF q k).length=k:=by unfold digF;rw[ut,List.length_range]
  refine runW (ai q1 (ai q2 (ai d1 hap))) ?_;exact ze
 have hk:k=32:=omq;subst hk;have hby:=jib (digF q 32);rw[<- jn3] at hby;refine runW hby ?_;exact zcr
theorem jrt(L:LibT T)(d:Str)(hd:d.length<=1073741824):Den prog T 13 [.str d] (.str (sumD d)):=by
 have hz:bq.length=25:=rfl;have hW:=qjk (T:=T) bq d hz hd;have h1:=jzn d.length bq d (uv _);have h2:=jln d.length bq d hz;have hS:=qg0 L (absF d.length bq d).1 (absF d.length bq d).2 (d.length:Int) h2 h1;have he:digF (de (absF d.length bq d).1 (padF (absF d.length bq d).2)) 32=sumD d:=rfl;rw[he] at hS;obtain⟨⟨s,r⟩,hp⟩:∃p,absF d.length bq d=p:=⟨_,rfl⟩;rw[hp] at hW hS;refine ab call13 func13 11 ?_;refine run ?_;refine mo (jio 4 qqk ?_ ?_)
 .rintro r ⟨b,h,-⟩;cases h
 rintro k v ⟨b,hk,rfl⟩ hnm;cases hk;refine run ?_;refine mo (rl [(999000,4)] hW (.cons (.pn rfl rfl) (.cons (.v _) .nil)) ?_ ?_)
 .exact zdd
 refine run ?_;refine mo (rl [(999000,4)] hS (.cons (.pn rfl rfl) .nil) ?_ ?_)
 .exact zdd
 exact za
theorem ja0(n a b:Int):Den prog T 70 [vi n,vi a,vi b] (vb (decide (a<=n) && decide (n<=b))):=by
 refine ab call70 func70 15 ?_;by_cases h1:a<=n<;>by_cases h2:n<=b<;>(refine run ?_;refine fin (ae ?_);simp;try omega)
theorem qsa(n:Int):(decide (1<=n) && decide (n<=1073741824))=idB n:=by unfold idB;simp
theorem jdt(n:Int):Den prog T 69 [vi n] (vb (idB n)):=by
 rw[<- qsa];refine ab call69 func69 5 ?_;refine rc (ja0 n 1 1073741824) ?_;exact za
theorem jk8(n:Int):Den prog T 34 [vi n] (vb (dayG n)):=by
 refine ab call34 func34 5 ?_;refine rc (ja0 n 0 1048575) ?_;exact za
theorem jsv(l:List Int)(hl:l.length<=1048576):Den prog T 71 [ints l] (vb (risI l)):=by
 refine ab call71 func71 21 ?_;refine run ?_;refine aj ⟨[7,0,6],[],[],[]⟩ l.length (fun k=>∀j,j<k->∀x y,l[j]?=some x->l[j+1]?=some y->x<y) (fun j hj=>absurd hj (yf j)) ?_;rintro k ⟨hk,hall⟩;by_cases hlt:k+1<l.length
 .obtain⟨x,hx,-,-⟩:=ac (l:=l) (k:=k) omq;obtain⟨y,hy,-,-⟩:=ac (l:=l) (k:=k+1) hlt;by_cases hxy:x<y
  .refine runW (ai hx hy) ?_;refine round (k+1) ⟨omq,fun j hj u v hu hv=>?_⟩ omq;rcases vo j k with h|h
   .exact hall j h u v hu hv
   have:j=k:=omq;subst this;rw[hx] at hu;rw[hy] at hv;cases hu;cases hv;exact hxy
  refine runW (ai hx hy) ?_;refine fin (ae ?_)
  symm
  rw[yz];intro h;exact hxy ((oh l).1 h k x y hx hy)
 refine run ?_;refine fin (ae ?_)
 symm
 rw[oh];intro j x y hx hy;have:=(gsi.1 hy).1;exact hall j omq x y hx hy
def dig7(c:Crt):List Str:=[[99,101,114,116,105,102,105,99,97,116,101],decS c.num,[112,114,111,112,111,115,97,108],decS c.prp,[100,97,121],decS c.day,[102,105,108,101,115]]
theorem jb{α:Type}{l:List α}{x:α}(h:l[k]?=some x):l.take (k+1)=l.take k++[x]:=by
 obtain⟨hlt,rfl⟩:=gsi.1 h;rw[qva hlt]
theorem jvz:∀(l:List Str) (x sep:Str),l≠[]->Lib.join (l++[x]) sep=Lib.join l sep++sep++x
 |[],_,_,h=>absurd rfl h
 |[a],x,sep,_=>by simp[Lib.join,List.intercalate]
 |a::b::r,x,sep,_=>by
  have ih:=jvz (b::r) x sep (List.cons_ne_nil _ _);simp only[Lib.join,List.intercalate,List.cons_append,List.intersperse_cons_cons,List.flatten_cons] at ih ⊢;rw[ih];simp only[vt]
theorem qpd(l:List Str)(hl:l≠[]):∀fs:List Int,Lib.join (l++fs.map decS) [32]=Lib.join l [32]++flsT fs:=by
 intro fs
 induction fs generalizing l with
 |nil=>simp[flsT]
 |cons f fs ih=>
  have:=ih (l++[decS f]) smq;rw[vl,show l++decS f::fs.map decS=l++[decS f]++fs.map decS by simp,this,jvz l (decS f) [32] hl];simp[flsT]
theorem qpe(c:Crt):Lib.join (dig7 c++c.fls.map decS) [32]++[10]++c.bef=crtT c:=by
 rw[qpd _ (by simp[dig7])];unfold crtT dig7 jeu jdl jet jei;simp[Lib.join,List.intercalate,List.intersperse]
structure CrtOk (c:Crt):Prop where
 num:idB c.num=true
 prp:idB c.prp=true
 day:dayG c.day=true
 ne:1<=c.fls.length
 le:c.fls.length<=256
 ris:risI c.fls=true
 ids:c.fls.all idB=true
 bef:c.bef.length=32
theorem jea(c:Crt):crtB c=true↔CrtOk c:=by
 unfold crtB;simp only[uw,vr];constructor
 .rintro⟨⟨⟨⟨⟨⟨⟨a,b⟩,d⟩,e⟩,f⟩,g⟩,h⟩,i⟩;exact⟨a,b,d,e,f,g,h,i⟩
 rintro⟨a,b,d,e,f,g,h,i⟩;exact⟨⟨⟨⟨⟨⟨⟨a,b⟩,d⟩,e⟩,f⟩,g⟩,h⟩,i⟩
abbrev digV(c:Crt):V:=.tup [.str (digR c).1,vi (digR c).2]
theorem ng{c:Crt}(h:¬CrtOk c):digV c=.tup [.str [],vi 1]:=by
 have:¬crtB c=true:=fun e=>h ((jea c).1 e);unfold digV digR;rw[ul this]
theorem ji1{c:Crt}(h:CrtOk c):digV c=.tup [.str (sumD (crtT c)),vi 0]:=by
 unfold digV digR;rw[um ((jea c).2 h)]
theorem kj{n:Int}(h:idB n=true):1<=n/\n<=1073741824:=by unfold idB at h;exact xp h
theorem jc5{n:Int}(h:dayG n=true):0<=n/\n<=1048575:=by unfold dayG at h;simpa using h
theorem qne(h:n<10000000000):(Lib.decDigits n).length<=10:=by
 rw[Lib.decDigits_length];refine Nat.le_of_not_lt fun hlt=>?_
 have key:∀(k u:Nat),u<10 ^ (k+1)->Lib.nDigits u<=k+1:=by
  intro k
  induction k with
  |zero=>intro u hu;rw[Lib.nDigits_small (by simpa using hu)];exact uv _
  |succ k ih=>
   intro u hu;by_cases h10:u<10
   .rw[Lib.nDigits_small h10];omega
   exact zd6
 exact absurd (key 9 n h) omq
theorem my{n:Int}(h:0<=n/\n<=1073741824):(decS n).length<=10:=by
 rw[qbl omq];exact qne omq
theorem qb4{m:Nat}: ∀ {l:List Str},(∀p∈l,p.length<=m)->l.flatten.length<=l.length*m
 |[],_=>by simp
 |p::l,h=>by
  have h1:=h p qvp;have h2:=qb4 (l:=l) fun q hq=>h q (yq _ hq);simp only[List.flatten_cons,ve,List.length_cons,yd];omega
theorem jz4{c:Crt}(h:CrtOk c):(crtT c).length<=10000:=by
 have h1:=my (n:=c.num) (by have:=kj h.num;omega);have h2:=my (n:=c.prp) (by have:=kj h.prp;omega);have h3:=my (n:=c.day) (by have:=jc5 h.day;omega)
 have h4:(flsT c.fls).length<=256*11:=by
  have:(flsT c.fls).length<=(c.fls.map fun f=>32::decS f).length*11:=qb4 fun p hp=>by
   obtain⟨f,hf,rfl⟩:=xi.1 hp;have:=my (n:=f) (by have:=kj (vj.1 h.ids f hf);omega);simp only[List.length_cons];omega
  rw[ut] at this;have:=h.le;omega
 have h5:=h.bef;unfold crtT jeu jdl jet jei;exact zcd
abbrev gr132:List Gent:=gd 11 [[0,0,0],[1,3,0],[9,6,0],[73,1,1,4,0,7,2],[89,1,5,7,4],[75,2,2,4,4,7,1],[201,1,0,4,2],[203,2,5,4,4],[79,4,2,7,4],[217,1,2,0,0,0],[91,2,0,7,1],[95,5,2,7,3],[219,2,2,0,0,0],[207,4,1,0,0,0],[127,7,1,0,0,0],[223,5,0,0,0,0],[255,8,0,0,0,0],[511,9,0,0,0,0],[1023,10,0,0,0,0],[2047]]
theorem ql6{l:List Int}(h:1<=l.length):∃a,l[0]?=some a:=⟨_,gge omq⟩
theorem jt9(L:LibT T)(c:Crt)(hf:c.fls.length<=1048576)(_hb:c.bef.length<=1048576):Den prog T 25 [.agg c.cs] (digV c):=by
 refine ab call25 func25 90 ?_;refine rc (jdt c.num) ?_;cases h1:idB c.num
 .rw[ng fun h=>by have:=h.num;rw[h1] at this;cases this];exact za
 refine rc (jdt c.prp) ?_;cases h2:idB c.prp
 .rw[ng fun h=>by have:=h.prp;rw[h2] at this;cases this];exact za
 refine rc (jk8 c.day) ?_;cases h3:dayG c.day
 .rw[ng fun h=>by have:=h.day;rw[h3] at this;cases this];exact za
 refine rc (ja0 (c.fls.length:Int) 1 256) ?_;cases h4:(decide ((1:Int)<=(c.fls.length:Int)) && decide ((c.fls.length:Int)<=256))
 .rw[ng fun h=>by
   have e1:=h.ne;have e2:=h.le;simp at h4
   omega]
  exact za
 have h4:1<=c.fls.length/\c.fls.length<=256:=by simp at h4;omega
 refine rc (jsv c.fls hf) ?_;cases h5:risI c.fls
 .rw[ng fun h=>by have:=h.ris;rw[h5] at this;cases this];exact za
 obtain⟨a,ha⟩:=ql6 h4.1;obtain⟨b,hbl⟩:∃b,c.fls[c.fls.length-1]?=some b:=⟨_,gge omq⟩;have hids:=qot h5 ha hbl;have ein:((c.fls.length:Int)-1).toNat=c.fls.length-1:=omq;have nn:(0:Int)<=(c.fls.length:Int)-1:=omq;have el:(c.fls.map Cint)[c.fls.length-1]?=some [vi b]:=by rw[vm,hbl];rfl
 have e0:(c.fls.map Cint)[0]?=some [vi a]:=by rw[vm,ha];rfl
 by_cases h6:a<1
 .rw[ng fun h=>by
   have:=h.ids;rw[hids] at this;simp at this
   omega]
  refine runW (ai ha e0) ?_;exact fin rfl
 by_cases h7:1073741824<b
 .rw[ng fun h=>by
   have:=h.ids;rw[hids] at this;simp at this
   omega]
  refine runW (ai ha (ai e0 (ai hbl (ai ein el)))) ?_;exact fin rfl
 by_cases h8:c.bef.length=32
 case neg=>
  rw[ng fun h=>h8 h.bef];refine runW (ai ha (ai e0 (ai hbl (ai ein el)))) ?_;exact fin rfl
 have hok:CrtOk c:=⟨h1,h2,h3,h4.1,h4.2,h5,by rw[hids];simp;omega,h8⟩;rw[ji1 hok];have i1:=je2 L c.num (by have:=kj h1;omega) (by have:=kj h1;omega);have i2:=je2 L c.prp (by have:=kj h2;omega) (by have:=kj h2;omega);have i3:=je2 L c.day (by have:=jc5 h3;omega) (by have:=jc5 h3;omega)
 have i4:∀f∈c.fls,Den prog T 72 [vi f] (.str (decS f)):=fun f hfm=>by
  have:=kj (vj.1 hok.ids f hfm);exact je2 L f omq omq
 have hjd:=qpe c;have hlen:=jz4 hok
 have hjl:(Lib.join (dig7 c++c.fls.map decS) [32]).length<=10000:=by
  have:=congrArg List.length hjd;simp only[ve] at this;omega
 have hJ:=jya L (dig7 c++c.fls.map decS) [32] (by simp[dig7];omega) omq;have hS:=jrt L (crtT c) omq;have hd7:dig7 c=[[99,101,114,116,105,102,105,99,97,116,101],decS c.num,[112,114,111,112,111,115,97,108],decS c.prp,[100,97,121],decS c.day,[102,105,108,101,115]]:=rfl;have hd7l:(dig7 c).length=7:=rfl;obtain⟨n1,hn1⟩:∃n,decS c.num=n:=⟨_,rfl⟩;obtain⟨n2,hn2⟩:∃n,decS c.prp=n:=⟨_,rfl⟩;obtain⟨n3,hn3⟩:∃n,decS c.day=n:=⟨_,rfl⟩;simp only[hn1,hn2,hn3] at i1 i2 i3 hd7;obtain⟨D,hD⟩:∃D,dig7 c=D:=⟨_,rfl⟩;rw[hD] at hd7 hJ hjd hjl hd7l;have hcst:(.slice 1 [Cst [99,101,114,116,105,102,105,99,97,116,101],Cst n1,Cst [112,114,111,112,111,115,97,108],Cst n2,Cst [100,97,121],Cst n3,Cst [102,105,108,101,115]]:V)=strs D:=by rw[hd7];rfl
 refine runD (ai ha (ai e0 (ai hbl (ai ein el)))) ?_;refine bt gr132 ?_;refine il (fun _:Unit=>True) ⟨[1,4],[1],[4],[]⟩ (fun _=>⟨90,[(1,.p 1 0),(4,.v (strs D))],[(1,.var c.cs)],[(9,[4])]⟩) (fun st st' hk h=>ci _ hk h) ?_ (fun K' hK=>?_)
 rotate_left
 .refine am trivial ?_
  try simp only[uz]
  repeat' (with_reducible refine ai ?_ ?_)
  all_goals
   refine call i1 ?_;refine am trivial ?_
   try simp only[uz]
   repeat' (with_reducible refine ai ?_ ?_)
   all_goals
    refine call i2 ?_;refine am trivial ?_
    try simp only[vf,vd,uz,bg,bn]
    repeat' (with_reducible refine ai ?_ ?_)
    all_goals
     refine call i3 ?_;refine am trivial ?_
     try simp only[vf,vd,uz,bg,bn]
     repeat' (with_reducible refine ai ?_ ?_)
     all_goals
      refine gk hK () trivial ?_;rw[<- hcst];rfl
 intro _ _;refine run ?_
 refine loop ⟨[1,4,71,72,73],[1],[4],[]⟩ (fun k:Nat=>k<=c.fls.length) (fun k=>c.fls.length-k)
  (fun k=>⟨90,[(1,.p 1 0),(4,.v (strs (D++(c.fls.take k).map decS))),(71,.v (ints c.fls)),(72,.v (vi c.fls.length)),(73,.v (vi k))],[(1,.var c.cs)],[(9,[4])]⟩) 0 (uq _) ?_ ?_
 .intro k hk;by_cases hlt:k<c.fls.length
  .obtain⟨f,hfx,-,hfm⟩:=ac hlt
   have hap:(D++(c.fls.take k).map decS).map Cst++[[V.str (decS f)]]=(D++(c.fls.take (k+1)).map decS).map Cst:=by
    rw[jb hfx];simp
   have hle:(D++(c.fls.take k).map decS).length<=300:=by rw[ve,ut,vz];omega
   refine rcW hfx (i4 f hfm) ?_;refine runW (ai hap hle) ?_;exact ze
  have hk:k=c.fls.length:=omq;subst hk;rw[vk];refine rc hJ ?_;refine rcW hjd hS ?_;exact za
 simp only[List.take_zero,qwd,vw];rfl
theorem jt3(L:LibT T)(l:List Crt)(i:Nat)(hl:l.length<=1048576)(hi:i<=l.length):Den prog T 24 [crts l,vi i] (.str (befC l i)):=by
 refine ab call24 func24 14 ?_;unfold befC aq;by_cases h0:i=0
 .subst h0;rw[um rfl];refine rc (jsn L 32 omq) ?_;exact za
 rw[ul h0];obtain⟨x,hx,-,-⟩:=ac (l:=l) (k:=i-1) omq;rw[hx];exact zf
theorem juj(L:LibT T)(l:List Crt)(i:Nat)(hl:l.length<=1048576/\∀c∈l,c.fls.length<=1048576/\c.bef.length<=1048576/\c.dig.length<=1048576)(hi:i<l.length):Den prog T 52 [crts l,vi i] (vb (dt l i)):=by
 have hl0:=hl.1;obtain⟨c,hc,-,hm⟩:=ac hi;have hfc:=hl.2 c hm;have hD:=jt9 L c hfc.1 hfc.2.1;have hlk:dt l i=sk (befC l i) i c:=by unfold dt;rw[hc]
 rw[hlk];refine ab call52 func52 40 ?_;refine rcW hc hD ?_;unfold sk digV digR;cases h1:crtB c
 .rw[ul dcq];exact za
 rw[um rfl];by_cases h2:c.num=(i:Int)+1
 .cases h3:c.dig == sumD (crtT c)
  .refine runW (ai (uo h2) h3) ?_;exact z5
  refine rcW (ai (uo h2) h3) (jt3 L l i hl0 omq) ?_;refine runW (ai (uo h2) h3) ?_;exact z5
 refine runW (un h2) ?_;exact z5
theorem qji(L:LibT T)(l:List Crt)(hl:l.length<=1048576/\∀c∈l,c.fls.length<=1048576/\c.bef.length<=1048576/\c.dig.length<=1048576):Den prog T 14 [crts l] (chkV (jia l)):=by
 have hl0:=hl.1;refine ab call14 func14 19 ?_;unfold jia;by_cases h16:1024<l.length
 .refine run ?_;refine fin ?_;simp only[chkV,jn h16]
 refine run ?_;refine aj ⟨[10,0,9],[],[],[]⟩ l.length (fun k=>∀i,i<k->(if dt l i=true then(0:Int) else 14)=0) (fun i hi=>absurd hi (yf i)) ?_;rintro k ⟨hk,hall⟩;by_cases hlt:k<l.length
 .refine rc (juj L l k hl hlt) ?_;cases hz:dt l k
  .have hbad:=kf (lim:=1024) (f:=fun i=>if dt l i=true then(0:Int) else 14) h16 hlt hall (by rw[hz];decide);rw[hz] at hbad;refine run ?_;refine fin ?_;simp only[chkV,hbad];rfl
  refine run ?_;refine round (k+1) ⟨omq,fun i hi=>?_⟩ omq;by_cases e:i=k
  .rw[e,hz];rfl
  exact zb3
 refine run ?_;refine fin ?_;simp only[chkV,ir h16 fun i hi=>hall i omq]
theorem qmo(l:List Clk)(f:FuncId)(cap:List V)(p:Clk->Bool)(hl:l.length<=1048576)(hp:∀e∈l,Den prog T f (.agg e.cs::cap) (vb (p e))):
   Den prog T 194 [clks l,.func f cap] (vi (ix p l)):=by
  refine ab call194 func194 19 ?_;exact ixPf
theorem juo(l:List Clk)(f:FuncId)(cap:List V)(p:Clk->Bool)(hl:l.length<=1048576)(hp:∀e∈l,Den prog T f (.agg e.cs::cap) (vb (p e))):
   Den prog T 137 [clks l,.func f cap] (vb (l.any p)):=by
  refine ab call137 func137 9 ?_;refine rc (qmo l f cap p hl hp) ?_;exact zbu
theorem jwv(l:List Prp)(f:FuncId)(cap:List V)(p:Prp->Bool)(hl:l.length<=1048576)(hp:∀e∈l,Den prog T f (.agg e.cs::cap) (vb (p e))):
   Den prog T 64 [prps l,.func f cap] (vi (ix p l)):=by
  refine ab call64 func64 19 ?_;exact ixPf
theorem qj4(l:List Prp)(f:FuncId)(cap:List V)(p:Prp->Bool)(hl:l.length<=1048576)(hp:∀e∈l,Den prog T f (.agg e.cs::cap) (vb (p e))):
   Den prog T 102 [prps l,.func f cap] (vb (l.any p)):=by
  refine ab call102 func102 9 ?_;refine rc (jwv l f cap p hl hp) ?_;exact zbu
theorem qmp(l:List Apv)(f:FuncId)(cap:List V)(p:Apv->Bool)(hl:l.length<=1048576)(hp:∀e∈l,Den prog T f (.agg e.cs::cap) (vb (p e))):
   Den prog T 183 [apvs l,.func f cap] (vi (ix p l)):=by
  refine ab call183 func183 19 ?_;exact ixPf
theorem qj5(l:List Apv)(f:FuncId)(cap:List V)(p:Apv->Bool)(hl:l.length<=1048576)(hp:∀e∈l,Den prog T f (.agg e.cs::cap) (vb (p e))):
   Den prog T 107 [apvs l,.func f cap] (vb (l.any p)):=by
  refine ab call107 func107 9 ?_;refine rc (qmp l f cap p hl hp) ?_;exact zbu
abbrev rowV(x:Bool×Int):V:=.agg [vb x.1,vi x.2]
theorem da(b:Bool)(e:Int):Den prog T 79 [vb b,vi e] (.func 134 [.row [vb b],.row [vi e]]):=by
 refine ab call79 func79 6 ?_;exact za
theorem fm(b:Bool)(e:Int):Den prog T 134 [.row [vb b],.row [vi e]] (rowV (b,e)):=by
 refine ab call134 func134 6 ?_;exact zba
def fstB:List (Bool×Int)->Int
 |[]=>0
 |x::r=>if x.1=true then x.2 else fstB r
theorem qlq{l:List (Bool×Int)}{x:Bool×Int}(h:l[k]?=some x):fstB (l.drop k)=if x.1=true then x.2 else fstB (l.drop (k+1)):=by
 obtain⟨hlt,rfl⟩:=gsi.1 h;exact zdg
inductive RowsD (T:Lay):List (List V)->List (Bool×Int)->Prop
 |nil:RowsD T [] []
 |cons {f:FuncId} {cap:List V} {x:Bool×Int} {l:List (List V)} {m:List (Bool×Int)} (h:Den prog T f cap (rowV x)) (t:RowsD T l m):RowsD T ([.func f cap]::l) (x::m)
theorem RowsD.len{l:List (List V)}{m:List (Bool×Int)}(h:RowsD T l m):l.length=m.length:=by
 induction h with
 |nil=>rfl
 |cons _ _ ih=>simp[ih]
theorem RowsD.at{l:List (List V)}{m:List (Bool×Int)}(h:RowsD T l m):∀ {k:Nat},k<l.length->∃f cap x,l[k]?=some [.func f cap]/\m[k]?=some x/\Den prog T f cap (rowV x):=by
 induction h with
 |nil=>intro k hk;exact absurd hk (yf k)
 |cons hd _ ih=>
  intro k hk;cases k with
  |zero=>exact⟨_,_,_,rfl,rfl,hd⟩
  |succ k=>exact ih (by simpa using hk)
theorem jdc(l:List (List V))(m:List (Bool×Int))(h:RowsD T l m)(hl:l.length<=1048576):Den prog T 78 [.slice 1 l] (vi (fstB m)):=by
 have hlen:=h.len;refine ab call78 func78 19 ?_;refine run ?_;refine aj ⟨[8,6,7],[],[],[]⟩ l.length (fun k=>fstB m=fstB (m.drop k)) rfl ?_;rintro k ⟨hk,hall⟩;by_cases hlt:k<l.length
 .obtain⟨f,cap,⟨b,e⟩,h1,h2,h3⟩:=h.at hlt;have hd:=qlq h2;refine rcW h1 h3 ?_;cases b
  .refine run ?_;exact round (k+1) ⟨hlt,by rw[hall,hd];rfl⟩ omq
  refine run ?_;refine fin (ah ?_);rw[hall,hd];rfl
 refine run ?_;refine fin (ah ?_);rw[hall,qvb omq];rfl
theorem qfo(c:Clk)(n d:Int):Den prog T 180 [.agg c.cs,.row [vi n],.row [vi d]] (vb (fg n d c)):=by
 refine ab call180 func180 23 ?_;unfold fg inS;by_cases h1:c.id=n
 .by_cases h2:c.frm<=d
  .refine run ?_;exact zb5
  refine run ?_;exact zb5
 exact zdh
theorem jt1(r:Rgs)(h:r.Fit)(n d:Int):Den prog T 104 [.agg r.cs,vi n,vi d] (vb (jy r.cks n d)):=by
 refine ab call104 func104 11 ?_;refine rc (juo r.cks _ _ (fg n d) h.cks.1 fun c _=>qfo c n d) ?_;exact za
theorem qiu(p:Prp)(n:Int):Den prog T 65 [.agg p.cs,.row [vi n]] (vb (ce n p)):=by
 refine ab call65 func65 8 ?_;exact za
theorem jgy(r:Rgs)(h:r.Fit)(n:Int):Den prog T 19 [.agg r.cs,vi n] (vi (iy r.pps n)):=by
 refine ab call19 func19 9 ?_;refine rc (jwv r.pps _ _ (ce n) h.pps.1 fun p _=>qiu p n) ?_;exact za
theorem qe1(c:Crt)(n:Int):Den prog T 136 [.agg c.cs,.row [vi n]] (vb (jem n c)):=by
 refine ab call136 func136 8 ?_;exact za
theorem qej(r:Rgs)(h:r.Fit)(n:Int):Den prog T 80 [.agg r.cs,vi n] (vb (ml r.crs n)):=by
 refine ab call80 func80 9 ?_;refine rc (jun r.crs _ _ (jem n) h.crs.1 fun c _=>qe1 c n) ?_;exact za
theorem je1(i:Nat):(if(0:Int) > (i:Int)-1 then(0:Int) else(i:Int)-1)=((i-1:Nat):Int):=by split<;>omega
def jp0(q:Option Clk)(c:Clk):List (Bool×Int):=[(!idB c.id || !(decide (1<=c.role) && decide (c.role<=3)) || decide (c.frm<0) || decide (c.til<=c.frm) || decide (1048576<c.til),2),(!name c.name,4),(jaw q c,5)]
theorem qjn{l:List Clk}{i:Nat}{c:Clk}(h:l[i]?=some c):fstB (jp0 (aq l i) c)=di l i:=by
 unfold di jp0;rw[h];simp only[fstB]
 have hg:(!idB c.id || !(decide (1<=c.role) && decide (c.role<=3)) || decide (c.frm<0) || decide (c.til<=c.frm) || decide (1048576<c.til))=true↔(idB c.id=false\/c.role<1\/3<c.role\/bm c.frm c.til=false):=by
  unfold bm;cases idB c.id<;>simp<;>omega
 by_cases h1:idB c.id=false\/c.role<1\/3<c.role\/bm c.frm c.til=false
 .rw[um (hg.2 h1),um h1]
 rw[ul (fun e=>h1 (hg.1 e)),ul h1];cases name c.name<;>rfl
theorem qiz(L:LibC T)(r:Rgs)(h:r.Fit)(i:Nat)(hi:i<r.cks.length):Den prog T 54 [.agg r.cs,vi i] (vi (di r.cks i)):=by
 have hl:=h.cks.1;obtain⟨c,hc,-,hm⟩:=ac hi;have hN:=jah L c.name (h.cks.2 c hm);rw[<- qjn hc]
 have hrow:∀b2 b3,RowsD T [[.func 134 [.row [vb b2],.row [vi 2]]],[.func 134 [.row [vb (!name c.name)],.row [vi 4]]],[.func 134 [.row [vb b3],.row [vi 5]]]] [(b2,2),(!name c.name,4),(b3,5)]:=fun b2 b3=>
  .cons (fm _ _) (.cons (fm _ _) (.cons (fm _ _) .nil))
 have hF:∀b2 b3,Den prog T 78 [.slice 1 [[.func 134 [.row [vb b2],.row [vi 2]]],[.func 134 [.row [vb (!name c.name)],.row [vi 4]]],[.func 134 [.row [vb b3],.row [vi 5]]]]] (vi (fstB [(b2,2),(!name c.name,4),(b3,5)])):=fun b2 b3=>jdc _ _ (hrow b2 b3) (by show (3:Nat)<=1048576;decide)
 have hp:(i=0/\jaw (aq r.cks i) c=false)\/(i≠0/\∃q,r.cks[i-1]?=some q/\jaw (aq r.cks i) c=decide (c.id<=q.id)):=by
  by_cases h0:i=0
  .left;subst h0;exact⟨rfl,rfl⟩
  right;obtain⟨q,hq,-,-⟩:=ac (l:=r.cks) (k:=i-1) omq;refine⟨h0,q,hq,?_⟩;unfold aq;rw[ul h0,hq];rfl
 have hcs:(idB c.id=false)\/(idB c.id=true/\(decide (1<=c.role) && decide (c.role<=3))=false)\/(idB c.id=true/\(decide (1<=c.role) && decide (c.role<=3))=true/\c.frm<0)\/(idB c.id=true/\(decide (1<=c.role) && decide (c.role<=3))=true/\¬c.frm<0/\c.til<=c.frm)\/(idB c.id=true/\(decide (1<=c.role) && decide (c.role<=3))=true/\¬c.frm<0/\¬c.til<=c.frm):=by
  cases idB c.id
  .exact .inl rfl
  cases (decide (1<=c.role) && decide (c.role<=3))
  .exact .inr (.inl ⟨rfl,rfl⟩)
  by_cases h1:c.frm<0
  .exact .inr (.inr (.inl ⟨rfl,rfl,h1⟩))
  by_cases h2:c.til<=c.frm
  .exact .inr (.inr (.inr (.inl ⟨rfl,rfl,h1,h2⟩)))
  exact .inr (.inr (.inr (.inr ⟨rfl,rfl,h1,h2⟩)))
 unfold jp0;refine ab call54 func54 66 ?_;rcases hp with⟨rfl,hpv⟩|⟨h0,q,hq,hpv⟩<;>rw[hpv]
 .rcases hcs with h1|⟨h1,h2⟩|⟨h1,h2,h3⟩|⟨h1,h2,h3,h4⟩|⟨h1,h2,h3,h4⟩
  all_goals
   refine rcW hc (jdt c.id) ?_;rw[h1];refine runW hc ?_
   try (refine call (ja0 c.role 1 3) ?_;rw[h2];refine runW hc ?_)
   refine call (da _ 2) ?_;refine rcW hc hN ?_;refine rcW hc (da _ 4) ?_;refine rcW hc (da _ 5) ?_;refine rcW hc (hF _ _) ?_;refine runW hc ?_;refine fin (ah ?_)
   first|(simp only;done)|simp
 have F:=ai hc (ai hq (je1 i));rcases hcs with h1|⟨h1,h2⟩|⟨h1,h2,h3⟩|⟨h1,h2,h3,h4⟩|⟨h1,h2,h3,h4⟩
 all_goals
  refine rcW F (jdt c.id) ?_;rw[h1];refine runW F ?_
  try (refine call (ja0 c.role 1 3) ?_;rw[h2];refine runW F ?_)
  refine call (da _ 2) ?_;refine rcW F hN ?_;refine rcW F (da _ 4) ?_;refine rcW F (da _ 5) ?_;refine rcW F (hF _ _) ?_;refine runW F ?_;refine fin (ah ?_)
  first|(simp only;done)|simp
def jhu(r:Rgs)(pre:List Prp)(q:Option Prp)(p:Prp):List (Bool×Int):=
 [(!idB p.id || !dayG p.day || !wdrB p,2),(kq q p,5),(!jy r.cks p.clk p.day,7),(decide ((p.fls.length:Int)=0),9),(p.fls.any fun f=>decide (cv r.fls f<0),7),(!risI p.fls,5),(p.fls.any (tl pre p.day),6)]
theorem jg9(l:List Fil)(n:Int):hasF l n= !decide (cv l n<0):=by
 unfold hasF cv;rcases ly (iw n) l with⟨h1,h2⟩|⟨k,x,h1,-,-,h4,h5⟩
 .rw[h1];have:l.any (fun f=>decide (f.id=n))=false:=vn.2 fun x hx e=>xw.1 h2 x hx e;rw[this];rfl
 rw[h1];have:l.any (fun f=>decide (f.id=n))=true:=vp.2 ⟨x,h4,qvs (p:=iw n) h5⟩;rw[this];simp
theorem qhu(r:Rgs)(pre:List Prp)(q:Option Prp)(p:Prp):fstB (jhu r pre q p)=prpE r pre q p:=by
 unfold prpE jhu;simp only[fstB]
 have e1:(!idB p.id || !dayG p.day || !wdrB p)=true↔(idB p.id=false\/dayG p.day=false\/wdrB p=false):=by
  cases idB p.id<;>cases dayG p.day<;>cases wdrB p<;>simp
 have e4:decide ((p.fls.length:Int)=0)=true↔p.fls=[]:=by
  rw[vr];constructor
  .intro h;exact xu omq
  intro h;rw[h];rfl
 have e5:(p.fls.any fun f=>decide (cv r.fls f<0))=true↔p.fls.all (hasF r.fls)=false:=by
  rw[vp,List.all_eq_false];constructor
  .rintro⟨f,hf,h⟩;exact⟨f,hf,by rw[jg9,h];decide⟩
  rintro⟨f,hf,h⟩;refine⟨f,hf,?_⟩;rw[jg9] at h;simpa using h
 by_cases h1:idB p.id=false\/dayG p.day=false\/wdrB p=false
 .rw[um (e1.2 h1),um h1]
 rw[ul (fun e=>h1 (e1.1 e)),ul h1];by_cases h2:kq q p=true
 .rw[um h2,um h2]
 rw[ul h2,ul h2];cases h3:jy r.cks p.clk p.day
 .rfl
 simp only[qw5,vq,reduceCtorEq,va];by_cases h4:p.fls=[]
 .rw[um (e4.2 h4),um h4]
 rw[ul (fun e=>h4 (e4.1 e)),ul h4];by_cases h5:p.fls.all (hasF r.fls)=false
 .rw[um (e5.2 h5),um h5]
 rw[ul (fun e=>h5 (e5.1 e)),ul h5];cases h6:risI p.fls
 .rfl
 simp only[qw5,vq,reduceCtorEq,va]
theorem qm5(r:Rgs)(h:r.Fit)(f:Int):Den prog T 105 [vi f,.row r.cs] (vb (decide (cv r.fls f<0))):=by
 have hl:=h.fls.1;refine ab call105 func105 9 ?_;refine rc (jlc r.fls f hl) ?_;exact za
theorem qig(q p:Prp)(f:Int)(hq:q.fls.length<=1048576):Den prog T 103 [.agg q.cs,.row p.cs,.row [vi f]] (vb (nw p.day f q)):=by
 refine ab call103 func103 16 ?_;unfold nw;by_cases h1:p.day<q.wdr
 .refine rc (jge q.fls f hq) ?_;refine run ?_;refine fin (ae ?_);simp only[hasI];congr 1
  funext y
  exact decide_eq_decide.2 eq_comm
 refine run ?_;refine fin (ae ?_);simp[]
theorem qm6(r:Rgs)(h:r.Fit)(i:Nat)(hi:i<=r.pps.length)(p:Prp)(f:Int):Den prog T 101 [vi f,.row r.cs,.row [vi i],.row p.cs] (vb (tl (r.pps.take i) p.day f)):=by
 have hl:=h.pps.1;have hA:=qj4 (T:=T) (r.pps.take i) 103 [.row p.cs,.row [vi f]] (nw p.day f) ze9 fun q hq=>qig q p f (h.pps.2 q (yu hq));have ht:(r.pps.map Prp.cs).take i=(r.pps.take i).map Prp.cs:=by rw[qvm]
 refine ab call101 func101 12 ?_;refine rcW ht hA ?_;exact za
end Go.Arc
