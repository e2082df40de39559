/- A part of this claim. -/
import Derived.Test.YtagljlfkpofdnaaGreatDoorBaX
import Derived.Test.YtagljlfkpofdnaaGreatDoorWL3
import Derived.Test.YtagljlfkpofdnaaGreatDoorBaU
set_option maxRecDepth 100000
namespace Go.Arc
open Go.Ab Go.RowKit Go.Proofs
variable {T : Lay}
def manyS (l:List Sel):Bool:=l.any fun s=>decide (12<s.fls.length)
def manyC (l:List Crt):Bool:=l.any fun s=>decide (12<s.fls.length)
def fewG0 (r:Rgs):Bool:=fewO r.ofs && few r.pls && fewF r.fls && fewR r.rls && fewH r.hls && !decide (8<r.sls.length) && !decide (8<r.crs.length) && !decide (8<r.dps.length)
def fewG (r:Rgs):Bool:=fewG0 r && !manyS r.sls && !manyC r.crs
theorem den_FewG (r:Rgs) (h:r.Fit):Den Tryz.prog T 7 [.agg r.cs] (vb (fewG r)):=by
 have hs:=h.sls.1;have hc:=h.crs.1;have hd:=h.dps;refine den_of_body follows (fun args w=>Tryz.call7 args w) Tryz.func7 rfl 81 rfl ?_;unfold fewG fewG0;refine run ?_;refine call (den_FewO r.ofs h.ofs) ?_;cases e1:fewO r.ofs
 ·refine run ?_;exact fin rfl
 refine run ?_;refine call (den_Few r.pls h.pls) ?_;cases e2:few r.pls
 ·refine run ?_;exact fin rfl
 refine run ?_;refine call (den_FewF r.fls h.fls) ?_;cases e3:fewF r.fls
 ·refine run ?_;exact fin rfl
 refine run ?_;refine call (den_FewR r.rls h.rls) ?_;cases e4:fewR r.rls
 ·refine run ?_;exact fin rfl
 refine run ?_;refine call (den_FewH r.hls h.hls) ?_;cases e5:fewH r.hls
 ·refine run ?_;exact fin rfl
 by_cases g1:8<r.sls.length
 ·rw[decide_eq_true g1];refine runW (eq_true g1) ?_;exact fin rfl
 by_cases g2:8<r.crs.length
 ·rw[decide_eq_true g2,decide_eq_false g1];refine runW (And.intro (eq_false g1) (eq_true g2)) ?_;exact fin rfl
 by_cases g3:8<r.dps.length
 ·rw[decide_eq_true g3,decide_eq_false g2,decide_eq_false g1];refine runW (And.intro (eq_false g1) (And.intro (eq_false g2) (eq_true g3))) ?_;exact fin rfl
 rw[decide_eq_false g3,decide_eq_false g2,decide_eq_false g1];refine runW (And.intro (eq_false g1) (And.intro (eq_false g2) (eq_false g3))) ?_
 refine loop ⟨[1,3],[1],[],[]⟩ (fun k:Nat=>k<=r.sls.length/\∀s∈r.sls.take k,decide (12<s.fls.length)=false) (fun k=>r.sls.length-k)
  (fun k=>⟨81,[(1,.p 1 0),(3,.v (vi k))],[(1,.var r.cs)],[]⟩) 0 ⟨Nat.zero_le _,by simp⟩ ?_
 rintro k ⟨hk,hall⟩;by_cases hlt:k<r.sls.length
 ·obtain ⟨x,hx,-,hm⟩:=drop_at hlt;have hxf:=h.sls.2 x hm;by_cases hb:12<x.fls.length
  ·have hmany:manyS r.sls=true:=List.any_eq_true.2 ⟨x,hm,decide_eq_true hb⟩;rw[hmany];refine runW (And.intro hx (eq_true hb)) ?_;exact fin rfl
  ·refine runW (And.intro hx (eq_false hb)) ?_;exact round (k+1) ⟨hlt,take_snoc hall hx (decide_eq_false hb)⟩ (by omega)
 have hms:manyS r.sls=false:=List.any_eq_false.2 fun x hx=>by rw[take_all hall hlt x hx]; decide
 rw[hms];clear hall;refine run ?_
 refine loop ⟨[1,4],[1],[],[]⟩ (fun k:Nat=>k<=r.crs.length/\∀s∈r.crs.take k,decide (12<s.fls.length)=false) (fun k=>r.crs.length-k)
  (fun k=>⟨81,[(1,.p 1 0),(4,.v (vi k))],[(1,.var r.cs)],[]⟩) 0 ⟨Nat.zero_le _,by simp⟩ ?_
 rintro j ⟨hj,hall⟩;by_cases hjl:j<r.crs.length
 ·obtain ⟨x,hx,-,hm⟩:=drop_at hjl;have hxf:=(h.crs.2 x hm).1;by_cases hb:12<x.fls.length
  ·have hmany:manyC r.crs=true:=List.any_eq_true.2 ⟨x,hm,decide_eq_true hb⟩;rw[hmany];refine runW (And.intro hx (eq_true hb)) ?_;exact fin rfl
  ·refine runW (And.intro hx (eq_false hb)) ?_;exact round (j+1) ⟨hjl,take_snoc hall hx (decide_eq_false hb)⟩ (by omega)
 have hmc:manyC r.crs=false:=List.any_eq_false.2 fun x hx=>by rw[take_all hall hjl x hx]; decide
 rw[hmc];refine run ?_;exact fin rfl
end Go.Arc
set_option maxRecDepth 100000
namespace Go.Arc
open Go.Ab Go.RowKit Go.Proofs
variable {T : Lay}
abbrev vu (n:Int):V:= .val (.int .u64 n)
abbrev wds (l:List Int):List V:=l.map vu
abbrev nus (l:List Int):List V:=l.map vi
theorem wds_drop {l:List Int} {k:Nat} (h:k<l.length):(wds l).drop k=vu (atU l k)::(wds l).drop (k+1):=by
 have h':k<(wds l).length:=by rw[List.length_map]; exact h
 rw[List.drop_eq_getElem_cons h',List.getElem_map,atU,List.getD_eq_getElem?_getD,List.getElem?_eq_getElem h];rfl
theorem nus_drop {l:List Int} {k:Nat} (h:k<l.length):(nus l).drop k=vi (atU l k)::(nus l).drop (k+1):=by
 have h':k<(nus l).length:=by rw[List.length_map]; exact h
 rw[List.drop_eq_getElem_cons h',List.getElem_map,atU,List.getD_eq_getElem?_getD,List.getElem?_eq_getElem h];rfl
theorem wds_set {l:List Int} {k:Nat} (h:k<l.length) (x:Int):(wds l).take k++[vu x]++(wds l).drop (k+1)=wds (l.set k x):=by
 have e:l.set k x=l.take k++x::l.drop (k+1):=by rw[List.set_eq_take_append_cons_drop,if_pos h]
 rw[e,List.append_assoc];simp only[wds,List.map_append,List.map_cons,List.map_take,List.map_drop,List.singleton_append]
theorem takeN_self:∀cs:List V,takeN cs.length cs=some cs
 | []=>rfl
 | c::cs=>by rw[List.length_cons,takeN,takeN_self cs]; rfl
theorem takeN_len {n:Nat} {cs:List V} (h:cs.length=n):takeN n cs=some cs:=by rw[<- h]; exact takeN_self cs
theorem takeN_app:∀(cs ds:List V),takeN cs.length (cs++ds)=some cs
 | [],_=>rfl
 | c::cs,ds=>by rw[List.length_cons,List.cons_append,takeN,takeN_app cs]; rfl
theorem rot_in:∀i:Nat,i<25->0<=atU rotL i/\atU rotL i<=63:=by decide
theorem and63:∀n:Int,0<=n->n<=63->bitF .and .u64 n 63=n:=by
 intro n h0 h1;have:∀m:Fin 64,bitF .and .u64 ((m.val:Nat):Int) 63=((m.val:Nat):Int):=by decide
 have h2:=this ⟨n.toNat,by omega⟩;simp only[Int.toNat_of_nonneg h0] at h2;exact h2
theorem wrapU:∀n:Int,0<=n->n<=64->IntKind.u64.wrap n=n:=fun n h0 h1=>IntWalk.u64_in n ⟨h0,by omega⟩
theorem den_RotL (x n:Int) (h0:0<=n) (h1:n<=63):Den Tryz.prog T 296 [vu x,vi n] (vu (rotU x n)):=by
 have a:=and63 n h0 h1;have b:=wrapU n h0 (by omega);have c:=wrapU (64-n) (by omega) (by omega);refine den_of_body follows (fun args w=>Tryz.call296 args w) Tryz.func296 rfl 17 rfl ?_;refine runW (And.intro a (And.intro b c)) ?_;exact fin rfl
theorem den_rotations:Den Tryz.prog T 243 [] (.agg (nus rotL)):=by
 refine den_of_body follows (fun args w=>Tryz.call243 args w) Tryz.func243 rfl 2 rfl ?_;refine run ?_;exact finC1 (.refl _)
theorem den_constants:Den Tryz.prog T 244 [] (.agg (wds conL)):=by
 refine den_of_body follows (fun args w=>Tryz.call244 args w) Tryz.func244 rfl 2 rfl ?_;refine run ?_;exact finC1 (.refl _)
theorem finCW {P:Program} {x t j n:Nat} {cs:List V} {nm:Option Nat} {kk:Option (TypeId×Nat×Nat)} {st:St} [h0:TAgg P t n] (h1:Ab.look x st.t=some (.p j 0)) (h2:Ab.look j st.h=some (.var cs nm kk)) (h3:cs.length=n):fpost P [.cell x t] (.agg cs) .rt st:=by
 refine .inl ⟨.agg cs,resS1 ?_,.refl _⟩;have e:resV P st (.cell x t)=(behind st.h (Ab.look x st.t)).bind (ldV P t):=rfl;rw[e,h1];simp only[behind,memV,h2,List.drop_zero,Option.bind_some,ldV,h0.agg,h0.size,takeN_len h3,Option.map_some]
theorem zdrop:(wds zero25).drop 25=[]/\zero25.length=25:=⟨rfl,rfl⟩
theorem wds_drop25 {l:List Int} (h:l.length=25):(wds l).drop 25=[]:=List.drop_eq_nil_of_le (by rw[List.length_map]; omega)
theorem tk25 {l:List Int} (h:l.length=25):takeN 25 (wds l)=some (wds l):=takeN_len (by rw[List.length_map]; exact h)
theorem ld_word {l:List Int} (h:0<l.length):ldV Tryz.prog 158 (wds l)=some (vu (atU l 0)):=by
 have:=wds_drop h;rw[List.drop_zero] at this;rw[this,ld_cell]
theorem wds_set0 {l:List Int} (h:0<l.length) (x:Int):vu x::(wds l).drop 1=wds (l.set 0 x):=wds_set h x
def bK (a:List Int) (k:Nat):List Int:=layF id posF (fun i=>rotU (wordF a i) (atU rotL i)) k zero25
def oK (b:List Int) (k:Nat):List Int:=layF id id (chiF b) k zero25
theorem bK_succ (a:List Int) (k:Nat):bK a (k+1)=(bK a k).set (posF k) (rotU (wordF a k) (atU rotL k)):=layF_succ _ _ _ _ _
theorem oK_succ (b:List Int) (k:Nat):oK b (k+1)=(oK b k).set k (chiF b k):=layF_succ _ _ _ _ _
theorem bK_len (a:List Int) (k:Nat):(bK a k).length=25:=layF_len _ _ _ _ _
theorem oK_len (b:List Int) (k:Nat):(oK b k).length=25:=layF_len _ _ _ _ _
theorem posF_lt:∀i:Nat,i<25->posF i<25:=by decide
theorem bF_len (a:List Int):(bF a).length=25:=bK_len a 25
theorem outF_len (b:List Int):(outF b).length=25:=oK_len b 25
set_option maxHeartbeats 8000000 in
theorem den_round (a:List Int) (c:Int) (ha:a.length=25):Den Tryz.prog T 245 [.agg (wds a),.agg (nus rotL),vu c] (.agg (wds (roundF a c))):=by
 have ta:=tk25 ha;refine den_of_body follows (fun args w=>Tryz.call245 args w) Tryz.func245 rfl 118 rfl ?_;refine runW ta ?_
 refine loop ⟨[2,3,4,6,7,18,19],[3,4,6,7],[],[]⟩ (fun k:Nat=>k<=25) (fun k=>25-k)
  (fun k=>⟨118,[(2,.v (vu c)),(3,.p 3 0),(4,.p 4 0),(6,.p 6 0),(7,.p 7 0),(18,.v (.agg (wds a))),(19,.v (vi k))],[(3,.var (wds a)),(4,.var (nus rotL)),(6,.var (wds zero25)),(7,.var (wds (sumsF a k)))],[]⟩) 0 (Nat.zero_le _) ?_
 intro k hk;by_cases hlt:k<25
 ·have hs:=sumsF_len a k;have m5:((k:Nat):Int).tmod 5=((k % 5:Nat):Int):=tmod_nat k 5;have d1:=wds_drop (l:=a) (k:=k) (by omega);have d2:=wds_drop (l:=sumsF a k) (k:=k % 5) (by omega)
  have s1:(wds (sumsF a k)).take (k % 5)++[vu (bitF .xor .u64 (atU (sumsF a k) (k % 5)) (atU a k))]++(wds (sumsF a k)).drop (k % 5+1)=wds (sumsF a (k+1)):=by
   rw[sumsF_succ];exact wds_set (by omega) _
  refine runW (And.intro m5 (And.intro d1 (And.intro d2 s1))) ?_;exact round (k+1) (by omega) (by omega)
 have hk:k=25:=by omega
 subst hk;have hw:∀i,wordF a i=xorU (xorU (atU a i) (atU (sumsF a 25) ((i+4) % 5))) (rotU (atU (sumsF a 25) ((i+1) % 5)) 1):=fun i=>rfl;have hSl:=sumsF_len a 25;obtain ⟨S,hS⟩:∃S,sumsF a 25=S:=⟨_,rfl⟩;simp only[hS] at hw hSl ⊢;refine run ?_
 refine loop ⟨[2,3,4,6,7,10,31],[3,4,6,7,10],[],[]⟩ (fun y:Nat=>y<=5) (fun y=>5-y)
  (fun y=>⟨118,[(2,.v (vu c)),(3,.p 3 0),(4,.p 4 0),(6,.p 6 0),(7,.p 7 0),(10,.p 10 0),(31,.v (vi y))],[(3,.var (wds a)),(4,.var (nus rotL)),(6,.var (wds zero25)),(7,.var (wds S)),(10,.var (wds (bK a (5*y))))],[]⟩) 0 (Nat.zero_le _) ?_
 intro y hy;by_cases hylt:y<5
 ·refine run ?_
  refine loop ⟨[2,3,4,6,7,10,31,11,34],[3,4,6,7,10],[],[]⟩ (fun x:Nat=>x<=5) (fun x=>5-x)
   (fun x=>⟨118,[(2,.v (vu c)),(3,.p 3 0),(4,.p 4 0),(6,.p 6 0),(7,.p 7 0),(10,.p 10 0),(31,.v (vi y)),(11,.v (vi y)),(34,.v (vi x))],[(3,.var (wds a)),(4,.var (nus rotL)),(6,.var (wds zero25)),(7,.var (wds S)),(10,.var (wds (bK a (5*y+x))))],[]⟩) 0 (Nat.zero_le _) ?_
  intro x hx;by_cases hxlt:x<5
  ·have hB:=bK_len a (5*y+x);have hj:=posF_lt (5*y+x) (by omega);have f1:(x:Int)+5*(y:Int)=((5*y+x:Nat):Int):=by omega
   have f2:((x:Int)+4).tmod 5=(((5*y+x+4) % 5:Nat):Int):=by
    rw[show (5*y+x+4) % 5=(x+4) % 5 by omega];exact tmod_nat (x+4) 5
   have f3:((x:Int)+1).tmod 5=(((5*y+x+1) % 5:Nat):Int):=by
    rw[show (5*y+x+1) % 5=(x+1) % 5 by omega];exact tmod_nat (x+1) 5
   have f4:(2*(x:Int)+3*(y:Int)).tmod 5=(((2*x+3*y) % 5:Nat):Int):=tmod_nat (2*x+3*y) 5
   have f5:(y:Int)+5*(((2*x+3*y) % 5:Nat):Int)=((posF (5*y+x):Nat):Int):=by
    have h1:(5*y+x) / 5=y:=by omega
    have h2:(5*y+x) % 5=x:=by omega
    unfold posF;rw[h1,h2];omega
   have d1:=wds_drop (l:=a) (k:=5*y+x) (by omega);have d2:=wds_drop (l:=S) (k:=(5*y+x+4) % 5) (by omega);have d3:=wds_drop (l:=S) (k:=(5*y+x+1) % 5) (by omega);have d4:=nus_drop (l:=rotL) (k:=5*y+x) (by show _<25; omega);have hr:=rot_in (5*y+x) (by omega)
   have s1:(wds (bK a (5*y+x))).take (posF (5*y+x))++[vu (rotU (bitF .xor .u64 (bitF .xor .u64 (atU a (5*y+x)) (atU S ((5*y+x+4) % 5))) (rotU (atU S ((5*y+x+1) % 5)) 1)) (atU rotL (5*y+x)))]++(wds (bK a (5*y+x))).drop (posF (5*y+x)+1)=wds (bK a (5*y+x+1)):=by
    rw[bK_succ,hw];exact wds_set (by omega) _
   refine runW (And.intro f1 (And.intro f2 (And.intro f3 (And.intro d1 (And.intro d2 d3))))) ?_;refine call (den_RotL (atU S ((5*y+x+1) % 5)) 1 (by decide) (by decide)) ?_;refine runW (And.intro f4 (And.intro f5 d4)) ?_;refine call (den_RotL _ _ hr.1 hr.2) ?_;refine runW s1 ?_;exact round (x+1) (by omega) (by omega)
  ·have hx5:x=5:=by omega
   subst hx5;refine run ?_;exact round (y+1) (by omega) (by omega)
 have hy5:y=5:=by omega
 subst hy5;have hBl:=bF_len a;have hBe:bK a (5*5)=bF a:=rfl;have hRe:roundF a c=(outF (bF a)).set 0 (bitF .xor .u64 (atU (outF (bF a)) 0) c):=rfl;have hRl:=roundF_len a c;obtain ⟨B,hB⟩:∃B,bF a=B:=⟨_,rfl⟩;simp only[hBe,hB] at hBl hRe ⊢;refine run ?_
 refine loop ⟨[2,6,10,15,74],[6,10,15],[],[]⟩ (fun y:Nat=>y<=5) (fun y=>5-y)
  (fun y=>⟨118,[(2,.v (vu c)),(6,.p 6 0),(10,.p 10 0),(15,.p 15 0),(74,.v (vi y))],[(6,.var (wds zero25)),(10,.var (wds B)),(15,.var (wds (oK B (5*y))))],[]⟩) 0 (Nat.zero_le _) ?_
 intro y hy;by_cases hylt:y<5
 ·refine run ?_
  refine loop ⟨[2,6,10,15,74,16,77],[6,10,15],[],[]⟩ (fun x:Nat=>x<=5) (fun x=>5-x)
   (fun x=>⟨118,[(2,.v (vu c)),(6,.p 6 0),(10,.p 10 0),(15,.p 15 0),(74,.v (vi y)),(16,.v (vi y)),(77,.v (vi x))],[(6,.var (wds zero25)),(10,.var (wds B)),(15,.var (wds (oK B (5*y+x))))],[]⟩) 0 (Nat.zero_le _) ?_
  intro x hx;by_cases hxlt:x<5
  ·have hO:=oK_len B (5*y+x);have f1:(x:Int)+5*(y:Int)=((5*y+x:Nat):Int):=by omega
   have f2:((x:Int)+1).tmod 5=(((x+1) % 5:Nat):Int):=tmod_nat (x+1) 5;have f3:((x:Int)+2).tmod 5=(((x+2) % 5:Nat):Int):=tmod_nat (x+2) 5;have f4:(((x+1) % 5:Nat):Int)+5*(y:Int)=(((x+1) % 5+5*y:Nat):Int):=by omega
   have f5:(((x+2) % 5:Nat):Int)+5*(y:Int)=(((x+2) % 5+5*y:Nat):Int):=by omega
   have d1:=wds_drop (l:=B) (k:=5*y+x) (by omega);have d2:=wds_drop (l:=B) (k:=(x+1) % 5+5*y) (by omega);have d3:=wds_drop (l:=B) (k:=(x+2) % 5+5*y) (by omega)
   have s1:(wds (oK B (5*y+x))).take (5*y+x)++[vu (bitF .xor .u64 (atU B (5*y+x)) (bitF .and .u64 (notF .u64 (atU B ((x+1) % 5+5*y))) (atU B ((x+2) % 5+5*y))))]++(wds (oK B (5*y+x))).drop (5*y+x+1)=wds (oK B (5*y+x+1)):=by
    have h1:(5*y+x) / 5=y:=by omega
    have h2:(5*y+x) % 5=x:=by omega
    rw[oK_succ];unfold chiF;rw[h1,h2];exact wds_set (by omega) _
   refine runW (And.intro f1 (And.intro f2 (And.intro f3 (And.intro f4 (And.intro f5 (And.intro d1 (And.intro d2 (And.intro d3 s1)))))))) ?_;exact round (x+1) (by omega) (by omega)
  ·have hx5:x=5:=by omega
   subst hx5;refine run ?_;exact round (y+1) (by omega) (by omega)
 have hy5:y=5:=by omega
 subst hy5;have hOl:=outF_len B;have hOe:oK B (5*5)=outF B:=rfl;obtain ⟨O,hO⟩:∃O,outF B=O:=⟨_,rfl⟩;simp only[hOe,hO] at hOl hRe ⊢;have e0:=ld_word (l:=O) (by omega);have e1:=wds_set0 (l:=O) (by omega) (bitF .xor .u64 (atU O 0) c);rw[<- hRe] at e1;obtain ⟨R,hR⟩:∃R,roundF a c=R:=⟨_,rfl⟩;simp only[hR] at hRl e1 ⊢;refine runW (And.intro e0 (And.intro e1 (And.intro (tk25 hRl) (And.intro hRl zdrop)))) ?_;refine finCW (P:=Tryz.prog) (x:=6) (t:=159) (j:=6) (cs:=wds R) (nm:=none) (kk:=none) ?_ ?_ ?_
 ·rfl
 ·rfl
 ·rw[List.length_map]; exact hRl
def pK (a:List Int) (k:Nat):List Int:=(conL.take k).foldl roundF a
theorem pK_len {a:List Int} (h:a.length=25) (k:Nat):(pK a k).length=25:=foldR_len _ a h
theorem con_at:∀k:Nat,k<24->conL.take (k+1)=conL.take k++[atU conL k]:=by decide
theorem pK_succ (a:List Int) {k:Nat} (h:k<24):pK a (k+1)=roundF (pK a k) (atU conL k):=by
 unfold pK;rw[con_at k h,List.foldl_append,List.foldl_cons,List.foldl_nil]
theorem pK_all (a:List Int):pK a 24=permF a:=by rw[permF]; rfl
set_option maxHeartbeats 4000000 in
theorem den_Permute (a:List Int) (ha:a.length=25):Den Tryz.prog T 163 [.agg (wds a)] (.agg (wds (permF a))):=by
 have tr:takeN 25 (nus rotL)=some (nus rotL):=rfl;have hrl:rotL.length=25:=rfl;refine den_of_body follows (fun args w=>Tryz.call163 args w) Tryz.func163 rfl 17 rfl ?_;refine run ?_;refine call den_rotations ?_;refine runW hrl ?_;refine call den_constants ?_;refine run ?_
 refine loop ⟨[1,2,3,7,8],[1,2,3],[],[]⟩ (fun k:Nat=>k<=24) (fun k=>24-k)
  (fun k=>⟨17,[(1,.p 1 0),(2,.p 2 0),(3,.p 3 0),(7,.v (.agg (wds conL))),(8,.v (vi k))],[(1,.var (wds (pK a k))),(2,.var (wds zero25)),(3,.var (nus rotL))],[]⟩) 0 (Nat.zero_le _) ?_
 intro k hk;have hl:=pK_len ha k;by_cases hlt:k<24
 ·have hl2:=pK_len ha (k+1);have hc:=wds_drop (l:=conL) (k:=k) hlt;have hR:=den_round (T:=T) (pK a k) (atU conL k) hl;rw[<- pK_succ a hlt] at hR;refine runW (And.intro hc (And.intro (tk25 hl) tr)) ?_;refine call hR ?_;refine runW (And.intro hl2 (wds_drop25 hl)) ?_;exact round (k+1) hlt (by omega)
 ·have hk:k=24:=by omega
  subst hk;simp only[pK_all] at hl ⊢;refine runW (And.intro (tk25 hl) (And.intro hl zdrop)) ?_;refine finCW (P:=Tryz.prog) (x:=2) (t:=159) (j:=2) (cs:=wds (permF a)) (nm:=none) (kk:=none) ?_ ?_ ?_
  ·rfl
  ·rfl
  ·rw[List.length_map]; exact hl
theorem byte64 (b:UInt8):IntKind.u64.wrap (b.toNat:Int)=(b.toNat:Int):=IntWalk.u64_in _ ⟨by omega,by have:=UInt8.toNat_lt b; omega⟩
set_option maxHeartbeats 4000000 in
theorem den_block (s:List Int) (d:Str) (hs:s.length=25) (hd:d.length=136):Den Tryz.prog T 116 [.agg (wds s),.str d] (.agg (wds (blockF s d))):=by
 have hfin:permF (eatF s d 136)=blockF s d:=by rw[blockF]
 refine den_of_body follows (fun args w=>Tryz.call116 args w) Tryz.func116 rfl 28 rfl ?_;refine run ?_
 refine loop ⟨[1,2,4,7,8],[2,4],[],[]⟩ (fun k:Nat=>k<=136) (fun k=>136-k)
  (fun k=>⟨28,[(1,.v (.str d)),(2,.p 2 0),(4,.p 4 0),(7,.v (vi d.length)),(8,.v (vi k))],[(2,.var (wds (eatF s d k))),(4,.var (wds zero25))],[]⟩) 0 (Nat.zero_le _) ?_
 intro k hk;have hl:(eatF s d k).length=25:=(eatF_len s d k).trans hs;by_cases hlt:k<136
 ·obtain ⟨b,hb,-,-⟩:=drop_at (l:=d) (k:=k) (by omega);have hg:d.getD k 0=b:=by rw[List.getD_eq_getElem?_getD,hb]; rfl
  have q1:((k:Nat):Int).tdiv 8=((k / 8:Nat):Int):=tdiv_nat k 8;have q2:((k:Nat):Int).tmod 8=((k % 8:Nat):Int):=tmod_nat k 8;have d1:=wds_drop (l:=eatF s d k) (k:=k / 8) (by omega)
  have s1:(wds (eatF s d k)).take (k / 8)++[vu (bitF .xor .u64 (atU (eatF s d k) (k / 8)) (shF true .u64 (b.toNat:Int) (8*((k % 8:Nat):Int))))]++(wds (eatF s d k)).drop (k / 8+1)=wds (eatF s d (k+1)):=by
   rw[eatF_succ,hg];exact wds_set (by omega) _
  refine runW (And.intro hb (And.intro q1 (And.intro q2 (And.intro d1 (And.intro s1 (byte64 b)))))) ?_;exact round (k+1) hlt (by omega)
 ·have hk:k=136:=by omega
  subst hk;have hP:=den_Permute (T:=T) (eatF s d 136) hl;rw[hfin] at hP;have hl2:(blockF s d).length=25:=blockF_len s d hs;refine runW (tk25 hl) ?_;refine call hP ?_;refine runW (And.intro hl2 zdrop) ?_;refine finCW (P:=Tryz.prog) (x:=4) (t:=159) (j:=4) (cs:=wds (blockF s d)) (nm:=none) (kk:=none) ?_ ?_ ?_
  ·rfl
  ·rfl
  ·rw[List.length_map]; exact hl2
end Go.Arc
set_option maxRecDepth 100000
namespace Go.Arc
open Go.Ab Go.RowKit Go.Proofs
variable {T : Lay}
def hshC (s:List Int) (r:Str) (n:Int):List V:=wds s++[.str r,vi n]
def NewP (ro:Option Blk) (r:V):Prop:=∃b,ro=some (.var (hshC zero25 [] 0) (some b))/\r= .val (.pointer (some ⟨b,0,none⟩))
theorem opv_nilp (σ:Sto):opv σ (.const (.pointer none))=some (.v (.val (.pointer none))):=rfl
theorem denU_New:DenU Tryz.prog T 69 [] NewP:=by
 refine denU_of_body follows (fun args w=>Tryz.call69 args w) Tryz.func69 rfl 3 rfl ?_;refine aw_ptr ?_;refine runW (fun σ=>opv_nilp σ) ?_;refine ⟨0,2,0,rfl,fun b=> ?_⟩;exact ⟨_,_,resS1 rfl,.refl _,.inr ⟨2,_,b,rfl,rfl,b,rfl,rfl⟩⟩
structure HshF (s:List Int):Prop where
 d25:∀r n,(hshC s r n).drop 25=[.str r,vi n]
 d26:∀r n,(hshC s r n).drop 26=[vi n]
 d27:∀r n,(hshC s r n).drop 27=[]
 s25:∀r n q,(hshC s r n).take 25++[.str q]++[vi n]=hshC s q n
 s26:∀r n q,(hshC s r n).take 26++[vi q]=hshC s r q
 t25:∀r n,takeN 25 (hshC s r n)=some (wds s)
 ln:∀r n,(hshC s r n).length=27
theorem hsh_f {s:List Int} (h:s.length=25):HshF s:=by
 have hl:(wds s).length=25:=by rw[List.length_map]; exact h
 refine ⟨fun r n=> ?_,fun r n=> ?_,fun r n=> ?_,fun r n q=> ?_,fun r n q=> ?_,fun r n=> ?_,fun r n=> ?_⟩ <;> unfold hshC
 ·rw[<- hl,List.drop_left]
 ·rw[show 26=(wds s).length+1 by omega,List.drop_length_add_append]; rfl
 ·rw[show 27=(wds s).length+2 by omega,List.drop_length_add_append]; rfl
 ·rw[<- hl,List.take_left,List.append_assoc]; rfl
 ·rw[show 26=(wds s).length+1 by omega,List.take_length_add_append,List.append_assoc]; rfl
 ·have:=takeN_app (wds s) [.str r,vi n];rw[hl] at this;exact this
 ·rw[List.length_append,hl]; rfl
theorem absF_short {n:Nat} {s:List Int} {d:Str} (h:d.length<136):absF n s d=(s,d):=by
 cases n with
 | zero=>rfl
 | succ n=>rw[absF,if_neg (by omega)]
theorem absF_step {n:Nat} {s:List Int} {d:Str} (hn:d.length<=n) (h:136<=d.length):∃k,(d.drop 136).length<=k/\absF n s d=absF k (blockF s (d.take 136)) (d.drop 136):=by
 cases n with
 | zero=>omega
 | succ n=>exact ⟨n,by rw[List.length_drop]; omega,by rw[absF,if_pos h]⟩
abbrev gr131c:List Gent:=⟨bz 14 0,14,.one 0 0⟩::⟨bz 14 1,13,.one 1 0⟩::⟨bz 14 3,12,.one 5 0⟩::⟨bz 14 35,11,.alt [(2,1),(6,0)]⟩::⟨bz 14 99,10,.one 7 2⟩::⟨bz 14 39,10,.one 3 0⟩::⟨bz 14 47,9,.alt [(4,2),(6,1)]⟩::⟨bz 14 227,9,.alt [(2,2),(8,3)]⟩::⟨bz 14 111,8,.one 7 5⟩::⟨bz 14 63,8,.alt [(6,2)]⟩::⟨bz 14 231,8,.one 3 3⟩::⟨bz 14 483,8,.alt [(2,1),(9,3)]⟩::⟨bz 14 127,7,.one 7 3⟩::⟨bz 14 487,7,.one 3 4⟩::⟨bz 14 239,7,.alt [(4,1),(8,3)]⟩::⟨bz 14 995,7,.alt [(2,1)]⟩::⟨bz 14 255,6,.alt [(8,2)]⟩::⟨bz 14 999,6,.one 3 2⟩::⟨bz 14 495,6,.alt [(4,0),(9,1)]⟩::⟨bz 14 511,5,.alt [(9,1)]⟩::⟨bz 14 1007,5,.alt [(4,0)]⟩::⟨bz 14 1023,4,.alt [(10,0)]⟩::⟨bz 14 2047,3,.alt [(11,0)]⟩::⟨bz 14 4095,2,.one 12 0⟩::⟨bz 14 8191,1,.alt [(13,0)]⟩::⟨bz 14 16383,0,.fin⟩::[]
set_option maxHeartbeats 4000000 in
theorem denS_Write (s0:List Int) (d:Str) (hs0:s0.length=25) (hd:d.length<=1073741824):
  DenS Tryz.prog T 70 [(999000,.var (hshC s0 [] 0))] [] [.p 999000 0,.v (strs [d])] [(999000,.var (hshC (absF d.length s0 d).1 (absF d.length s0 d).2 (d.length:Int)))] [] (.v (vi d.length)):=by
 have H:=hsh_f hs0;refine denS_of_body follows (fun args w=>Tryz.call70 args w) Tryz.func70 rfl 62 rfl rfl ?_;obtain ⟨⟨sE,rE⟩,hE⟩:∃p,absF d.length s0 d=p:=⟨_,rfl⟩;have hEl:sE.length=25:=by have:=absF_len1 d.length s0 d hs0; rw[hE] at this; exact this
 rw[hE];refine run ?_
 refine loop ⟨[0,7,8,9],[999000],[],[]⟩ (fun _:Bool=>True) (fun b=>if b=true then 0 else 1)
  (fun b=>⟨62,[(0,.p 999000 0),(7,.v (strs [d])),(8,.v (vi 1)),(9,.v (vi (if b=true then 1 else 0)))],[(999000,.var (if b=true then hshC sE rE (d.length:Int) else hshC s0 [] 0))],[]⟩) false trivial ?_
 rintro b -;cases b with
 | true=>
  have HE:=hsh_f hEl;simp only[if_true];refine runW HE.d26 ?_;exact finS1 (.v (.refl _))
 | false=>
  simp only[Bool.false_eq_true,if_false];have z0:(0:Int)+(d.length:Int)=(d.length:Int):=Int.zero_add _;refine runW (And.intro H.d25 (And.intro H.d26 (And.intro H.d27 (And.intro H.s25 (And.intro H.s26 (And.intro H.ln z0)))))) ?_
  refine loop ⟨[0,7,8,9],[999000],[],[]⟩ (fun y:List Int×Str=>y.1.length=25/\y.2.length<=d.length/\∃n,y.2.length<=n/\absF n y.1 y.2=(sE,rE)) (fun y=>y.2.length)
   (fun y=>⟨62,[(0,.p 999000 0),(7,.v (strs [d])),(8,.v (vi 1)),(9,.v (vi 0))],[(999000,.var (hshC y.1 y.2 (d.length:Int)))],[]⟩) (s0,d) ⟨hs0,Nat.le_refl _,_,Nat.le_refl _,hE⟩ ?_
  rintro ⟨s,r⟩ ⟨hs,hr,n,hn,hA⟩;simp only at hs hr hn hA;have H:=hsh_f hs;by_cases h136:136<=r.length
  ·obtain ⟨k,hk,hst⟩:=absF_step (s:=s) hn h136;have htl:(r.take 136).length=136:=by rw[List.length_take]; omega
   have hB:=den_block (T:=T) s (r.take 136) hs htl;have hBl:=blockF_len s (r.take 136) hs;have hta:r.take r.length=r:=List.take_length;have H2:=hsh_f hBl;have hmk:∀r1 n1,wds (blockF s (r.take 136))++[V.str r1,vi n1]=hshC (blockF s (r.take 136)) r1 n1:=fun _ _=>rfl;refine runD (And.intro H.d25 (And.intro H.d26 H.ln)) ?_;refine aw_graph gr131c ?_;refine graph_to (fun _:Unit=>True) ⟨[0,7,8,9],[999000],[],[]⟩ (fun _=>⟨62,[(0,.p 999000 0),(7,.v (strs [d])),(8,.v (vi 1)),(9,.v (vi 0))],[(999000,.var (hshC (blockF s (r.take 136)) r (d.length:Int)))],[]⟩) (fun st st' hk h=>aw_keep _ hk h) ?_ (fun K' hK=> ?_)
   rotate_left
   ·refine runGraph (And.intro H.d25 (And.intro H.d26 H.t25)) ?_
    try simp only[and_self,and_self_left,and_self_right,and_e1,and_e2]
    repeat' (with_reducible refine And.intro ?_ ?_)
    all_goals
     refine call hB ?_;refine runGraph (And.intro hBl (And.intro H.d25 (And.intro hmk H.ln))) ?_
     try simp only[and_self,and_self_left,and_self_right,and_e1,and_e2]
     repeat' (with_reducible refine And.intro ?_ ?_)
     all_goals exact leafK hK () trivial
   intro _ _;refine runW (And.intro H2.d25 (And.intro H2.d26 (And.intro H2.s25 (And.intro H2.ln hta)))) ?_;exact round (blockF s (r.take 136),r.drop 136) ⟨hBl,by simp only[List.length_drop]; omega,k,hk,by rw[<- hst]; exact hA⟩ (by simp only[List.length_drop]; omega)
  ·rw[absF_short (by omega)] at hA;cases hA;refine runW (And.intro H.d25 H.d26) ?_;refine round true trivial (by decide) ?_;simp only[if_true];rfl
abbrev gr131a:List Gent:=⟨bz 15 0,15,.one 0 0⟩::⟨bz 15 1,14,.one 5 0⟩::⟨bz 15 33,13,.alt [(1,0),(6,1)]⟩::⟨bz 15 35,12,.one 2 1⟩::⟨bz 15 97,12,.one 7 1⟩::⟨bz 15 39,11,.alt [(3,3),(6,1)]⟩::⟨bz 15 225,11,.alt [(1,1),(8,3)]⟩::⟨bz 15 103,10,.one 7 6⟩::⟨bz 15 227,10,.one 2 5⟩::⟨bz 15 47,10,.alt [(4,2),(6,1)]⟩::⟨bz 15 481,10,.alt [(1,2),(9,4)]⟩::⟨bz 15 111,9,.one 7 6⟩::⟨bz 15 63,9,.alt [(6,4)]⟩::⟨bz 15 483,9,.one 2 6⟩::⟨bz 15 231,9,.alt [(3,3),(8,5)]⟩::⟨bz 15 993,9,.alt [(1,0),(10,3)]⟩::⟨bz 15 995,8,.one 2 7⟩::⟨bz 15 127,8,.one 7 4⟩::⟨bz 15 239,8,.alt [(4,3),(8,2)]⟩::⟨bz 15 2017,8,.alt [(1,3),(11,5)]⟩::⟨bz 15 487,8,.alt [(3,0),(9,3)]⟩::⟨bz 15 495,7,.alt [(4,5),(9,7)]⟩::⟨bz 15 255,7,.alt [(8,4)]⟩::⟨bz 15 2019,7,.one 2 2⟩::⟨bz 15 999,7,.alt [(3,4),(10,1)]⟩::⟨bz 15 4065,7,.alt [(1,2)]⟩::⟨bz 15 2023,6,.alt [(3,5),(11,4)]⟩::⟨bz 15 511,6,.alt [(9,2)]⟩::⟨bz 15 4067,6,.one 2 2⟩::⟨bz 15 1007,6,.alt [(4,0),(10,2)]⟩::⟨bz 15 1023,5,.alt [(10,2)]⟩::⟨bz 15 4071,5,.alt [(3,2)]⟩::⟨bz 15 2031,5,.alt [(4,0),(11,1)]⟩::⟨bz 15 2047,4,.alt [(11,1)]⟩::⟨bz 15 4079,4,.alt [(4,0)]⟩::⟨bz 15 4095,3,.alt [(12,0)]⟩::⟨bz 15 8191,2,.alt [(13,0)]⟩::⟨bz 15 16383,1,.alt [(14,0)]⟩::⟨bz 15 32767,0,.fin⟩::[]
abbrev gr131b:List Gent:=⟨bz 9 0,9,.one 0 0⟩::⟨bz 9 1,8,.one 4 0⟩::⟨bz 9 17,7,.alt [(1,1),(5,2),(7,0)]⟩::⟨bz 9 145,6,.alt [(1,5),(5,4)]⟩::⟨bz 9 19,6,.one 2 2⟩::⟨bz 9 49,6,.alt [(1,0),(7,2)]⟩::⟨bz 9 51,5,.one 2 5⟩::⟨bz 9 23,5,.alt [(3,2),(5,4),(7,3)]⟩::⟨bz 9 177,5,.alt [(1,4)]⟩::⟨bz 9 147,5,.one 2 1⟩::⟨bz 9 31,4,.alt [(5,5),(7,3)]⟩::⟨bz 9 151,4,.alt [(3,2),(5,3)]⟩::⟨bz 9 55,4,.alt [(3,3),(7,2)]⟩::⟨bz 9 179,4,.one 2 1⟩::⟨bz 9 159,3,.alt [(5,3)]⟩::⟨bz 9 183,3,.alt [(3,2)]⟩::⟨bz 9 63,3,.alt [(6,0),(7,1)]⟩::⟨bz 9 127,2,.alt [(7,1)]⟩::⟨bz 9 191,2,.alt [(6,0)]⟩::⟨bz 9 255,1,.alt [(8,0)]⟩::⟨bz 9 511,0,.fin⟩::[]
theorem or128:∀n:Fin 256,(((UInt8.ofNat (bitF .or .u8 ((n.val:Nat):Int) 128).toNat).toNat:Nat):Int)=bitF .or .u8 ((n.val:Nat):Int) 128:=by decide
theorem orB_val (b:UInt8):((orB b).toNat:Int)=bitF .or .u8 (b.toNat:Int) 128:=or128 ⟨b.toNat,UInt8.toNat_lt b⟩
abbrev vb8 (n:Int):V:= .val (.int .u8 n)
theorem bcs_drop {l:Str} {k:Nat} {b:UInt8} (h:l[k]? = some b):(byteCs l).drop k=vb8 b.toNat::(byteCs l).drop (k+1):=by
 obtain ⟨hlt,rfl⟩:=List.getElem?_eq_some_iff.1 h;unfold byteCs;rw[<- List.map_drop,<- List.map_drop,List.drop_eq_getElem_cons hlt,List.map_cons]
theorem bcs_set {l:Str} {k:Nat} (h:k<l.length) (x:UInt8):(byteCs l).take k++[vb8 x.toNat]++(byteCs l).drop (k+1)=byteCs (l.set k x):=by
 have e:l.set k x=l.take k++x::l.drop (k+1):=by rw[List.set_eq_take_append_cons_drop,if_pos h]
 rw[e,List.append_assoc];simp only[byteCs,List.map_append,List.map_cons,List.map_take,List.map_drop,List.singleton_append]
theorem byL_cs:∀l:Str,byL (byteCs l)=some l
 | []=>rfl
 | b::l=>by
  have ih:=byL_cs l;unfold byteCs at ih ⊢;rw[List.map_cons,byL,ih,Option.map_some,Int.toNat_natCast,UInt8.ofNat_toNat]
theorem wrap8_nn (x:Int):0<=IntKind.u8.wrap x/\IntKind.u8.wrap x<=255:=by
 unfold IntKind.wrap;simp[IntKind.signed,IntKind.bits];omega
theorem byte_back (x:Int):(((UInt8.ofNat (IntKind.u8.wrap x).toNat).toNat:Nat):Int)=IntKind.u8.wrap x:=by
 have:=wrap8_nn x;rw[UInt8.toNat_ofNat_of_lt' (by show _<256; omega)];omega
theorem digF_succ (s:List Int) (k:Nat):digF s (k+1)=digF s k++[UInt8.ofNat (IntKind.wrap .u8 (shF false .u64 (atU s (k / 8)) (8*((k % 8:Nat):Int)))).toNat]:=by
 unfold digF;rw[List.range_succ,List.map_append];rfl
abbrev Cby (b:UInt8):List V:=[vb8 b.toNat]
abbrev bys (l:Str):V:= .slice 1 (l.map Cby)
theorem bys_flat:∀l:Str,(l.map Cby).flatten=byteCs l
 | []=>rfl
 | b::l=>by
  have ih:=bys_flat l;unfold byteCs at ih ⊢;rw[List.map_cons,List.flatten_cons,ih];rfl
set_option maxHeartbeats 8000000 in
theorem denS_HashSum (L:LibT T) (s:List Int) (d:Str) (n:Int) (hs:s.length=25) (hd:d.length<136):
  DenS Tryz.prog T 71 [(999000,.var (hshC s d n))] [] [.p 999000 0] [(999000,.var (hshC s d n))] [] (.v (.str (digF (blockF s (padF d)) 32))):=by
 have H:=hsh_f hs;have hR:=lib_repeat0 L (135-d.length) (by omega);have hc:((135-d.length:Nat):Int)=135-(d.length:Int):=by omega
 rw[hc] at hR;obtain ⟨Lst,hL⟩:∃l,d++[6]++List.replicate (135-d.length) 0=l:=⟨_,rfl⟩;have hLl:Lst.length=136:=by rw[<- hL]; simp; omega
 have hcat:((d++[(6:UInt8)]).length+(List.replicate (135-d.length) (0:UInt8)).length<=9223372036854775807)=True:=eq_true (by simp; omega);have hpad:markL Lst=padF d:=by rw[<- hL]; unfold padF; simp
 have hPl:=padF_len d hd;have hB:=den_block (T:=T) s (padF d) hs hPl;have hBl:=blockF_len s (padF d) hs;obtain ⟨q,hq⟩:∃q,blockF s (padF d)=q:=⟨_,rfl⟩;rw[hq] at hB hBl ⊢;obtain ⟨x,hx,-,-⟩:=drop_at (l:=Lst) (k:=135) (by omega);have hd1:=bcs_drop hx
 have hst:(byteCs Lst).take 135++[vb8 (bitF .or .u8 (x.toNat:Int) 128)]++(byteCs Lst).drop 136=byteCs (padF d):=by
  rw[<- hpad,<- orB_val]
  have h1:markL Lst=Lst.set 135 (orB x):=by
   unfold markL;rw[hLl];simp only[List.getD_eq_getElem?_getD,hx];rfl
  rw[h1];exact bcs_set (by omega) _
 obtain ⟨P,hP⟩:∃P,padF d=P:=⟨_,rfl⟩;rw[hP] at hst hPl hB;have hby:=byL_cs P;have htk:(byteCs P).take 136=byteCs P:=List.take_of_length_le (by rw[byteCs_len]; omega);have hbl:(byteCs P).length=136:=by rw[byteCs_len]; exact hPl
 refine denS_of_body follows (fun args w=>Tryz.call71 args w) Tryz.func71 rfl 51 rfl rfl ?_;refine runD trivial ?_;refine aw_graph gr131a ?_;refine graph_to (fun y:Nat×Nat=>136<=y.2/\y.2<=maxLen) ⟨[0,3],[999000,20],[],[]⟩ (fun y=>⟨51,[(0,.p 999000 0),(3,.v (.val (.slice (some ⟨y.1,0,none⟩) 136 y.2)))],[(999000,.var (hshC s d n)),(20,.var (byteCs Lst) (some y.1) (some (5,1,y.2)))],[]⟩) (fun st st' hk h=>aw_keep _ hk h) ?_ (fun K' hK=> ?_)
 rotate_left
 ·refine runGraph H.d25 ?_
  try simp only[and_self_left]
  repeat' (with_reducible refine And.intro ?_ ?_)
  all_goals
   refine call hR ?_;refine runGraph (And.intro H.d25 (And.intro hL hcat)) ?_
   try simp only[and_self,and_self_left,and_self_right,and_e1,and_e2]
   repeat' (with_reducible refine And.intro ?_ ?_)
   all_goals
    unfold bytK;intro r cap hnm h1 h2;rw[hLl] at h1 ⊢;refine runGraph trivial ?_;exact leafK hK (r,cap) ⟨h1,h2⟩
 rintro ⟨r,cap⟩ ⟨hc1,hc2⟩;simp only;have hLb:(byteCs Lst).length=136:=by rw[byteCs_len]; exact hLl
 refine runD (And.intro hd1 (And.intro hst hLb)) ?_;refine aw_graph gr131b ?_;refine graph_to (fun _:Unit=>True) ⟨[0,4],[999000,4],[],[]⟩ (fun _=>⟨51,[(0,.p 999000 0),(4,.p 4 0)],[(999000,.var (hshC s d n)),(4,.var (wds q))],[]⟩) (fun st st' hk h=>aw_keep _ hk h) ?_ (fun K' hK=> ?_)
 rotate_left
 ·refine runGraph (And.intro H.t25 (And.intro hbl (And.intro htk hby))) ?_
  try simp only[and_self,and_self_right]
  repeat' (with_reducible refine And.intro ?_ ?_)
  all_goals
   refine call hB ?_;refine runGraph (And.intro hBl zdrop) ?_
   try simp only[and_self,and_self_left,and_self_right,and_e1,and_e2]
   repeat' (with_reducible refine And.intro ?_ ?_)
   all_goals exact leafK hK () trivial
 intro _ _;refine run ?_
 refine loop ⟨[0,4,5,33],[999000,4],[5],[(5,5,1)]⟩ (fun k:Nat=>k<=32) (fun k=>32-k)
  (fun k=>⟨51,[(0,.p 999000 0),(4,.p 4 0),(5,.v (bys (digF q k))),(33,.v (vi k))],[(999000,.var (hshC s d n)),(4,.var (wds q))],[(5,[5])]⟩) 0 (Nat.zero_le _) ?_
 intro k hk;by_cases hlt:k<32
 ·have q1:((k:Nat):Int).tdiv 8=((k / 8:Nat):Int):=tdiv_nat k 8;have q2:((k:Nat):Int).tmod 8=((k % 8:Nat):Int):=tmod_nat k 8;have d1:=wds_drop (l:=q) (k:=k / 8) (by omega)
  have hap:(digF q k).map Cby++[[vb8 (IntKind.u8.wrap (shF false .u64 (atU q (k / 8)) (8*((k % 8:Nat):Int))))]]=(digF q (k+1)).map Cby:=by
   rw[digF_succ,List.map_append,List.map_singleton];simp only[Cby,vb8,byte_back]
  have hdl:(digF q k).length=k:=by unfold digF; rw[List.length_map,List.length_range]
  refine runW (And.intro q1 (And.intro q2 (And.intro d1 hap))) ?_;exact round (k+1) hlt (by omega)
 ·have hk:k=32:=by omega
  subst hk;have hby:=byL_cs (digF q 32);rw[<- bys_flat] at hby;refine runW hby ?_;exact finS1 (.v (.refl _))
theorem den_DigestSum (L:LibT T) (d:Str) (hd:d.length<=1073741824):Den Tryz.prog T 29 [.str d] (.str (sumD d)):=by
 have hz:zero25.length=25:=rfl;have hW:=denS_Write (T:=T) zero25 d hz hd;have h1:=absF_len d.length zero25 d (Nat.le_refl _);have h2:=absF_len1 d.length zero25 d hz;have hS:=denS_HashSum L (absF d.length zero25 d).1 (absF d.length zero25 d).2 (d.length:Int) h2 h1;have he:digF (blockF (absF d.length zero25 d).1 (padF (absF d.length zero25 d).2)) 32=sumD d:=rfl;rw[he] at hS;obtain ⟨⟨s,r⟩,hp⟩:∃p,absF d.length zero25 d=p:=⟨_,rfl⟩;rw[hp] at hW hS;refine den_of_body follows (fun args w=>Tryz.call29 args w) Tryz.func29 rfl 11 rfl ?_;refine run ?_;refine callX (callU 4 denU_New ?_ ?_)
 ·rintro r ⟨b,h,-⟩;cases h
 rintro k v ⟨b,hk,rfl⟩ hnm;cases hk;refine run ?_;refine callX (callS [(999000,4)] hW (.cons (.pn rfl rfl) (.cons (.v _) .nil)) ?_ ?_)
 ·intro y hy;simp only[List.mem_singleton] at hy;subst hy;exact ⟨4,_,rfl,rfl,rfl,.inl rfl,rfl⟩
 refine run ?_;refine callX (callS [(999000,4)] hS (.cons (.pn rfl rfl) .nil) ?_ ?_)
 ·intro y hy;simp only[List.mem_singleton] at hy;subst hy;exact ⟨4,_,rfl,rfl,rfl,.inl rfl,rfl⟩
 refine run ?_;exact fin rfl
end Go.Arc
set_option maxRecDepth 100000
namespace Go.Arc
open Go.Ab Go.RowKit Go.Proofs
variable {T : Lay}
structure CrtOk (c:Crt):Prop where
 num:idB c.num=true
 prp:idB c.prp=true
 day:dayG c.day=true
 ne:1<=c.fls.length
 le:c.fls.length<=256
 ris:risI c.fls=true
 ids:c.fls.all idB=true
 bef:c.bef.length=32
theorem decN_lenD {n:Nat} (h:n<10000000000):(Lib.decDigits n).length<=10:=by
 rw[Lib.decDigits_length];refine Nat.le_of_not_lt fun hlt=> ?_
 have key:∀(k u:Nat),u<10 ^ (k+1)->Lib.nDigits u<=k+1:=by
  intro k
  induction k with
  | zero=>intro u hu; rw[Lib.nDigits_small (by simpa using hu)]; exact Nat.le_refl _
  | succ k ih=>
   intro u hu;by_cases h10:u<10
   ·rw[Lib.nDigits_small h10]; omega
   ·rw[Lib.nDigits_big h10];have:=ih (u / 10) (by rw[Nat.pow_succ] at hu; omega);omega
 exact absurd (key 9 n h) (by omega)
theorem dec_small {n:Int} (h:0<=n/\n<=1073741824):(decS n).length<=10:=by
 rw[decS_nn (by omega)];exact decN_lenD (by omega)
end Go.Arc
