/- A part of this claim. -/
import Derived.Test.YtdljpbdmcgmalaaGreatDoorWL3
import Derived.Test.YtdljpbdmcgmalaaGreatDoorBaU
import Derived.Test.YtdljpbdmcgmalaaGreatDoorBaZ
set_option maxRecDepth 100000
namespace Go.Arc
open Go.Ab Go.RowKit Go.Proofs Tryz
variable {T : Lay}
theorem clPf {p:Prop} (h:p:=by
  cases l with
  | nil=>
   refine aw_rowE ?_;refine run ?_;intro b;cases b
   ·refine run ?_;refine .inr ⟨2,7,_,_,rfl,rfl,kr,dc,rfl,?_,fun r cap hcap=> ?_⟩
    ·exact ⟨_,_,jbv rfl,.refl _,.inl (.inl ⟨rfl,rfl,rfl⟩)⟩
    ·exact ⟨_,_,jbv rfl,.refl _,.inr ⟨7,_,r,rfl,rfl,.inr ⟨r,cap,rfl,Nat.zero_le _,hcap,rfl⟩⟩⟩
   ·refine run ?_;exact .inl ⟨_,_,jbv rfl,.refl _,.inl (.inl ⟨rfl,rfl,rfl⟩)⟩
  | cons x r=>
   have h:r.length+1<=1048576:=hl
   dsimp only[ofcs,jad,fils,ruls,hlds,clks,sels,prps,apvs,crts,deps,List.map_cons]
   refine runB trivial ?_;refine jd4 ?_;unfold appR;refine run ?_;intro r' cap' hnm h1 h2;refine run ?_;refine ⟨_,_,jbv rfl,.refl _,.inr ⟨7,_,r',rfl,rfl,.inr ⟨r',cap',rfl,?_,h2,?_⟩⟩⟩
   ·simpa using h1
   ·simp):p:=h
theorem coPf {p:Prop} (h:p:=by
  cases l with
  | nil=>
   refine run ?_;intro b;cases b
   ·exact zbi
   ·refine run ?_;exact finO (.nil _)
  | cons x r=>
   have h:r.length+1<=1048576:=hl
   dsimp only[ofcs,jad,fils,ruls,hlds,clks,sels,prps,apvs,crts,deps,clss,movs,List.map_cons]
   refine run ?_
   exact finO (.refl _)):p:=h
theorem denU_cloneOfc (l:List Ofc) (hl:l.length<=1048576):DenU prog T 178 [ofcs l] (jf5 100 5 (l.map Ofc.cs)):=by
 refine je8 follows (fun args w=>call178 args w) func178 rfl 8 rfl ?_;exact clPf
theorem denU_clonePln (l:List Plan) (hl:l.length<=1048576):DenU prog T 179 [jad l] (jf5 106 5 (l.map Plan.cs)):=by
 refine je8 follows (fun args w=>call179 args w) func179 rfl 8 rfl ?_;exact clPf
theorem denU_cloneFil (l:List Fil) (hl:l.length<=1048576):DenU prog T 180 [fils l] (jf5 109 8 (l.map Fil.cs)):=by
 refine je8 follows (fun args w=>call180 args w) func180 rfl 8 rfl ?_;exact clPf
theorem denU_cloneSel (l:List Sel) (hl:l.length<=1048576):DenU prog T 187 [sels l] (jf5 130 3 (l.map Sel.cs)):=by
 refine je8 follows (fun args w=>call187 args w) func187 rfl 8 rfl ?_;exact clPf
theorem denU_clonePrp (l:List Prp) (hl:l.length<=1048576):DenU prog T 188 [prps l] (jf5 49 5 (l.map Prp.cs)):=by
 refine je8 follows (fun args w=>call188 args w) func188 rfl 8 rfl ?_;exact clPf
theorem denU_cloneCrt (l:List Crt) (hl:l.length<=1048576):DenU prog T 189 [crts l] (jf5 37 6 (l.map Crt.cs)):=by
 refine je8 follows (fun args w=>call189 args w) func189 rfl 8 rfl ?_;exact clPf
theorem denU_cloneApv (l:List Apv) (hl:l.length<=1048576):DenU prog T 190 [apvs l] (jf5 51 3 (l.map Apv.cs)):=by
 refine je8 follows (fun args w=>call190 args w) func190 rfl 8 rfl ?_;exact clPf
theorem denU_cloneRul (l:List Rul) (hl:l.length<=1048576):DenU prog T 184 [ruls l] (jf5 111 8 (l.map Rul.cs)):=by
 refine je8 follows (fun args w=>call184 args w) func184 rfl 8 rfl ?_;exact clPf
theorem denU_cloneHld (l:List Hld) (hl:l.length<=1048576):DenU prog T 185 [hlds l] (jf5 113 7 (l.map Hld.cs)):=by
 refine je8 follows (fun args w=>call185 args w) func185 rfl 8 rfl ?_;exact clPf
theorem denU_cloneClk (l:List Clk) (hl:l.length<=1048576):DenU prog T 186 [clks l] (jf5 67 5 (l.map Clk.cs)):=by
 refine je8 follows (fun args w=>call186 args w) func186 rfl 8 rfl ?_;exact clPf
theorem denU_cloneDep (l:List Dep) (hl:l.length<=1048576):DenU prog T 191 [deps l] (jf5 98 2 (l.map Dep.cs)):=by
 refine je8 follows (fun args w=>call191 args w) func191 rfl 8 rfl ?_;exact clPf
theorem den_copyCls (l:List Cls) (hl:l.length<=1048576):DenO prog T 181 [clss l] 102 (clss l):=by
 refine jhk call181 func181 8 ?_;exact coPf
theorem den_copyMov (l:List Mov) (hl:l.length<=1048576):DenO prog T 182 [movs l] 174 (movs l):=by
 refine jhk call182 func182 8 ?_;exact coPf
theorem jjb (l:List Int) (hl:l.length<=1048576):DenO prog T 48 [ints l] 3 (ints l):=by
 refine jhk call48 func48 8 ?_;cases l with
 | nil=>
  refine run ?_;intro b;cases b
  ·exact zbi
  ·refine run ?_;exact finO (.nil 1)
 | cons x r=>
  have h:r.length+1<=1048576:=hl;have e:ints (x::r)= .slice 1 (Cint x::r.map Cint):=rfl;rw[e];exact zbi
abbrev vu (n:Int):V:= .val (.int .u64 n)
abbrev wds (l:List Int):List V:=l.map vu
abbrev nus (l:List Int):List V:=l.map vi
theorem jbw {l:List Int} {k:Nat} (h:k<l.length):(wds l).drop k=vu (atU l k)::(wds l).drop (k+1):=by
 have h':k<(wds l).length:=by rw[List.length_map]; exact h
 exact zdb
theorem nus_drop {l:List Int} {k:Nat} (h:k<l.length):(nus l).drop k=vi (atU l k)::(nus l).drop (k+1):=by
 have h':k<(nus l).length:=by rw[List.length_map]; exact h
 exact zdb
theorem jgr {l:List Int} {k:Nat} (h:k<l.length) (x:Int):(wds l).take k++[vu x]++(wds l).drop (k+1)=wds (l.set k x):=by
 have e:l.set k x=l.take k++x::l.drop (k+1):=by rw[List.set_eq_take_append_cons_drop,if_pos h]
 rw[e,List.append_assoc];simp only[wds,List.map_append,List.map_cons,List.map_take,List.map_drop,List.singleton_append]
theorem takeN_self:∀cs:List V,jb9 cs.length cs=some cs
 | []=>rfl
 | c::cs=>by rw[List.length_cons,jb9,takeN_self cs]; rfl
theorem takeN_len {n:Nat} {cs:List V} (h:cs.length=n):jb9 n cs=some cs:=by rw[<- h]; exact takeN_self cs
theorem takeN_app:∀(cs ds:List V),jb9 cs.length (cs++ds)=some cs
 | [],_=>rfl
 | c::cs,ds=>by rw[List.length_cons,List.cons_append,jb9,takeN_app cs]; rfl
theorem rot_in:∀i:Nat,i<25->0<=atU rotL i/\atU rotL i<=63:=by decide
theorem and63:∀n:Int,0<=n->n<=63->bitF .and .u64 n 63=n:=by
 intro n h0 h1;have:∀m:Fin 64,bitF .and .u64 ((m.val:Nat):Int) 63=((m.val:Nat):Int):=by decide
 have h2:=this ⟨n.toNat,om⟩;simp only[Int.toNat_of_nonneg h0] at h2;exact h2
theorem wrapU:∀n:Int,0<=n->n<=64->IntKind.u64.wrap n=n:=fun n h0 h1=>IntWalk.u64_in n ⟨h0,om⟩
theorem den_RotL (x n:Int) (h0:0<=n) (h1:n<=63):Den prog T 293 [vu x,vi n] (vu (rotU x n)):=by
 have a:=and63 n h0 h1;have b:=wrapU n h0 om;have c:=wrapU (64-n) om om;refine ja0 call293 func293 17 ?_;refine runW (ai a (ai b c)) ?_;exact fin rfl
theorem den_rotate (x n:Int) (h0:0<=n) (h1:n<=63):Den prog T 207 [vu x,vi n] (vu (rotU x n)):=by
 refine ja0 call207 func207 13 ?_;exact za
theorem den_rotations:Den prog T 234 [] (.agg (nus rotL)):=by
 refine ja0 call234 func234 2 ?_;exact zt
theorem den_rotationsR:Den prog T 140 [] (.agg (nus rotL)):=by
 refine ja0 call140 func140 2 ?_;exact zt
theorem den_constants:Den prog T 235 [] (.agg (wds conL)):=by
 refine ja0 call235 func235 2 ?_;exact zt
theorem den_constantsR:Den prog T 139 [] (.agg (wds conL)):=by
 refine ja0 call139 func139 2 ?_;exact zt
theorem finCW {P:Program} {x t j n:Nat} {cs:List V} {nm:Option Nat} {kk:Option (TypeId×Nat×Nat)} {st:St} [h0:TAgg P t n] (h1:Ab.look x st.t=some (.p j 0)) (h2:Ab.look j st.h=some (.var cs nm kk)) (h3:cs.length=n):fpost P [.cell x t] (.agg cs) .rt st:=by
 refine .inl ⟨.agg cs,jbv ?_,.refl _⟩;have e:resV P st (.cell x t)=(behind st.h (Ab.look x st.t)).bind (ldV P t):=rfl;rw[e,h1];simp only[behind,memV,h2,List.drop_zero,Option.bind_some,ldV,h0.agg,h0.size,takeN_len h3,Option.map_some]
theorem zdrop:(wds jav).drop 25=[]/\jav.length=25:=⟨rfl,rfl⟩
theorem jo9 {l:List Int} (h:l.length=25):(wds l).drop 25=[]:=List.drop_eq_nil_of_le (by rw[List.length_map]; omega)
theorem tk25 {l:List Int} (h:l.length=25):jb9 25 (wds l)=some (wds l):=takeN_len (by rw[List.length_map]; exact h)
theorem ld_word {l:List Int} (h:0<l.length):ldV prog 139 (wds l)=some (vu (atU l 0)):=by
 have:=jbw h;rw[List.drop_zero] at this;rw[this,jfh]
theorem wds_set0 {l:List Int} (h:0<l.length) (x:Int):vu x::(wds l).drop 1=wds (l.set 0 x):=jgr h x
def bK (a:List Int) (k:Nat):List Int:=layF id posF (fun i=>rotU (jg8 a i) (atU rotL i)) k jav
def oK (b:List Int) (k:Nat):List Int:=layF id id (chiF b) k jav
theorem bK_succ (a:List Int) (k:Nat):bK a (k+1)=(bK a k).set (posF k) (rotU (jg8 a k) (atU rotL k)):=jhq _ _ _ _ _
theorem oK_succ (b:List Int) (k:Nat):oK b (k+1)=(oK b k).set k (chiF b k):=jhq _ _ _ _ _
theorem bK_len (a:List Int) (k:Nat):(bK a k).length=25:=jhu _ _ _ _ _
theorem oK_len (b:List Int) (k:Nat):(oK b k).length=25:=jhu _ _ _ _ _
theorem posF_lt:∀i:Nat,i<25->posF i<25:=by decide
theorem bF_len (a:List Int):(bF a).length=25:=bK_len a 25
theorem outF_len (b:List Int):(outF b).length=25:=oK_len b 25
set_option maxHeartbeats 8000000 in
theorem den_round (a:List Int) (c:Int) (ha:a.length=25):Den prog T 236 [.agg (wds a),.agg (nus rotL),vu c] (.agg (wds (jez a c))):=by
 have ta:=tk25 ha;refine ja0 call236 func236 118 ?_;refine runW ta ?_
 refine loop ⟨[2,3,4,6,7,18,19],[3,4,6,7],[],[]⟩ (fun k:Nat=>k<=25) (fun k=>25-k)
  (fun k=>⟨118,[(2,.v (vu c)),(3,.p 3 0),(4,.p 4 0),(6,.p 6 0),(7,.p 7 0),(18,.v (.agg (wds a))),(19,.v (vi k))],[(3,.var (wds a)),(4,.var (nus rotL)),(6,.var (wds jav)),(7,.var (wds (jbu a k)))],[]⟩) 0 (Nat.zero_le _) ?_
 intro k hk;by_cases hlt:k<25
 ·have hs:=jmn a k;have m5:((k:Nat):Int).tmod 5=((k % 5:Nat):Int):=jcp k 5;have d1:=jbw (l:=a) (k:=k) om;have d2:=jbw (l:=jbu a k) (k:=k % 5) om
  have s1:(wds (jbu a k)).take (k % 5)++[vu (bitF .xor .u64 (atU (jbu a k) (k % 5)) (atU a k))]++(wds (jbu a k)).drop (k % 5+1)=wds (jbu a (k+1)):=by
   rw[jod];exact jgr om _
  refine runW (ai m5 (ai d1 (ai d2 s1))) ?_;exact zx
 have hk:k=25:=om
 subst hk;have hw:∀i,jg8 a i=xorU (xorU (atU a i) (atU (jbu a 25) ((i+4) % 5))) (rotU (atU (jbu a 25) ((i+1) % 5)) 1):=fun i=>rfl;have hSl:=jmn a 25;obtain ⟨S,hS⟩:∃S,jbu a 25=S:=⟨_,rfl⟩;simp only[hS] at hw hSl ⊢;refine run ?_
 refine loop ⟨[2,3,4,6,7,10,31],[3,4,6,7,10],[],[]⟩ (fun y:Nat=>y<=5) (fun y=>5-y)
  (fun y=>⟨118,[(2,.v (vu c)),(3,.p 3 0),(4,.p 4 0),(6,.p 6 0),(7,.p 7 0),(10,.p 10 0),(31,.v (vi y))],[(3,.var (wds a)),(4,.var (nus rotL)),(6,.var (wds jav)),(7,.var (wds S)),(10,.var (wds (bK a (5*y))))],[]⟩) 0 (Nat.zero_le _) ?_
 intro y hy;by_cases hylt:y<5
 ·refine run ?_
  refine loop ⟨[2,3,4,6,7,10,31,11,34],[3,4,6,7,10],[],[]⟩ (fun x:Nat=>x<=5) (fun x=>5-x)
   (fun x=>⟨118,[(2,.v (vu c)),(3,.p 3 0),(4,.p 4 0),(6,.p 6 0),(7,.p 7 0),(10,.p 10 0),(31,.v (vi y)),(11,.v (vi y)),(34,.v (vi x))],[(3,.var (wds a)),(4,.var (nus rotL)),(6,.var (wds jav)),(7,.var (wds S)),(10,.var (wds (bK a (5*y+x))))],[]⟩) 0 (Nat.zero_le _) ?_
  intro x hx;by_cases hxlt:x<5
  ·have hB:=bK_len a (5*y+x);have hj:=posF_lt (5*y+x) om;have f1:(x:Int)+5*(y:Int)=((5*y+x:Nat):Int):=om
   have f2:((x:Int)+4).tmod 5=(((5*y+x+4) % 5:Nat):Int):=by
    rw[show (5*y+x+4) % 5=(x+4) % 5 by omega];exact jcp (x+4) 5
   have f3:((x:Int)+1).tmod 5=(((5*y+x+1) % 5:Nat):Int):=by
    rw[show (5*y+x+1) % 5=(x+1) % 5 by omega];exact jcp (x+1) 5
   have f4:(2*(x:Int)+3*(y:Int)).tmod 5=(((2*x+3*y) % 5:Nat):Int):=jcp (2*x+3*y) 5
   have f5:(y:Int)+5*(((2*x+3*y) % 5:Nat):Int)=((posF (5*y+x):Nat):Int):=by
    have h1:(5*y+x) / 5=y:=om
    have h2:(5*y+x) % 5=x:=om
    unfold posF;rw[h1,h2];omega
   have d1:=jbw (l:=a) (k:=5*y+x) om;have d2:=jbw (l:=S) (k:=(5*y+x+4) % 5) om;have d3:=jbw (l:=S) (k:=(5*y+x+1) % 5) om;have d4:=nus_drop (l:=rotL) (k:=5*y+x) (by show _<25; omega);have hr:=rot_in (5*y+x) om
   have s1:(wds (bK a (5*y+x))).take (posF (5*y+x))++[vu (rotU (bitF .xor .u64 (bitF .xor .u64 (atU a (5*y+x)) (atU S ((5*y+x+4) % 5))) (rotU (atU S ((5*y+x+1) % 5)) 1)) (atU rotL (5*y+x)))]++(wds (bK a (5*y+x))).drop (posF (5*y+x)+1)=wds (bK a (5*y+x+1)):=by
    rw[bK_succ,hw];exact jgr om _
   refine rcW (ai f1 (ai f2 (ai f3 (ai d1 (ai d2 d3))))) (den_RotL (atU S ((5*y+x+1) % 5)) 1 dc dc) ?_;refine rcW (ai f4 (ai f5 d4)) (den_RotL _ _ hr.1 hr.2) ?_;refine runW s1 ?_;exact round (x+1) om om
  ·have hx5:x=5:=om
   subst hx5;refine run ?_;exact round (y+1) om om
 have hy5:y=5:=om
 subst hy5;have hBl:=bF_len a;have hBe:bK a (5*5)=bF a:=rfl;have hRe:jez a c=(outF (bF a)).set 0 (bitF .xor .u64 (atU (outF (bF a)) 0) c):=rfl;have hRl:=jog a c;obtain ⟨B,hB⟩:∃B,bF a=B:=⟨_,rfl⟩;simp only[hBe,hB] at hBl hRe ⊢;refine run ?_
 refine loop ⟨[2,6,10,15,74],[6,10,15],[],[]⟩ (fun y:Nat=>y<=5) (fun y=>5-y)
  (fun y=>⟨118,[(2,.v (vu c)),(6,.p 6 0),(10,.p 10 0),(15,.p 15 0),(74,.v (vi y))],[(6,.var (wds jav)),(10,.var (wds B)),(15,.var (wds (oK B (5*y))))],[]⟩) 0 (Nat.zero_le _) ?_
 intro y hy;by_cases hylt:y<5
 ·refine run ?_
  refine loop ⟨[2,6,10,15,74,16,77],[6,10,15],[],[]⟩ (fun x:Nat=>x<=5) (fun x=>5-x)
   (fun x=>⟨118,[(2,.v (vu c)),(6,.p 6 0),(10,.p 10 0),(15,.p 15 0),(74,.v (vi y)),(16,.v (vi y)),(77,.v (vi x))],[(6,.var (wds jav)),(10,.var (wds B)),(15,.var (wds (oK B (5*y+x))))],[]⟩) 0 (Nat.zero_le _) ?_
  intro x hx;by_cases hxlt:x<5
  ·have hO:=oK_len B (5*y+x);have f1:(x:Int)+5*(y:Int)=((5*y+x:Nat):Int):=om
   have f2:((x:Int)+1).tmod 5=(((x+1) % 5:Nat):Int):=jcp (x+1) 5;have f3:((x:Int)+2).tmod 5=(((x+2) % 5:Nat):Int):=jcp (x+2) 5;have f4:(((x+1) % 5:Nat):Int)+5*(y:Int)=(((x+1) % 5+5*y:Nat):Int):=om
   have f5:(((x+2) % 5:Nat):Int)+5*(y:Int)=(((x+2) % 5+5*y:Nat):Int):=om
   have d1:=jbw (l:=B) (k:=5*y+x) om;have d2:=jbw (l:=B) (k:=(x+1) % 5+5*y) om;have d3:=jbw (l:=B) (k:=(x+2) % 5+5*y) om
   have s1:(wds (oK B (5*y+x))).take (5*y+x)++[vu (bitF .xor .u64 (atU B (5*y+x)) (bitF .and .u64 (notF .u64 (atU B ((x+1) % 5+5*y))) (atU B ((x+2) % 5+5*y))))]++(wds (oK B (5*y+x))).drop (5*y+x+1)=wds (oK B (5*y+x+1)):=by
    have h1:(5*y+x) / 5=y:=om
    have h2:(5*y+x) % 5=x:=om
    rw[oK_succ];unfold chiF;rw[h1,h2];exact jgr om _
   refine runW (ai f1 (ai f2 (ai f3 (ai f4 (ai f5 (ai d1 (ai d2 (ai d3 s1)))))))) ?_;exact round (x+1) om om
  ·have hx5:x=5:=om
   subst hx5;refine run ?_;exact round (y+1) om om
 have hy5:y=5:=om
 subst hy5;have hOl:=outF_len B;have hOe:oK B (5*5)=outF B:=rfl;obtain ⟨O,hO⟩:∃O,outF B=O:=⟨_,rfl⟩;simp only[hOe,hO] at hOl hRe ⊢;have e0:=ld_word (l:=O) om;have e1:=wds_set0 (l:=O) om (bitF .xor .u64 (atU O 0) c);rw[<- hRe] at e1;obtain ⟨R,hR⟩:∃R,jez a c=R:=⟨_,rfl⟩;simp only[hR] at hRl e1 ⊢;refine runW (ai e0 (ai e1 (ai (tk25 hRl) (ai hRl zdrop)))) ?_;refine finCW (P:=prog) (x:=6) (t:=140) (j:=6) (cs:=wds R) (nm:=none) (kk:=none) ?_ ?_ ?_
 ·rfl
 ·rfl
 ·rw[List.length_map]; exact hRl
def pK (a:List Int) (k:Nat):List Int:=(conL.take k).foldl jez a
theorem pK_len {a:List Int} (h:a.length=25) (k:Nat):(pK a k).length=25:=jpq _ a h
theorem con_at:∀k:Nat,k<24->conL.take (k+1)=conL.take k++[atU conL k]:=by decide
theorem pK_succ (a:List Int) {k:Nat} (h:k<24):pK a (k+1)=jez (pK a k) (atU conL k):=by
 unfold pK;rw[con_at k h,List.foldl_append,List.foldl_cons,List.foldl_nil]
theorem pK_all (a:List Int):pK a 24=jfq a:=by rw[jfq]; rfl
set_option maxHeartbeats 4000000 in
theorem den_Permute (a:List Int) (ha:a.length=25):Den prog T 196 [.agg (wds a)] (.agg (wds (jfq a))):=by
 have tr:jb9 25 (nus rotL)=some (nus rotL):=rfl;have hrl:rotL.length=25:=rfl;refine ja0 call196 func196 17 ?_;refine rc den_rotations ?_;refine rcW hrl den_constants ?_;refine run ?_
 refine loop ⟨[1,2,3,7,8],[1,2,3],[],[]⟩ (fun k:Nat=>k<=24) (fun k=>24-k)
  (fun k=>⟨17,[(1,.p 1 0),(2,.p 2 0),(3,.p 3 0),(7,.v (.agg (wds conL))),(8,.v (vi k))],[(1,.var (wds (pK a k))),(2,.var (wds jav)),(3,.var (nus rotL))],[]⟩) 0 (Nat.zero_le _) ?_
 intro k hk;have hl:=pK_len ha k;by_cases hlt:k<24
 ·have hl2:=pK_len ha (k+1);have hc:=jbw (l:=conL) (k:=k) hlt;have hR:=den_round (T:=T) (pK a k) (atU conL k) hl;exact zce
 ·have hk:k=24:=om
  subst hk;simp only[pK_all] at hl ⊢;refine runW (ai (tk25 hl) (ai hl zdrop)) ?_;refine finCW (P:=prog) (x:=2) (t:=140) (j:=2) (cs:=wds (jfq a)) (nm:=none) (kk:=none) ?_ ?_ ?_
  ·rfl
  ·rfl
  ·rw[List.length_map]; exact hl
theorem byte64 (b:UInt8):IntKind.u64.wrap (b.toNat:Int)=(b.toNat:Int):=IntWalk.u64_in _ ⟨om,by have:=UInt8.toNat_lt b; omega⟩
set_option maxHeartbeats 4000000 in
theorem den_block (s:List Int) (d:Str) (hs:s.length=25) (hd:d.length=136):Den prog T 130 [.agg (wds s),.str d] (.agg (wds (jbm s d))):=by
 have hfin:jfq (eatF s d 136)=jbm s d:=by rw[jbm]
 refine ja0 call130 func130 28 ?_;refine run ?_
 refine loop ⟨[1,2,4,7,8],[2,4],[],[]⟩ (fun k:Nat=>k<=136) (fun k=>136-k)
  (fun k=>⟨28,[(1,.v (.str d)),(2,.p 2 0),(4,.p 4 0),(7,.v (vi d.length)),(8,.v (vi k))],[(2,.var (wds (eatF s d k))),(4,.var (wds jav))],[]⟩) 0 (Nat.zero_le _) ?_
 intro k hk;have hl:(eatF s d k).length=25:=(eatF_len s d k).trans hs;by_cases hlt:k<136
 ·obtain ⟨b,hb,-,-⟩:=ja1 (l:=d) (k:=k) om;have hg:d.getD k 0=b:=by rw[List.getD_eq_getElem?_getD,hb]; rfl
  have q1:((k:Nat):Int).tdiv 8=((k / 8:Nat):Int):=jht k 8;have q2:((k:Nat):Int).tmod 8=((k % 8:Nat):Int):=jcp k 8;have d1:=jbw (l:=eatF s d k) (k:=k / 8) om
  have s1:(wds (eatF s d k)).take (k / 8)++[vu (bitF .xor .u64 (atU (eatF s d k) (k / 8)) (shF true .u64 (b.toNat:Int) (8*((k % 8:Nat):Int))))]++(wds (eatF s d k)).drop (k / 8+1)=wds (eatF s d (k+1)):=by
   rw[jpw,hg];exact jgr om _
  refine runW (ai hb (ai q1 (ai q2 (ai d1 (ai s1 (byte64 b)))))) ?_;exact zm
 ·have hk:k=136:=om
  subst hk;have hP:=den_Permute (T:=T) (eatF s d 136) hl;rw[hfin] at hP;have hl2:(jbm s d).length=25:=jkq s d hs;refine rcW (tk25 hl) hP ?_;refine runW (ai hl2 zdrop) ?_;refine finCW (P:=prog) (x:=4) (t:=140) (j:=4) (cs:=wds (jbm s d)) (nm:=none) (kk:=none) ?_ ?_ ?_
  ·rfl
  ·rfl
  ·rw[List.length_map]; exact hl2
def hshC (s:List Int) (r:Str) (n:Int):List V:=wds s++[.str r,vi n]
def NewP (ro:Option Blk) (r:V):Prop:=∃b,ro=some (.var (hshC jav [] 0) (some b))/\r= .val (.pointer (some ⟨b,0,none⟩))
theorem opv_nilp (σ:Sto):opv σ (.const (.pointer none))=some (.v (.val (.pointer none))):=rfl
theorem denU_New:DenU prog T 74 [] NewP:=by
 refine je8 follows (fun args w=>call74 args w) func74 rfl 3 rfl ?_;refine aw_ptr ?_;refine runW (fun σ=>opv_nilp σ) ?_;refine ⟨0,2,0,rfl,fun b=> ?_⟩;exact ⟨_,_,jbv rfl,.refl _,.inr ⟨2,_,b,rfl,rfl,b,rfl,rfl⟩⟩
structure HshF (s:List Int):Prop where
 d25:∀r n,(hshC s r n).drop 25=[.str r,vi n]
 d26:∀r n,(hshC s r n).drop 26=[vi n]
 d27:∀r n,(hshC s r n).drop 27=[]
 s25:∀r n q,(hshC s r n).take 25++[.str q]++[vi n]=hshC s q n
 s26:∀r n q,(hshC s r n).take 26++[vi q]=hshC s r q
 t25:∀r n,jb9 25 (hshC s r n)=some (wds s)
 ln:∀r n,(hshC s r n).length=27
theorem hsh_f {s:List Int} (h:s.length=25):HshF s:=by
 have hl:(wds s).length=25:=by rw[List.length_map]; exact h
 refine ⟨fun r n=> ?_,fun r n=> ?_,fun r n=> ?_,fun r n q=> ?_,fun r n q=> ?_,fun r n=> ?_,fun r n=> ?_⟩ <;> unfold hshC
 ·rw[<- hl,List.drop_left]
 ·rw[show 26=(wds s).length+1 by omega,List.drop_length_add_append]; rfl
 ·rw[show 27=(wds s).length+2 by omega,List.drop_length_add_append]; rfl
 ·rw[<- hl,List.take_left,List.append_assoc]; rfl
 ·rw[show 26=(wds s).length+1 by omega,List.take_length_add_append,List.append_assoc]; rfl
 ·have:=takeN_app (wds s) [.str r,vi n];rw[hl] at this;exact this
 ·rw[List.length_append,hl]; rfl
theorem absF_short {n:Nat} {s:List Int} {d:Str} (h:d.length<136):absF n s d=(s,d):=by
 cases n with
 | zero=>rfl
 | succ n=>rw[absF,if_neg om]
theorem absF_step {n:Nat} {s:List Int} {d:Str} (hn:d.length<=n) (h:136<=d.length):∃k,(d.drop 136).length<=k/\absF n s d=absF k (jbm s (d.take 136)) (d.drop 136):=by
 cases n with
 | zero=>omega
 | succ n=>exact ⟨n,by rw[List.length_drop]; omega,by rw[absF,if_pos h]⟩
abbrev gr131c:List Gent:=⟨bz 14 0,14,.one 0 0⟩::⟨bz 14 1,13,.one 1 0⟩::⟨bz 14 3,12,.one 5 0⟩::⟨bz 14 35,11,.alt [(2,1),(6,0)]⟩::⟨bz 14 99,10,.one 7 2⟩::⟨bz 14 39,10,.one 3 0⟩::⟨bz 14 47,9,.alt [(4,2),(6,1)]⟩::⟨bz 14 227,9,.alt [(2,2),(8,3)]⟩::⟨bz 14 111,8,.one 7 5⟩::⟨bz 14 63,8,.alt [(6,2)]⟩::⟨bz 14 231,8,.one 3 3⟩::⟨bz 14 483,8,.alt [(2,1),(9,3)]⟩::⟨bz 14 127,7,.one 7 3⟩::⟨bz 14 487,7,.one 3 4⟩::⟨bz 14 239,7,.alt [(4,1),(8,3)]⟩::⟨bz 14 995,7,.alt [(2,1)]⟩::⟨bz 14 255,6,.alt [(8,2)]⟩::⟨bz 14 999,6,.one 3 2⟩::⟨bz 14 495,6,.alt [(4,0),(9,1)]⟩::⟨bz 14 511,5,.alt [(9,1)]⟩::⟨bz 14 1007,5,.alt [(4,0)]⟩::⟨bz 14 1023,4,.alt [(10,0)]⟩::⟨bz 14 2047,3,.alt [(11,0)]⟩::⟨bz 14 4095,2,.one 12 0⟩::⟨bz 14 8191,1,.alt [(13,0)]⟩::⟨bz 14 16383,0,.fin⟩::[]
set_option maxHeartbeats 4000000 in
theorem denS_Write (s0:List Int) (d:Str) (hs0:s0.length=25) (hd:d.length<=1073741824):
  DenS prog T 75 [(999000,.var (hshC s0 [] 0))] [] [.p 999000 0,.v (strs [d])] [(999000,.var (hshC (absF d.length s0 d).1 (absF d.length s0 d).2 (d.length:Int)))] [] (.v (vi d.length)):=by
 have H:=hsh_f hs0;refine jes follows (fun args w=>call75 args w) func75 rfl 62 rfl rfl ?_;obtain ⟨⟨sE,rE⟩,hE⟩:∃p,absF d.length s0 d=p:=⟨_,rfl⟩;have hEl:sE.length=25:=by have:=jq9 d.length s0 d hs0; rw[hE] at this; exact this
 rw[hE];refine run ?_
 refine loop ⟨[0,7,8,9],[999000],[],[]⟩ (fun _:Bool=>True) (fun b=>if b=true then 0 else 1)
  (fun b=>⟨62,[(0,.p 999000 0),(7,.v (strs [d])),(8,.v (vi 1)),(9,.v (vi (if b=true then 1 else 0)))],[(999000,.var (if b=true then hshC sE rE (d.length:Int) else hshC s0 [] 0))],[]⟩) false trivial ?_
 rintro b -;cases b with
 | true=>
  have HE:=hsh_f hEl;simp only[if_true];refine runW HE.d26 ?_;exact zb6
 | false=>
  simp only[Bool.false_eq_true,if_false];have z0:(0:Int)+(d.length:Int)=(d.length:Int):=Int.zero_add _;refine runW (ai H.d25 (ai H.d26 (ai H.d27 (ai H.s25 (ai H.s26 (ai H.ln z0)))))) ?_
  refine loop ⟨[0,7,8,9],[999000],[],[]⟩ (fun y:List Int×Str=>y.1.length=25/\y.2.length<=d.length/\∃n,y.2.length<=n/\absF n y.1 y.2=(sE,rE)) (fun y=>y.2.length)
   (fun y=>⟨62,[(0,.p 999000 0),(7,.v (strs [d])),(8,.v (vi 1)),(9,.v (vi 0))],[(999000,.var (hshC y.1 y.2 (d.length:Int)))],[]⟩) (s0,d) ⟨hs0,Nat.le_refl _,_,Nat.le_refl _,hE⟩ ?_
  rintro ⟨s,r⟩ ⟨hs,hr,n,hn,hA⟩;simp only at hs hr hn hA;have H:=hsh_f hs;by_cases h136:136<=r.length
  ·obtain ⟨k,hk,hst⟩:=absF_step (s:=s) hn h136;have htl:(r.take 136).length=136:=by rw[List.length_take]; omega
   have hB:=den_block (T:=T) s (r.take 136) hs htl;have hBl:=jkq s (r.take 136) hs;have hta:r.take r.length=r:=List.take_length;have H2:=hsh_f hBl;have hmk:∀r1 n1,wds (jbm s (r.take 136))++[V.str r1,vi n1]=hshC (jbm s (r.take 136)) r1 n1:=fun _ _=>rfl;refine runD (ai H.d25 (ai H.d26 H.ln)) ?_;refine jat gr131c ?_;refine jea (fun _:Unit=>True) ⟨[0,7,8,9],[999000],[],[]⟩ (fun _=>⟨62,[(0,.p 999000 0),(7,.v (strs [d])),(8,.v (vi 1)),(9,.v (vi 0))],[(999000,.var (hshC (jbm s (r.take 136)) r (d.length:Int)))],[]⟩) (fun st st' hk h=>jbx _ hk h) ?_ (fun K' hK=> ?_)
   rotate_left
   ·refine jab (ai H.d25 (ai H.d26 H.t25)) ?_
    try simp only[and_self,and_self_left,and_self_right,jag,jai]
    repeat' (with_reducible refine ai ?_ ?_)
    all_goals
     refine call hB ?_;refine jab (ai hBl (ai H.d25 (ai hmk H.ln))) ?_
     try simp only[and_self,and_self_left,and_self_right,jag,jai]
     repeat' (with_reducible refine ai ?_ ?_)
     all_goals exact jdu hK () trivial
   intro _ _;refine runW (ai H2.d25 (ai H2.d26 (ai H2.s25 (ai H2.ln hta)))) ?_;exact round (jbm s (r.take 136),r.drop 136) ⟨hBl,by simp only[List.length_drop]; omega,k,hk,by rw[<- hst]; exact hA⟩ (by simp only[List.length_drop]; omega)
  ·rw[absF_short om] at hA;cases hA;refine runW (ai H.d25 H.d26) ?_;refine round true trivial dc ?_;simp only[if_true];rfl
abbrev gr131a:List Gent:=⟨bz 15 0,15,.one 0 0⟩::⟨bz 15 1,14,.one 5 0⟩::⟨bz 15 33,13,.alt [(1,0),(6,1)]⟩::⟨bz 15 35,12,.one 2 1⟩::⟨bz 15 97,12,.one 7 1⟩::⟨bz 15 39,11,.alt [(3,3),(6,1)]⟩::⟨bz 15 225,11,.alt [(1,1),(8,3)]⟩::⟨bz 15 103,10,.one 7 6⟩::⟨bz 15 227,10,.one 2 5⟩::⟨bz 15 47,10,.alt [(4,2),(6,1)]⟩::⟨bz 15 481,10,.alt [(1,2),(9,4)]⟩::⟨bz 15 111,9,.one 7 6⟩::⟨bz 15 63,9,.alt [(6,4)]⟩::⟨bz 15 483,9,.one 2 6⟩::⟨bz 15 231,9,.alt [(3,3),(8,5)]⟩::⟨bz 15 993,9,.alt [(1,0),(10,3)]⟩::⟨bz 15 995,8,.one 2 7⟩::⟨bz 15 127,8,.one 7 4⟩::⟨bz 15 239,8,.alt [(4,3),(8,2)]⟩::⟨bz 15 2017,8,.alt [(1,3),(11,5)]⟩::⟨bz 15 487,8,.alt [(3,0),(9,3)]⟩::⟨bz 15 495,7,.alt [(4,5),(9,7)]⟩::⟨bz 15 255,7,.alt [(8,4)]⟩::⟨bz 15 2019,7,.one 2 2⟩::⟨bz 15 999,7,.alt [(3,4),(10,1)]⟩::⟨bz 15 4065,7,.alt [(1,2)]⟩::⟨bz 15 2023,6,.alt [(3,5),(11,4)]⟩::⟨bz 15 511,6,.alt [(9,2)]⟩::⟨bz 15 4067,6,.one 2 2⟩::⟨bz 15 1007,6,.alt [(4,0),(10,2)]⟩::⟨bz 15 1023,5,.alt [(10,2)]⟩::⟨bz 15 4071,5,.alt [(3,2)]⟩::⟨bz 15 2031,5,.alt [(4,0),(11,1)]⟩::⟨bz 15 2047,4,.alt [(11,1)]⟩::⟨bz 15 4079,4,.alt [(4,0)]⟩::⟨bz 15 4095,3,.alt [(12,0)]⟩::⟨bz 15 8191,2,.alt [(13,0)]⟩::⟨bz 15 16383,1,.alt [(14,0)]⟩::⟨bz 15 32767,0,.fin⟩::[]
abbrev gr131b:List Gent:=⟨bz 9 0,9,.one 0 0⟩::⟨bz 9 1,8,.one 4 0⟩::⟨bz 9 17,7,.alt [(1,1),(5,2),(7,0)]⟩::⟨bz 9 145,6,.alt [(1,5),(5,4)]⟩::⟨bz 9 19,6,.one 2 2⟩::⟨bz 9 49,6,.alt [(1,0),(7,2)]⟩::⟨bz 9 51,5,.one 2 5⟩::⟨bz 9 23,5,.alt [(3,2),(5,4),(7,3)]⟩::⟨bz 9 177,5,.alt [(1,4)]⟩::⟨bz 9 147,5,.one 2 1⟩::⟨bz 9 31,4,.alt [(5,5),(7,3)]⟩::⟨bz 9 151,4,.alt [(3,2),(5,3)]⟩::⟨bz 9 55,4,.alt [(3,3),(7,2)]⟩::⟨bz 9 179,4,.one 2 1⟩::⟨bz 9 159,3,.alt [(5,3)]⟩::⟨bz 9 183,3,.alt [(3,2)]⟩::⟨bz 9 63,3,.alt [(6,0),(7,1)]⟩::⟨bz 9 127,2,.alt [(7,1)]⟩::⟨bz 9 191,2,.alt [(6,0)]⟩::⟨bz 9 255,1,.alt [(8,0)]⟩::⟨bz 9 511,0,.fin⟩::[]
theorem or128:∀n:Fin 256,(((UInt8.ofNat (bitF .or .u8 ((n.val:Nat):Int) 128).toNat).toNat:Nat):Int)=bitF .or .u8 ((n.val:Nat):Int) 128:=by decide
theorem orB_val (b:UInt8):((orB b).toNat:Int)=bitF .or .u8 (b.toNat:Int) 128:=or128 ⟨b.toNat,UInt8.toNat_lt b⟩
abbrev vb8 (n:Int):V:= .val (.int .u8 n)
theorem bcs_drop {l:Str} {k:Nat} {b:UInt8} (h:l[k]? = some b):(jal l).drop k=vb8 b.toNat::(jal l).drop (k+1):=by
 obtain ⟨hlt,rfl⟩:=gsi.1 h;unfold jal;rw[<- List.map_drop,<- List.map_drop,List.drop_eq_getElem_cons hlt,List.map_cons]
theorem bcs_set {l:Str} {k:Nat} (h:k<l.length) (x:UInt8):(jal l).take k++[vb8 x.toNat]++(jal l).drop (k+1)=jal (l.set k x):=by
 have e:l.set k x=l.take k++x::l.drop (k+1):=by rw[List.set_eq_take_append_cons_drop,if_pos h]
 rw[e,List.append_assoc];simp only[jal,List.map_append,List.map_cons,List.map_take,List.map_drop,List.singleton_append]
theorem byL_cs:∀l:Str,byL (jal l)=some l
 | []=>rfl
 | b::l=>by
  have ih:=byL_cs l;unfold jal at ih ⊢;rw[List.map_cons,byL,ih,Option.map_some,Int.toNat_natCast,UInt8.ofNat_toNat]
theorem wrap8_nn (x:Int):0<=IntKind.u8.wrap x/\IntKind.u8.wrap x<=255:=by
 unfold IntKind.wrap;simp[IntKind.signed,IntKind.bits];omega
theorem byte_back (x:Int):(((UInt8.ofNat (IntKind.u8.wrap x).toNat).toNat:Nat):Int)=IntKind.u8.wrap x:=by
 have:=wrap8_nn x;rw[UInt8.toNat_ofNat_of_lt' (by show _<256; omega)];omega
theorem digF_succ (s:List Int) (k:Nat):digF s (k+1)=digF s k++[UInt8.ofNat (IntKind.wrap .u8 (shF false .u64 (atU s (k / 8)) (8*((k % 8:Nat):Int)))).toNat]:=by
 unfold digF;rw[List.range_succ,List.map_append];rfl
abbrev Cby (b:UInt8):List V:=[vb8 b.toNat]
abbrev bys (l:Str):V:= .slice 1 (l.map Cby)
theorem bys_flat:∀l:Str,(l.map Cby).flatten=jal l
 | []=>rfl
 | b::l=>by
  have ih:=bys_flat l;unfold jal at ih ⊢;rw[List.map_cons,List.flatten_cons,ih];rfl
set_option maxHeartbeats 8000000 in
theorem denS_HashSum (L:LibT T) (s:List Int) (d:Str) (n:Int) (hs:s.length=25) (hd:d.length<136):
  DenS prog T 76 [(999000,.var (hshC s d n))] [] [.p 999000 0] [(999000,.var (hshC s d n))] [] (.v (.str (digF (jbm s (padF d)) 32))):=by
 have H:=hsh_f hs;have hR:=jrb L (135-d.length) om;have hc:((135-d.length:Nat):Int)=135-(d.length:Int):=om
 rw[hc] at hR;obtain ⟨Lst,hL⟩:∃l,d++[6]++List.replicate (135-d.length) 0=l:=⟨_,rfl⟩;have hLl:Lst.length=136:=by rw[<- hL]; simp; omega
 have hcat:((d++[(6:UInt8)]).length+(List.replicate (135-d.length) (0:UInt8)).length<=9223372036854775807)=True:=eq_true zei;have hpad:jdc Lst=padF d:=by rw[<- hL]; unfold padF; simp
 have hPl:=padF_len d hd;have hB:=den_block (T:=T) s (padF d) hs hPl;have hBl:=jkq s (padF d) hs;obtain ⟨q,hq⟩:∃q,jbm s (padF d)=q:=⟨_,rfl⟩;rw[hq] at hB hBl ⊢;obtain ⟨x,hx,-,-⟩:=ja1 (l:=Lst) (k:=135) om;have hd1:=bcs_drop hx
 have hst:(jal Lst).take 135++[vb8 (bitF .or .u8 (x.toNat:Int) 128)]++(jal Lst).drop 136=jal (padF d):=by
  rw[<- hpad,<- orB_val]
  have h1:jdc Lst=Lst.set 135 (orB x):=by
   unfold jdc;rw[hLl];simp only[List.getD_eq_getElem?_getD,hx];rfl
  rw[h1];exact bcs_set om _
 obtain ⟨P,hP⟩:∃P,padF d=P:=⟨_,rfl⟩;rw[hP] at hst hPl hB;have hby:=byL_cs P;have htk:(jal P).take 136=jal P:=List.take_of_length_le (by rw[jig]; omega);have hbl:(jal P).length=136:=by rw[jig]; exact hPl
 refine jes follows (fun args w=>call76 args w) func76 rfl 51 rfl rfl ?_;refine runD trivial ?_;refine jat gr131a ?_;refine jea (fun y:Nat×Nat=>136<=y.2/\y.2<=maxLen) ⟨[0,3],[999000,20],[],[]⟩ (fun y=>⟨51,[(0,.p 999000 0),(3,.v (.val (.slice (some ⟨y.1,0,none⟩) 136 y.2)))],[(999000,.var (hshC s d n)),(20,.var (jal Lst) (some y.1) (some (5,1,y.2)))],[]⟩) (fun st st' hk h=>jbx _ hk h) ?_ (fun K' hK=> ?_)
 rotate_left
 ·refine jab H.d25 ?_
  try simp only[and_self_left]
  repeat' (with_reducible refine ai ?_ ?_)
  all_goals
   refine call hR ?_;refine jab (ai H.d25 (ai hL hcat)) ?_
   try simp only[and_self,and_self_left,and_self_right,jag,jai]
   repeat' (with_reducible refine ai ?_ ?_)
   all_goals
    unfold bytK;intro r cap hnm h1 h2;rw[hLl] at h1 ⊢;refine jab trivial ?_;exact jdu hK (r,cap) ⟨h1,h2⟩
 rintro ⟨r,cap⟩ ⟨hc1,hc2⟩;simp only;have hLb:(jal Lst).length=136:=by rw[jig]; exact hLl
 refine runD (ai hd1 (ai hst hLb)) ?_;refine jat gr131b ?_;refine jea (fun _:Unit=>True) ⟨[0,4],[999000,4],[],[]⟩ (fun _=>⟨51,[(0,.p 999000 0),(4,.p 4 0)],[(999000,.var (hshC s d n)),(4,.var (wds q))],[]⟩) (fun st st' hk h=>jbx _ hk h) ?_ (fun K' hK=> ?_)
 rotate_left
 ·refine jab (ai H.t25 (ai hbl (ai htk hby))) ?_
  try simp only[and_self,and_self_right]
  repeat' (with_reducible refine ai ?_ ?_)
  all_goals
   refine call hB ?_;refine jab (ai hBl zdrop) ?_
   try simp only[and_self,and_self_left,and_self_right,jag,jai]
   repeat' (with_reducible refine ai ?_ ?_)
   all_goals exact jdu hK () trivial
 intro _ _;refine run ?_
 refine loop ⟨[0,4,5,33],[999000,4],[5],[(5,5,1)]⟩ (fun k:Nat=>k<=32) (fun k=>32-k)
  (fun k=>⟨51,[(0,.p 999000 0),(4,.p 4 0),(5,.v (bys (digF q k))),(33,.v (vi k))],[(999000,.var (hshC s d n)),(4,.var (wds q))],[(5,[5])]⟩) 0 (Nat.zero_le _) ?_
 intro k hk;by_cases hlt:k<32
 ·have q1:((k:Nat):Int).tdiv 8=((k / 8:Nat):Int):=jht k 8;have q2:((k:Nat):Int).tmod 8=((k % 8:Nat):Int):=jcp k 8;have d1:=jbw (l:=q) (k:=k / 8) om
  have hap:(digF q k).map Cby++[[vb8 (IntKind.u8.wrap (shF false .u64 (atU q (k / 8)) (8*((k % 8:Nat):Int))))]]=(digF q (k+1)).map Cby:=by
   rw[digF_succ,List.map_append,List.map_singleton];simp only[Cby,vb8,byte_back]
  have hdl:(digF q k).length=k:=by unfold digF; rw[List.length_map,List.length_range]
  refine runW (ai q1 (ai q2 (ai d1 hap))) ?_;exact zm
 ·have hk:k=32:=om
  subst hk;have hby:=byL_cs (digF q 32);rw[<- bys_flat] at hby;refine runW hby ?_;exact zb6
theorem jqp (L:LibT T) (d:Str) (hd:d.length<=1073741824):Den prog T 23 [.str d] (.str (sumD d)):=by
 have hz:jav.length=25:=rfl;have hW:=denS_Write (T:=T) jav d hz hd;have h1:=absF_len d.length jav d (Nat.le_refl _);have h2:=jq9 d.length jav d hz;have hS:=denS_HashSum L (absF d.length jav d).1 (absF d.length jav d).2 (d.length:Int) h2 h1;have he:digF (jbm (absF d.length jav d).1 (padF (absF d.length jav d).2)) 32=sumD d:=rfl;rw[he] at hS;obtain ⟨⟨s,r⟩,hp⟩:∃p,absF d.length jav d=p:=⟨_,rfl⟩;rw[hp] at hW hS;refine ja0 call23 func23 11 ?_;refine run ?_;refine jdv (callU 4 denU_New ?_ ?_)
 ·rintro r ⟨b,h,-⟩;cases h
 rintro k v ⟨b,hk,rfl⟩ hnm;cases hk;refine run ?_;refine jdv (callS [(999000,4)] hW (.cons (.pn rfl rfl) (.cons (.v _) .nil)) ?_ ?_)
 ·exact zcy
 refine run ?_;refine jdv (callS [(999000,4)] hS (.cons (.pn rfl rfl) .nil) ?_ ?_)
 ·exact zcy
 exact za
theorem jhl (n a b:Int):Den prog T 28 [vi n,vi a,vi b] (vb (decide (a<=n) && decide (n<=b))):=by
 refine ja0 call28 func28 15 ?_;by_cases h1:a<=n <;> by_cases h2:n<=b <;> (refine run ?_; refine fin (ja3 ?_); simp; try omega)
theorem idB_and (n:Int):(decide (1<=n) && decide (n<=1073741824))=idB n:=by unfold idB; simp
theorem jl2 (n:Int):Den prog T 26 [vi n] (vb (idB n)):=by
 rw[<- idB_and];refine ja0 call26 func26 5 ?_;refine rc (jhl n 1 1073741824) ?_;exact za
theorem joy (n:Int):Den prog T 27 [vi n] (vb (dayG n)):=by
 refine ja0 call27 func27 5 ?_;refine rc (jhl n 0 1048575) ?_;exact za
theorem jri (l:List Int) (hl:l.length<=1048576):Den prog T 29 [ints l] (vb (risI l)):=by
 refine ja0 call29 func29 21 ?_;refine run ?_;refine ja7 ⟨[7,0,6],[],[],[]⟩ l.length (fun k=>∀j,j<k->∀x y,l[j]? = some x->l[j+1]? = some y->x<y) (fun j hj=>absurd hj (Nat.not_lt_zero j)) ?_;rintro k ⟨hk,hall⟩;by_cases hlt:k+1<l.length
 ·obtain ⟨x,hx,-,-⟩:=ja1 (l:=l) (k:=k) om;obtain ⟨y,hy,-,-⟩:=ja1 (l:=l) (k:=k+1) hlt;by_cases hxy:x<y
  ·refine runW (ai hx hy) ?_;refine round (k+1) ⟨om,fun j hj u v hu hv=> ?_⟩ om;rcases Nat.lt_or_ge j k with h | h
   ·exact hall j h u v hu hv
   ·have:j=k:=om
    subst this;rw[hx] at hu; rw[hy] at hv;cases hu; cases hv;exact hxy
  ·refine runW (ai hx hy) ?_;refine fin (ja3 ?_)
   symm
   rw[Bool.eq_false_iff];intro h;exact hxy ((jfz l).1 h k x y hx hy)
 ·refine run ?_;refine fin (ja3 ?_)
  symm
  rw[jfz];intro j x y hx hy;have:=(gsi.1 hy).1;exact hall j om x y hx hy
def dig7 (c:Crt):List Str:=[[99,101,114,116,105,102,105,99,97,116,101],decS c.num,[112,114,111,112,111,115,97,108],decS c.prp,[100,97,121],decS c.day,[102,105,108,101,115]]
theorem jdn {α:Type} {l:List α} {k:Nat} {x:α} (h:l[k]? = some x):l.take (k+1)=l.take k++[x]:=by
 obtain ⟨hlt,rfl⟩:=gsi.1 h;rw[List.take_succ_eq_append_getElem hlt]
theorem join_snoc:∀(l:List Str) (x sep:Str),l≠[]->Lib.join (l++[x]) sep=Lib.join l sep++sep++x
 | [],_,_,h=>absurd rfl h
 | [a],x,sep,_=>by simp[Lib.join,List.intercalate]
 | a::b::r,x,sep,_=>by
  have ih:=join_snoc (b::r) x sep (List.cons_ne_nil _ _);simp only[Lib.join,List.intercalate,List.cons_append,List.intersperse_cons_cons,List.flatten_cons] at ih ⊢;rw[ih];simp only[List.append_assoc]
theorem join_fls (l:List Str) (hl:l≠[]):∀fs:List Int,Lib.join (l++fs.map decS) [32]=Lib.join l [32]++flsT fs:=by
 intro fs
 induction fs generalizing l with
 | nil=>simp[flsT]
 | cons f fs ih=>
  have:=ih (l++[decS f]) sm;rw[List.map_cons,show l++decS f::fs.map decS=l++[decS f]++fs.map decS by simp,this,join_snoc l (decS f) [32] hl];simp[flsT]
theorem join_dig (c:Crt):Lib.join (dig7 c++c.fls.map decS) [32]++[10]++c.bef=crtT c:=by
 rw[join_fls _ (by simp[dig7])];unfold crtT dig7 xCert jkt xDayS xFiles;simp[Lib.join,List.intercalate,List.intersperse]
structure CrtOk (c:Crt):Prop where
 num:idB c.num=true
 prp:idB c.prp=true
 day:dayG c.day=true
 ne:1<=c.fls.length
 le:c.fls.length<=256
 ris:risI c.fls=true
 ids:c.fls.all idB=true
 bef:c.bef.length=32
theorem jng (c:Crt):crtB c=true↔CrtOk c:=by
 unfold crtB;simp only[Bool.and_eq_true,decide_eq_true_eq];constructor
 ·rintro ⟨⟨⟨⟨⟨⟨⟨a,b⟩,d⟩,e⟩,f⟩,g⟩,h⟩,i⟩;exact ⟨a,b,d,e,f,g,h,i⟩
 ·rintro ⟨a,b,d,e,f,g,h,i⟩;exact ⟨⟨⟨⟨⟨⟨⟨a,b⟩,d⟩,e⟩,f⟩,g⟩,h⟩,i⟩
abbrev digV (c:Crt):V:= .tup [.str (digR c).1,vi (digR c).2]
theorem jfi {c:Crt} (h:¬CrtOk c):digV c= .tup [.str [],vi 1]:=by
 have:¬crtB c=true:=fun e=>h ((jng c).1 e);unfold digV digR;rw[if_neg this]
theorem digV_ok {c:Crt} (h:CrtOk c):digV c= .tup [.str (sumD (crtT c)),vi 0]:=by
 unfold digV digR;rw[if_pos ((jng c).2 h)]
theorem jef {n:Int} (h:idB n=true):1<=n/\n<=1073741824:=by unfold idB at h; exact of_decide_eq_true h
theorem jlm {n:Int} (h:dayG n=true):0<=n/\n<=1048575:=by unfold dayG at h; simpa using h
theorem decN_lenD {n:Nat} (h:n<10000000000):(Lib.decDigits n).length<=10:=by
 rw[Lib.decDigits_length];refine Nat.le_of_not_lt fun hlt=> ?_
 have key:∀(k u:Nat),u<10 ^ (k+1)->Lib.nDigits u<=k+1:=by
  intro k
  induction k with
  | zero=>intro u hu; rw[Lib.nDigits_small (by simpa using hu)]; exact Nat.le_refl _
  | succ k ih=>
   intro u hu;by_cases h10:u<10
   ·rw[Lib.nDigits_small h10]; omega
   ·exact zdr
 exact absurd (key 9 n h) om
theorem jfb {n:Int} (h:0<=n/\n<=1073741824):(decS n).length<=10:=by
 rw[decS_nn om];exact decN_lenD om
theorem flat_le {m:Nat} : ∀ {l:List Str},(∀p∈l,p.length<=m)->l.flatten.length<=l.length*m
 | [],_=>by simp
 | p::l,h=>by
  have h1:=h p List.mem_cons_self;have h2:=flat_le (l:=l) fun q hq=>h q (List.mem_cons_of_mem _ hq);simp only[List.flatten_cons,List.length_append,List.length_cons,Nat.add_mul];omega
theorem crtT_len {c:Crt} (h:CrtOk c):(crtT c).length<=10000:=by
 have h1:=jfb (n:=c.num) (by have:=jef h.num; omega);have h2:=jfb (n:=c.prp) (by have:=jef h.prp; omega);have h3:=jfb (n:=c.day) (by have:=jlm h.day; omega)
 have h4:(flsT c.fls).length<=256*11:=by
  have:(flsT c.fls).length<=(c.fls.map fun f=>32::decS f).length*11:=flat_le fun p hp=>by
   obtain ⟨f,hf,rfl⟩:=List.mem_map.1 hp;have:=jfb (n:=f) (by have:=jef (List.all_eq_true.1 h.ids f hf); omega);simp only[List.length_cons];omega
  rw[List.length_map] at this;have:=h.le;omega
 have h5:=h.bef;unfold crtT xCert jkt xDayS xFiles;exact zbz
abbrev gr132:List Gent:=⟨bz 11 0,11,.one 0 0⟩::⟨bz 11 1,10,.one 3 0⟩::⟨bz 11 9,9,.one 6 0⟩::⟨bz 11 73,8,.alt [(1,1),(4,0),(7,2)]⟩::⟨bz 11 89,7,.alt [(1,5),(7,4)]⟩::⟨bz 11 75,7,.alt [(2,2),(4,4),(7,1)]⟩::⟨bz 11 201,7,.alt [(1,0),(4,2)]⟩::⟨bz 11 203,6,.alt [(2,5),(4,4)]⟩::⟨bz 11 79,6,.alt [(4,2),(7,4)]⟩::⟨bz 11 217,6,.alt [(1,2)]⟩::⟨bz 11 91,6,.alt [(2,0),(7,1)]⟩::⟨bz 11 95,5,.alt [(5,2),(7,3)]⟩::⟨bz 11 219,5,.alt [(2,2)]⟩::⟨bz 11 207,5,.alt [(4,1)]⟩::⟨bz 11 127,4,.alt [(7,1)]⟩::⟨bz 11 223,4,.alt [(5,0)]⟩::⟨bz 11 255,3,.alt [(8,0)]⟩::⟨bz 11 511,2,.alt [(9,0)]⟩::⟨bz 11 1023,1,.alt [(10,0)]⟩::⟨bz 11 2047,0,.fin⟩::[]
theorem nth_first {l:List Int} (h:1<=l.length):∃a,l[0]? = some a:=⟨_,gge om⟩
set_option maxHeartbeats 8000000 in
theorem jru (L:LibT T) (c:Crt) (hf:c.fls.length<=1048576) (_hb:c.bef.length<=1048576):Den prog T 8 [.agg c.cs] (digV c):=by
 refine ja0 call8 func8 90 ?_;refine rc (jl2 c.num) ?_;cases h1:idB c.num
 ·rw[jfi fun h=>by have:=h.num; rw[h1] at this; cases this];exact za
 refine rc (jl2 c.prp) ?_;cases h2:idB c.prp
 ·rw[jfi fun h=>by have:=h.prp; rw[h2] at this; cases this];exact za
 refine rc (joy c.day) ?_;cases h3:dayG c.day
 ·rw[jfi fun h=>by have:=h.day; rw[h3] at this; cases this];exact za
 refine rc (jhl (c.fls.length:Int) 1 256) ?_;cases h4:(decide ((1:Int)<=(c.fls.length:Int)) && decide ((c.fls.length:Int)<=256))
 ·rw[jfi fun h=>by
   have e1:=h.ne;have e2:=h.le;simp at h4
   omega]
  exact za
 have h4:1<=c.fls.length/\c.fls.length<=256:=by simp at h4; omega
 refine rc (jri c.fls hf) ?_;cases h5:risI c.fls
 ·rw[jfi fun h=>by have:=h.ris; rw[h5] at this; cases this];exact za
 obtain ⟨a,ha⟩:=nth_first h4.1;obtain ⟨b,hbl⟩:∃b,c.fls[c.fls.length-1]? = some b:=⟨_,gge om⟩;have hids:=rise_idB h5 ha hbl;have ein:((c.fls.length:Int)-1).toNat=c.fls.length-1:=om
 have nn:(0:Int)<=(c.fls.length:Int)-1:=om
 have el:(c.fls.map Cint)[c.fls.length-1]? = some [vi b]:=by rw[List.getElem?_map,hbl]; rfl
 have e0:(c.fls.map Cint)[0]? = some [vi a]:=by rw[List.getElem?_map,ha]; rfl
 by_cases h6:a<1
 ·rw[jfi fun h=>by
   have:=h.ids;rw[hids] at this;simp at this
   omega]
  refine runW (ai ha e0) ?_;exact fin rfl
 by_cases h7:1073741824<b
 ·rw[jfi fun h=>by
   have:=h.ids;rw[hids] at this;simp at this
   omega]
  refine runW (ai ha (ai e0 (ai hbl (ai ein el)))) ?_;exact fin rfl
 by_cases h8:c.bef.length=32
 case neg=>
  rw[jfi fun h=>h8 h.bef];refine runW (ai ha (ai e0 (ai hbl (ai ein el)))) ?_;exact fin rfl
 have hok:CrtOk c:=⟨h1,h2,h3,h4.1,h4.2,h5,by rw[hids]; simp; omega,h8⟩;rw[digV_ok hok];have i1:=jlc L c.num (by have:=jef h1; omega) (by have:=jef h1; omega);have i2:=jlc L c.prp (by have:=jef h2; omega) (by have:=jef h2; omega);have i3:=jlc L c.day (by have:=jlm h3; omega) (by have:=jlm h3; omega)
 have i4:∀f∈c.fls,Den prog T 30 [vi f] (.str (decS f)):=fun f hfm=>by
  have:=jef (List.all_eq_true.1 hok.ids f hfm);exact jlc L f om om
 have hjd:=join_dig c;have hlen:=crtT_len hok
 have hjl:(Lib.join (dig7 c++c.fls.map decS) [32]).length<=10000:=by
  have:=congrArg List.length hjd;simp only[List.length_append] at this;omega
 have hJ:=lib_join L (dig7 c++c.fls.map decS) [32] (by simp[dig7]; omega) om;have hS:=jqp L (crtT c) om;have hd7:dig7 c=[[99,101,114,116,105,102,105,99,97,116,101],decS c.num,[112,114,111,112,111,115,97,108],decS c.prp,[100,97,121],decS c.day,[102,105,108,101,115]]:=rfl;have hd7l:(dig7 c).length=7:=rfl;obtain ⟨n1,hn1⟩:∃n,decS c.num=n:=⟨_,rfl⟩;obtain ⟨n2,hn2⟩:∃n,decS c.prp=n:=⟨_,rfl⟩;obtain ⟨n3,hn3⟩:∃n,decS c.day=n:=⟨_,rfl⟩;simp only[hn1,hn2,hn3] at i1 i2 i3 hd7;obtain ⟨D,hD⟩:∃D,dig7 c=D:=⟨_,rfl⟩;rw[hD] at hd7 hJ hjd hjl hd7l;have hcst:(.slice 1 [Cst [99,101,114,116,105,102,105,99,97,116,101],Cst n1,Cst [112,114,111,112,111,115,97,108],Cst n2,Cst [100,97,121],Cst n3,Cst [102,105,108,101,115]]:V)=strs D:=by rw[hd7]; rfl
 refine runD (ai ha (ai e0 (ai hbl (ai ein el)))) ?_;refine jat gr132 ?_;refine jea (fun _:Unit=>True) ⟨[1,4],[1],[4],[]⟩ (fun _=>⟨90,[(1,.p 1 0),(4,.v (strs D))],[(1,.var c.cs)],[(9,[4])]⟩) (fun st st' hk h=>jbx _ hk h) ?_ (fun K' hK=> ?_)
 rotate_left
 ·refine jab trivial ?_
  try simp only[and_self_right]
  repeat' (with_reducible refine ai ?_ ?_)
  all_goals
   refine call i1 ?_;refine jab trivial ?_
   try simp only[and_self_right]
   repeat' (with_reducible refine ai ?_ ?_)
   all_goals
    refine call i2 ?_;refine jab trivial ?_
    try simp only[and_self,and_self_left,and_self_right,jag,jai]
    repeat' (with_reducible refine ai ?_ ?_)
    all_goals
     refine call i3 ?_;refine jab trivial ?_
     try simp only[and_self,and_self_left,and_self_right,jag,jai]
     repeat' (with_reducible refine ai ?_ ?_)
     all_goals
      refine jdu hK () trivial ?_;rw[<- hcst];rfl
 intro _ _;refine run ?_
 refine loop ⟨[1,4,71,72,73],[1],[4],[]⟩ (fun k:Nat=>k<=c.fls.length) (fun k=>c.fls.length-k)
  (fun k=>⟨90,[(1,.p 1 0),(4,.v (strs (D++(c.fls.take k).map decS))),(71,.v (ints c.fls)),(72,.v (vi c.fls.length)),(73,.v (vi k))],[(1,.var c.cs)],[(9,[4])]⟩) 0 (Nat.zero_le _) ?_ ?_
 ·intro k hk;by_cases hlt:k<c.fls.length
  ·obtain ⟨f,hfx,-,hfm⟩:=ja1 hlt
   have hap:(D++(c.fls.take k).map decS).map Cst++[[V.str (decS f)]]=(D++(c.fls.take (k+1)).map decS).map Cst:=by
    rw[jdn hfx];simp
   have hle:(D++(c.fls.take k).map decS).length<=300:=by rw[List.length_append,List.length_map,List.length_take]; omega
   refine rcW hfx (i4 f hfm) ?_;refine runW (ai hap hle) ?_;exact zm
  ·have hk:k=c.fls.length:=om
   subst hk;rw[List.take_length];refine rc hJ ?_;refine rcW hjd hS ?_;exact za
 ·simp only[List.take_zero,List.map_nil,List.append_nil];rfl
theorem jrq (L:LibT T) (l:List Crt) (i:Nat) (hl:l.length<=1048576) (hi:i<=l.length):Den prog T 72 [crts l,vi i] (.str (befC l i)):=by
 refine ja0 call72 func72 14 ?_;unfold befC jac;by_cases h0:i=0
 ·subst h0;rw[if_pos rfl];refine rc (jrb L 32 om) ?_;exact za
 ·rw[if_neg h0];obtain ⟨x,hx,-,-⟩:=ja1 (l:=l) (k:=i-1) om;rw[hx];exact ze
theorem den_linked (L:LibT T) (l:List Crt) (i:Nat) (hl:l.length<=1048576/\∀c∈l,c.fls.length<=1048576/\c.bef.length<=1048576/\c.dig.length<=1048576) (hi:i<l.length):Den prog T 35 [crts l,vi i] (vb (jc0 l i)):=by
 have hl0:=hl.1;obtain ⟨c,hc,-,hm⟩:=ja1 hi;have hfc:=hl.2 c hm;have hD:=jru L c hfc.1 hfc.2.1;have hlk:jc0 l i=linkC (befC l i) i c:=by unfold jc0; rw[hc]
 rw[hlk];refine ja0 call35 func35 40 ?_;refine rcW hc hD ?_;unfold linkC digV digR;cases h1:crtB c
 ·rw[if_neg dc];exact za
 rw[if_pos rfl];by_cases h2:c.num=(i:Int)+1
 ·cases h3:c.dig == sumD (crtT c)
  ·refine runW (ai (eq_true h2) h3) ?_;exact zr
  ·refine rcW (ai (eq_true h2) h3) (jrq L l i hl0 om) ?_;refine runW (ai (eq_true h2) h3) ?_;exact zr
 ·refine runW (eq_false h2) ?_;exact zr
theorem den_ChainD (L:LibT T) (l:List Crt) (hl:l.length<=1048576/\∀c∈l,c.fls.length<=1048576/\c.bef.length<=1048576/\c.dig.length<=1048576):Den prog T 10 [crts l] (chkV (chainR l)):=by
 have hl0:=hl.1;refine ja0 call10 func10 19 ?_;unfold chainR;by_cases h16:1024<l.length
 ·refine run ?_;refine fin ?_;simp only[chkV,jdz h16]
 refine run ?_;refine ja7 ⟨[10,0,9],[],[],[]⟩ l.length (fun k=>∀i,i<k->(if jc0 l i=true then (0:Int) else 14)=0) (fun i hi=>absurd hi (Nat.not_lt_zero i)) ?_;rintro k ⟨hk,hall⟩;by_cases hlt:k<l.length
 ·refine rc (den_linked L l k hl hlt) ?_;cases hz:jc0 l k
  ·have hbad:=jeb (lim:=1024) (f:=fun i=>if jc0 l i=true then (0:Int) else 14) h16 hlt hall (by rw[hz]; decide);rw[hz] at hbad;refine run ?_;refine fin ?_;simp only[chkV,hbad];rfl
  ·refine run ?_;refine round (k+1) ⟨om,fun i hi=> ?_⟩ om;by_cases e:i=k
   ·rw[e,hz]; rfl
   ·exact zb2
 ·refine run ?_;refine fin ?_;simp only[chkV,jds h16 fun i hi=>hall i om]
theorem den_ixClk (l:List Clk) (f:FuncId) (cap:List V) (p:Clk->Bool) (hl:l.length<=1048576) (hp:∀e∈l,Den prog T f (.agg e.cs::cap) (vb (p e))):
   Den prog T 220 [clks l,.func f cap] (vi (ix p l)):=by
  refine ja0 call220 func220 19 ?_;exact ixPf
theorem den_anyClk (l:List Clk) (f:FuncId) (cap:List V) (p:Clk->Bool) (hl:l.length<=1048576) (hp:∀e∈l,Den prog T f (.agg e.cs::cap) (vb (p e))):
   Den prog T 160 [clks l,.func f cap] (vb (l.any p)):=by
  refine ja0 call160 func160 9 ?_;refine rc (den_ixClk l f cap p hl hp) ?_;exact zbj
theorem den_ixPrp (l:List Prp) (f:FuncId) (cap:List V) (p:Prp->Bool) (hl:l.length<=1048576) (hp:∀e∈l,Den prog T f (.agg e.cs::cap) (vb (p e))):
   Den prog T 120 [prps l,.func f cap] (vi (ix p l)):=by
  refine ja0 call120 func120 19 ?_;exact ixPf
theorem den_anyPrp (l:List Prp) (f:FuncId) (cap:List V) (p:Prp->Bool) (hl:l.length<=1048576) (hp:∀e∈l,Den prog T f (.agg e.cs::cap) (vb (p e))):
   Den prog T 95 [prps l,.func f cap] (vb (l.any p)):=by
  refine ja0 call95 func95 9 ?_;refine rc (den_ixPrp l f cap p hl hp) ?_;exact zbj
theorem den_ixApv (l:List Apv) (f:FuncId) (cap:List V) (p:Apv->Bool) (hl:l.length<=1048576) (hp:∀e∈l,Den prog T f (.agg e.cs::cap) (vb (p e))):
   Den prog T 124 [apvs l,.func f cap] (vi (ix p l)):=by
  refine ja0 call124 func124 19 ?_;exact ixPf
theorem den_anyApv (l:List Apv) (f:FuncId) (cap:List V) (p:Apv->Bool) (hl:l.length<=1048576) (hp:∀e∈l,Den prog T f (.agg e.cs::cap) (vb (p e))):
   Den prog T 57 [apvs l,.func f cap] (vb (l.any p)):=by
  refine ja0 call57 func57 9 ?_;refine rc (den_ixApv l f cap p hl hp) ?_;exact zbj
abbrev rowV (x:Bool×Int):V:= .agg [vb x.1,vi x.2]
theorem jbk (b:Bool) (e:Int):Den prog T 92 [vb b,vi e] (.func 157 [.row [vb b],.row [vi e]]):=by
 refine ja0 call92 func92 6 ?_;exact za
theorem jco (b:Bool) (e:Int):Den prog T 157 [.row [vb b],.row [vi e]] (rowV (b,e)):=by
 refine ja0 call157 func157 6 ?_;exact zt
def fstB:List (Bool×Int)->Int
 | []=>0
 | x::r=>if x.1=true then x.2 else fstB r
theorem fstB_drop {l:List (Bool×Int)} {k:Nat} {x:Bool×Int} (h:l[k]? = some x):fstB (l.drop k)=if x.1=true then x.2 else fstB (l.drop (k+1)):=by
 obtain ⟨hlt,rfl⟩:=gsi.1 h;exact zc0
inductive RowsD (T:Lay):List (List V)->List (Bool×Int)->Prop
 | nil:RowsD T [] []
 | cons {f:FuncId} {cap:List V} {x:Bool×Int} {l:List (List V)} {m:List (Bool×Int)} (h:Den prog T f cap (rowV x)) (t:RowsD T l m):RowsD T ([.func f cap]::l) (x::m)
theorem RowsD.len {l:List (List V)} {m:List (Bool×Int)} (h:RowsD T l m):l.length=m.length:=by
 induction h with
 | nil=>rfl
 | cons _ _ ih=>simp[ih]
theorem RowsD.at {l:List (List V)} {m:List (Bool×Int)} (h:RowsD T l m):∀ {k:Nat},k<l.length->∃f cap x,l[k]? = some [.func f cap]/\m[k]? = some x/\Den prog T f cap (rowV x):=by
 induction h with
 | nil=>intro k hk; exact absurd hk (Nat.not_lt_zero k)
 | cons hd _ ih=>
  intro k hk;cases k with
  | zero=>exact ⟨_,_,_,rfl,rfl,hd⟩
  | succ k=>exact ih (by simpa using hk)
theorem jkk (l:List (List V)) (m:List (Bool×Int)) (h:RowsD T l m) (hl:l.length<=1048576):Den prog T 91 [.slice 1 l] (vi (fstB m)):=by
 have hlen:=h.len;refine ja0 call91 func91 19 ?_;refine run ?_;refine ja7 ⟨[8,6,7],[],[],[]⟩ l.length (fun k=>fstB m=fstB (m.drop k)) rfl ?_;rintro k ⟨hk,hall⟩;by_cases hlt:k<l.length
 ·obtain ⟨f,cap,⟨b,e⟩,h1,h2,h3⟩:=h.at hlt;have hd:=fstB_drop h2;refine rcW h1 h3 ?_;cases b
  ·refine run ?_;exact round (k+1) ⟨hlt,by rw[hall,hd]; rfl⟩ om
  ·refine run ?_;refine fin (ja5 ?_);rw[hall,hd];rfl
 ·refine run ?_;refine fin (ja5 ?_);rw[hall,List.drop_eq_nil_of_le om];rfl
theorem den_clerkOn1 (c:Clk) (n d:Int):Den prog T 161 [.agg c.cs,.row [vi n],.row [vi d]] (vb (jcl n d c)):=by
 refine ja0 call161 func161 23 ?_;unfold jcl inS;by_cases h1:c.id=n
 ·by_cases h2:c.frm<=d
  ·refine run ?_;exact zck
  ·refine run ?_;exact zck
 ·exact zc1
theorem jrn (r:Rgs) (h:r.Fit) (n d:Int):Den prog T 97 [.agg r.cs,vi n,vi d] (vb (jep r.cks n d)):=by
 refine ja0 call97 func97 11 ?_;refine rc (den_anyClk r.cks _ _ (jcl n d) h.cks.1 fun c _=>den_clerkOn1 c n d) ?_;exact za
theorem den_findD1 (p:Prp) (n:Int):Den prog T 121 [.agg p.cs,.row [vi n]] (vb (jar n p)):=by
 refine ja0 call121 func121 8 ?_;exact za
theorem jl3 (r:Rgs) (h:r.Fit) (n:Int):Den prog T 55 [.agg r.cs,vi n] (vi (jcm r.pps n)):=by
 refine ja0 call55 func55 9 ?_;refine rc (den_ixPrp r.pps _ _ (jar n) h.pps.1 fun p _=>den_findD1 p n) ?_;exact za
theorem den_certified1 (c:Crt) (n:Int):Den prog T 123 [.agg c.cs,.row [vi n]] (vb (isCrtP n c)):=by
 refine ja0 call123 func123 8 ?_;exact za
theorem jqn (r:Rgs) (h:r.Fit) (n:Int):Den prog T 56 [.agg r.cs,vi n] (vb (jd0 r.crs n)):=by
 refine ja0 call56 func56 9 ?_;refine rc (den_anyCrt r.crs _ _ (isCrtP n) h.crs.1 fun c _=>den_certified1 c n) ?_;exact za
theorem jlb (i:Nat):(if (0:Int) > (i:Int)-1 then (0:Int) else (i:Int)-1)=((i-1:Nat):Int):=by split <;> omega
def clkRows (q:Option Clk) (c:Clk):List (Bool×Int):=[(!idB c.id || !(decide (1<=c.role) && decide (c.role<=3)) || decide (c.frm<0) || decide (c.til<=c.frm) || decide (1048576<c.til),2),(!name c.name,4),(jj5 q c,5)]
theorem clkRows_ok {l:List Clk} {i:Nat} {c:Clk} (h:l[i]? = some c):fstB (clkRows (jac l i) c)=jbs l i:=by
 unfold jbs clkRows;rw[h];simp only[fstB]
 have hg:(!idB c.id || !(decide (1<=c.role) && decide (c.role<=3)) || decide (c.frm<0) || decide (c.til<=c.frm) || decide (1048576<c.til))=true↔(idB c.id=false\/c.role<1\/3<c.role\/jaq c.frm c.til=false):=by
  unfold jaq;cases idB c.id <;> simp <;> omega
 by_cases h1:idB c.id=false\/c.role<1\/3<c.role\/jaq c.frm c.til=false
 ·rw[if_pos (hg.2 h1),if_pos h1]
 ·rw[if_neg (fun e=>h1 (hg.1 e)),if_neg h1];cases name c.name <;> rfl
set_option maxHeartbeats 8000000 in
theorem den_clerkD (L:LibC T) (r:Rgs) (h:r.Fit) (i:Nat) (hi:i<r.cks.length):Den prog T 38 [.agg r.cs,vi i] (vi (jbs r.cks i)):=by
 have hl:=h.cks.1;obtain ⟨c,hc,-,hm⟩:=ja1 hi;have hN:=jiq L c.name (h.cks.2 c hm);rw[<- clkRows_ok hc]
 have hrow:∀b2 b3,RowsD T [[.func 157 [.row [vb b2],.row [vi 2]]],[.func 157 [.row [vb (!name c.name)],.row [vi 4]]],[.func 157 [.row [vb b3],.row [vi 5]]]] [(b2,2),(!name c.name,4),(b3,5)]:=fun b2 b3=>
  .cons (jco _ _) (.cons (jco _ _) (.cons (jco _ _) .nil))
 have hF:∀b2 b3,Den prog T 91 [.slice 1 [[.func 157 [.row [vb b2],.row [vi 2]]],[.func 157 [.row [vb (!name c.name)],.row [vi 4]]],[.func 157 [.row [vb b3],.row [vi 5]]]]] (vi (fstB [(b2,2),(!name c.name,4),(b3,5)])):=fun b2 b3=>jkk _ _ (hrow b2 b3) (by show (3:Nat)<=1048576; decide)
 have hp:(i=0/\jj5 (jac r.cks i) c=false)\/(i≠0/\∃q,r.cks[i-1]? = some q/\jj5 (jac r.cks i) c=decide (c.id<=q.id)):=by
  by_cases h0:i=0
  ·left; subst h0; exact ⟨rfl,rfl⟩
  ·right;obtain ⟨q,hq,-,-⟩:=ja1 (l:=r.cks) (k:=i-1) om;refine ⟨h0,q,hq,?_⟩;unfold jac;rw[if_neg h0,hq];rfl
 have hcs:(idB c.id=false)\/(idB c.id=true/\(decide (1<=c.role) && decide (c.role<=3))=false)\/(idB c.id=true/\(decide (1<=c.role) && decide (c.role<=3))=true/\c.frm<0)\/(idB c.id=true/\(decide (1<=c.role) && decide (c.role<=3))=true/\¬c.frm<0/\c.til<=c.frm)\/(idB c.id=true/\(decide (1<=c.role) && decide (c.role<=3))=true/\¬c.frm<0/\¬c.til<=c.frm):=by
  cases idB c.id
  ·exact .inl rfl
  ·cases (decide (1<=c.role) && decide (c.role<=3))
   ·exact .inr (.inl ⟨rfl,rfl⟩)
   ·by_cases h1:c.frm<0
    ·exact .inr (.inr (.inl ⟨rfl,rfl,h1⟩))
    ·by_cases h2:c.til<=c.frm
     ·exact .inr (.inr (.inr (.inl ⟨rfl,rfl,h1,h2⟩)))
     ·exact .inr (.inr (.inr (.inr ⟨rfl,rfl,h1,h2⟩)))
 unfold clkRows;refine ja0 call38 func38 66 ?_;rcases hp with ⟨rfl,hpv⟩ | ⟨h0,q,hq,hpv⟩ <;> rw[hpv]
 ·rcases hcs with h1 | ⟨h1,h2⟩ | ⟨h1,h2,h3⟩ | ⟨h1,h2,h3,h4⟩ | ⟨h1,h2,h3,h4⟩
  all_goals
   refine rcW hc (jl2 c.id) ?_;rw[h1];refine runW hc ?_
   try (refine call (jhl c.role 1 3) ?_; rw[h2]; refine runW hc ?_)
   refine call (jbk _ 2) ?_;refine rcW hc hN ?_;refine rcW hc (jbk _ 4) ?_;refine rcW hc (jbk _ 5) ?_;refine rcW hc (hF _ _) ?_;refine runW hc ?_;refine fin (ja5 ?_)
   first | (simp only; done) | simp
 ·have F:=ai hc (ai hq (jlb i));rcases hcs with h1 | ⟨h1,h2⟩ | ⟨h1,h2,h3⟩ | ⟨h1,h2,h3,h4⟩ | ⟨h1,h2,h3,h4⟩
  all_goals
   refine rcW F (jl2 c.id) ?_;rw[h1];refine runW F ?_
   try (refine call (jhl c.role 1 3) ?_; rw[h2]; refine runW F ?_)
   refine call (jbk _ 2) ?_;refine rcW F hN ?_;refine rcW F (jbk _ 4) ?_;refine rcW F (jbk _ 5) ?_;refine rcW F (hF _ _) ?_;refine runW F ?_;refine fin (ja5 ?_)
   first | (simp only; done) | simp
def prpRows (r:Rgs) (pre:List Prp) (q:Option Prp) (p:Prp):List (Bool×Int):=
 [(!idB p.id || !dayG p.day || !wdrB p,2),(jeh q p,5),(!jep r.cks p.clk p.day,7),(decide ((p.fls.length:Int)=0),9),(p.fls.any fun f=>decide (jbp r.fls f<0),7),(!risI p.fls,5),(p.fls.any (jhe pre p.day),6)]
theorem jot (l:List Fil) (n:Int):hasF l n= !decide (jbp l n<0):=by
 unfold hasF jbp;rcases jee (jdl n) l with ⟨h1,h2⟩ | ⟨k,x,h1,-,-,h4,h5⟩
 ·rw[h1];have:l.any (fun f=>decide (f.id=n))=false:=List.any_eq_false.2 fun x hx e=>List.find?_eq_none.1 h2 x hx e;rw[this]; rfl
 ·rw[h1];have:l.any (fun f=>decide (f.id=n))=true:=List.any_eq_true.2 ⟨x,h4,List.find?_some (p:=jdl n) h5⟩;rw[this];simp
theorem prpRows_ok (r:Rgs) (pre:List Prp) (q:Option Prp) (p:Prp):fstB (prpRows r pre q p)=prpE r pre q p:=by
 unfold prpE prpRows;simp only[fstB]
 have e1:(!idB p.id || !dayG p.day || !wdrB p)=true↔(idB p.id=false\/dayG p.day=false\/wdrB p=false):=by
  cases idB p.id <;> cases dayG p.day <;> cases wdrB p <;> simp
 have e4:decide ((p.fls.length:Int)=0)=true↔p.fls=[]:=by
  rw[decide_eq_true_eq];constructor
  ·intro h; exact List.eq_nil_of_length_eq_zero om
  ·intro h; rw[h]; rfl
 have e5:(p.fls.any fun f=>decide (jbp r.fls f<0))=true↔p.fls.all (hasF r.fls)=false:=by
  rw[List.any_eq_true,List.all_eq_false];constructor
  ·rintro ⟨f,hf,h⟩;exact ⟨f,hf,by rw[jot,h]; decide⟩
  ·rintro ⟨f,hf,h⟩;refine ⟨f,hf,?_⟩;rw[jot] at h;simpa using h
 by_cases h1:idB p.id=false\/dayG p.day=false\/wdrB p=false
 ·rw[if_pos (e1.2 h1),if_pos h1]
 rw[if_neg (fun e=>h1 (e1.1 e)),if_neg h1];by_cases h2:jeh q p=true
 ·rw[if_pos h2,if_pos h2]
 rw[if_neg h2,if_neg h2];cases h3:jep r.cks p.clk p.day
 ·rfl
 simp only[Bool.not_true,Bool.false_eq_true,reduceCtorEq,if_false];by_cases h4:p.fls=[]
 ·rw[if_pos (e4.2 h4),if_pos h4]
 rw[if_neg (fun e=>h4 (e4.1 e)),if_neg h4];by_cases h5:p.fls.all (hasF r.fls)=false
 ·rw[if_pos (e5.2 h5),if_pos h5]
 rw[if_neg (fun e=>h5 (e5.1 e)),if_neg h5];cases h6:risI p.fls
 ·rfl
 ·simp only[Bool.not_true,Bool.false_eq_true,reduceCtorEq,if_false]
theorem den_prop2 (r:Rgs) (h:r.Fit) (f:Int):Den prog T 99 [vi f,.row r.cs] (vb (decide (jbp r.fls f<0))):=by
 have hl:=h.fls.1;refine ja0 call99 func99 9 ?_;refine rc (jq0 r.fls f hl) ?_;exact za
theorem den_prop11 (q p:Prp) (f:Int) (hq:q.fls.length<=1048576):Den prog T 96 [.agg q.cs,.row p.cs,.row [vi f]] (vb (jf7 p.day f q)):=by
 refine ja0 call96 func96 16 ?_;unfold jf7;by_cases h1:p.day<q.wdr
 ·refine rc (jmg q.fls f hq) ?_;refine run ?_;refine fin (ja3 ?_);simp only[hasI];congr 1
  funext y
  exact decide_eq_decide.2 eq_comm
 ·refine run ?_;refine fin (ja3 ?_);simp[]
theorem den_prop1 (r:Rgs) (h:r.Fit) (i:Nat) (hi:i<=r.pps.length) (p:Prp) (f:Int):Den prog T 94 [vi f,.row r.cs,.row [vi i],.row p.cs] (vb (jhe (r.pps.take i) p.day f)):=by
 have hl:=h.pps.1;have hA:=den_anyPrp (T:=T) (r.pps.take i) 96 [.row p.cs,.row [vi f]] (jf7 p.day f) ze8 fun q hq=>den_prop11 q p f (h.pps.2 q (List.mem_of_mem_take hq));have ht:(r.pps.map Prp.cs).take i=(r.pps.take i).map Prp.cs:=by rw[List.map_take]
 refine ja0 call94 func94 12 ?_;refine rcW ht hA ?_;exact za
end Go.Arc
