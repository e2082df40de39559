/- A part of this claim. -/
import Derived.Test.YtagljlfkpofdnaaGreatDoorBaF
import Derived.Shelf.Strings.OnBuilder
import Derived.Shelf.Strings.Search3
set_option maxRecDepth 100000
namespace Go.Arc
open Go.Ab Go.RowKit Go.Proofs
variable {T : Lay}
theorem denS_stabI (kk:Option (TypeId×Nat×Nat)) (l:List Int) (f:FuncId) (cap:List V) (lt:Int->Int->Bool) (hl:l.length<20) (h0:l≠[]) (hc:CmpI T f cap lt l):
  DenS Tryz.prog T 115 [(999000,.var (l.map vint) none kk)] [] [.s 999000 0 l.length 1,.v (vi l.length),.v (.func f cap)] [(999000,.var ((srtS lt l).map vint) none kk)] [] (.v (.tup [])):=by
 have hlen:0<l.length:=List.length_pos_iff.2 h0;have hn:((20:Int)<=(l.length:Int))=False:=eq_false (by omega);have hn2:((20:Int)<(l.length:Int))=False:=eq_false (by omega);refine denS_of_body follows (fun args w=>Tryz.call115 args w) Tryz.func115 rfl 63 rfl rfl ?_;refine run ?_
 refine loop ⟨[0,1,2,6,7,8],[999000],[],[]⟩ (fun _:Unit=>True) (fun _=>0)
  (fun _=>⟨63,[(0,.s 999000 0 l.length 1),(1,.v (vi l.length)),(2,.v (.func f cap)),(6,.v (vi 20)),(7,.v (vi 0)),(8,.v (vi 20))],[(999000,.var (l.map vint) none kk)],[]⟩) () trivial ?_
 rintro ⟨⟩ -;refine runW hn ?_;refine callS [(999000,999000)] (denS_insI kk l f cap lt (by omega) h0 hc) (.cons (.s rfl) (.cons (.v _) (.cons (.v _) (.cons (.v _) .nil)))) ?_ ?_
 ·intro x hx;simp only[List.mem_singleton] at hx;subst hx;exact ⟨999000,_,rfl,rfl,rfl,.inl rfl,rfl⟩
 refine run ?_
 refine loop ⟨[0,1,2,6,7,8],[999000],[],[]⟩ (fun _:Unit=>True) (fun _=>0)
  (fun _=>⟨63,[(0,.s 999000 0 l.length 1),(1,.v (vi l.length)),(2,.v (.func f cap)),(6,.v (vi 20)),(7,.v (vi 0)),(8,.v (vi 20))],[(999000,.var ((srtS lt l).map vint) none kk)],[]⟩) () trivial ?_
 rintro ⟨⟩ -;refine runW hn2 ?_;exact finS1 (.v (.refl _))
theorem denS_srtI (kk:Option (TypeId×Nat×Nat)) (l:List Int) (f:FuncId) (cap:List V) (lt:Int->Int->Bool) (hl:l.length<20) (h0:l≠[]) (hc:CmpI T f cap lt l):
  DenS Tryz.prog T 66 [(999000,.var (l.map vint) none kk)] [] [.s 999000 0 l.length 1,.v (.func f cap)] [(999000,.var ((srtS lt l).map vint) none kk)] [] (.v (.tup [])):=by
 have hlen:0<l.length:=List.length_pos_iff.2 h0;refine denS_of_body follows (fun args w=>Tryz.call66 args w) Tryz.func66 rfl 9 rfl rfl ?_;refine run ?_;refine callS [(999000,999000)] (denS_stabI kk l f cap lt hl h0 hc) (.cons (.s rfl) (.cons (.v _) (.cons (.v _) .nil))) ?_ ?_
 ·intro x hx;simp only[List.mem_singleton] at hx;subst hx;exact ⟨999000,_,rfl,rfl,rfl,.inl rfl,rfl⟩
 refine run ?_;exact finS1 (.v (.refl _))
def cmpZ (a b:Int):Int:=if a<b then -1 else if b<a then 1 else 0
theorem den_nanI (a:Int):Den Tryz.prog T 104 [vi a] (vb false):=by
 refine den_of_body follows (fun args w=>Tryz.call104 args w) Tryz.func104 rfl 6 rfl ?_;refine run ?_;exact fin rfl
theorem den_cmpI (a b:Int):Den Tryz.prog T 68 [vi a,vi b] (vi (cmpZ a b)):=by
 refine den_of_body follows (fun args w=>Tryz.call68 args w) Tryz.func68 rfl 20 rfl ?_;refine run ?_;refine call (den_nanI a) ?_;refine run ?_;refine call (den_nanI b) ?_;unfold cmpZ;by_cases h1:a<b
 ·rw[if_pos h1];refine runW (eq_true h1) ?_;exact fin rfl
 ·rw[if_neg h1];by_cases h2:b<a
  ·rw[if_pos h2];refine runW (And.intro (eq_false h1) (eq_true h2)) ?_;exact fin rfl
  ·rw[if_neg h2];refine runW (And.intro (eq_false h1) (eq_false h2)) ?_;exact fin rfl
theorem cmpZ_lt (a b:Int):decide (cmpZ a b<0)=decide (a<b):=by
 unfold cmpZ;by_cases h1:a<b
 ·rw[if_pos h1,decide_eq_true h1]; rfl
 ·rw[if_neg h1,decide_eq_false h1];split <;> rfl
theorem den_quoC (n t:Int) (cs:List Int) (hcl:cs.length<=1000) (hn:0<=n/\n<=1048576000) (ht:0<t) (hcs:∀c∈cs,0<=c/\c<=1048576) (a b:Int) (ha:0<=a/\a<cs.length) (hb:0<=b/\b<cs.length):
  Den Tryz.prog T 67 [vi a,vi b,.row [vi n],.row [ints cs],.row [vi t]] (vi (cmpZ (remQ n t cs b) (remQ n t cs a))):=by
 obtain ⟨i,rfl⟩:∃i:Nat,a=i:=⟨a.toNat,by omega⟩;obtain ⟨j,rfl⟩:∃j:Nat,b=j:=⟨b.toNat,by omega⟩;obtain ⟨x,hx⟩:∃x,cs[i]? = some x:=⟨_,List.getElem?_eq_getElem (by omega)⟩;obtain ⟨y,hy⟩:∃y,cs[j]? = some y:=⟨_,List.getElem?_eq_getElem (by omega)⟩;have hx2:=hcs x (List.mem_of_getElem? hx);have hy2:=hcs y (List.mem_of_getElem? hy);have e1:remQ n t cs i=n*x % t:=by unfold remQ; rw[Int.toNat_natCast,List.getD_eq_getElem?_getD,hx]; rfl
 have e2:remQ n t cs j=n*y % t:=by unfold remQ; rw[Int.toNat_natCast,List.getD_eq_getElem?_getD,hy]; rfl
 have m1:0<=n*x:=Int.mul_nonneg hn.1 hx2.1;have m2:0<=n*y:=Int.mul_nonneg hn.1 hy2.1;have m3:n*x<=1048576000*1048576:=Int.mul_le_mul hn.2 hx2.2 hx2.1 (by decide);have m4:n*y<=1048576000*1048576:=Int.mul_le_mul hn.2 hy2.2 hy2.1 (by decide);rw[e1,e2,<- Int.tmod_eq_emod_of_nonneg m1,<- Int.tmod_eq_emod_of_nonneg m2];obtain ⟨p,hp⟩:∃p,n*x=p:=⟨_,rfl⟩;obtain ⟨q,hq⟩:∃q,n*y=q:=⟨_,rfl⟩;rw[hp] at m1 m3;rw[hq] at m2 m4;rw[hp,hq];have ht0:¬t=0:=by omega
 refine den_of_body follows (fun args w=>Tryz.call67 args w) Tryz.func67 rfl 25 rfl ?_;refine runW (And.intro hx (And.intro hy (And.intro hp (And.intro hq ht0)))) ?_;refine call (den_cmpI (q.tmod t) (p.tmod t)) ?_;refine run ?_;exact fin rfl
theorem finFr13 {P:Program} {t u id r n cap size:Nat} {e:TypeId} {cs:List V} {nm:Option Nat} {st:St} {v w:V} (hr:Wk (.tup [.slice size (chunk 0 n size cs),w]) v) (h3:n<=cap) (h4:n*size<=cs.length) (hf:findN r st.h=some id)
  (h1:Ab.look t st.t=some (.v (.val (.slice (some ⟨r,0,none⟩) n cap))):=by rfl) (h2:Ab.look id st.h=some (.var cs nm (some (e,size,cap))):=by rfl)
  (hu:Ab.look u st.t=some (.v w):=by rfl) (hn:u≠t:=by decide) (hv:∀r n cap,w≠ .val (.slice (some ⟨r,0,none⟩) n cap):=by intro _ _ _ h; cases h):fpost P [.tmp t,.tmp u] v .rt st:=by
 refine .inr ⟨_,?_,hr⟩
 show resS P (frzt1 u (frzt1 t st)) _=_
 rw[frzt1_r h1 hf h2 h3 h4,frzt1_v (v:=w) (by rw[look_cons',if_neg hn]; exact hu) hv];exact resS2 (by simp only[resV,σ_mk,look_cons',↓reduceIte,vOf_v]) (by simp only[resV,σ_mk]; rw[look_cons',if_neg hn,hu]; rfl)
def rowZ (Z:List Int) (k:Nat):List V:=(Z.take k++List.replicate (Z.length-k) 0).map vint
theorem rowZ_len {Z:List Int} {k:Nat} (h:k<=Z.length):(rowZ Z k).length=Z.length:=by
 unfold rowZ; rw[List.length_map,List.length_append,List.length_take,List.length_replicate]; omega
theorem rowZ_0 (Z:List Int):rowZ Z 0=List.replicate Z.length (vi 0):=by
 unfold rowZ; rw[List.take_zero,List.nil_append,List.map_replicate]; rfl
theorem rowZ_end (Z:List Int):rowZ Z Z.length=Z.map vint:=by
 unfold rowZ; rw[List.take_length,Nat.sub_self,List.replicate_zero,List.append_nil]
theorem rowZ_put {Z:List Int} {k:Nat} {z:Int} (h:Z[k]? = some z):(rowZ Z k).take k++[vi z]++(rowZ Z k).drop (k+1)=rowZ Z (k+1):=by
 obtain ⟨hlt,rfl⟩:=List.getElem?_eq_some_iff.1 h;have h1:(Z.take k).length=k:=by rw[List.length_take]; omega
 unfold rowZ;obtain ⟨m,hm⟩:∃m,Z.length-k=m+1:=⟨Z.length-k-1,by omega⟩;rw[hm,show Z.length-(k+1)=m by omega,List.replicate_succ,List.take_succ_eq_append_getElem hlt];generalize Z.take k=A at h1;subst h1;have e2:List.take A.length (A.map vint)=A.map vint:=List.take_of_length_le (by rw[List.length_map]; omega);have e3:List.drop (A.length+1) (A.map vint)=[]:=List.drop_eq_nil_of_le (by rw[List.length_map]; omega);have e4:A.length+1-A.length=1:=by omega
 simp[List.take_append,List.drop_append,e2,e3,e4,vint]
theorem rowZ_at {Z:List Int} {k:Nat} {z:Int} (h:Z[k]? = some z):(rowZ Z (k+1)).drop k=vi z::(List.replicate (Z.length-(k+1)) 0).map vint:=by
 obtain ⟨hlt,rfl⟩:=List.getElem?_eq_some_iff.1 h;have h1:(Z.take k).length=k:=by rw[List.length_take]; omega
 unfold rowZ;rw[List.take_succ_eq_append_getElem hlt];generalize Z.take k=A at h1;subst h1;have e3:List.drop A.length (A.map vint)=[]:=List.drop_eq_nil_of_le (by rw[List.length_map]; omega);simp[List.drop_append,e3,vint]
abbrev gr176:List Gent:=⟨bz 10 0,10,.ld 0 0⟩::⟨bz 10 1,9,.ld 3 0⟩::⟨bz 10 9,8,.ld 6 0⟩::⟨bz 10 73,7,.alt [(1,1),(4,0)]⟩::⟨bz 10 89,6,.alt [(1,3),(5,1)]⟩::⟨bz 10 75,6,.alt [(2,1),(4,2)]⟩::⟨bz 10 121,5,.alt [(1,4)]⟩::⟨bz 10 79,5,.alt [(4,2),(7,1)]⟩::⟨bz 10 91,5,.alt [(2,1),(5,2)]⟩::⟨bz 10 207,4,.alt [(4,3)]⟩::⟨bz 10 95,4,.alt [(5,1),(7,2)]⟩::⟨bz 10 123,4,.alt [(2,0)]⟩::⟨bz 10 127,3,.alt [(7,1)]⟩::⟨bz 10 223,3,.alt [(5,0)]⟩::⟨bz 10 255,2,.alt [(8,0)]⟩::⟨bz 10 511,1,.alt [(9,0)]⟩::⟨bz 10 1023,0,.fin⟩::[]
theorem quoE_2a {n:Int} {cs:List Int} (hl:¬ 128<cs.length) (h:quoOk cs=false):quoE n cs=2:=by unfold quoE; rw[if_neg hl,if_pos h]
theorem quoE_2b {n:Int} {cs:List Int} (hl:¬ 128<cs.length) (h:quoOk cs=true) (h2:decide (0<=n/\n<=sumI cs)=false):quoE n cs=2:=by unfold quoE; rw[if_neg hl,if_neg (by rw[h]; decide),if_pos h2]
theorem quoE_0 {n:Int} {cs:List Int} (hl:¬ 128<cs.length) (h:quoOk cs=true) (h2:decide (0<=n/\n<=sumI cs)=true):quoE n cs=0:=by unfold quoE; rw[if_neg hl,if_neg (by rw[h]; decide),if_neg (by rw[h2]; decide)]
theorem quoR_e {n e:Int} {cs:List Int} (h:quoE n cs=e) (he:e≠0):quoR n cs=[]:=by unfold quoR; rw[if_pos (by rw[h]; exact he)]
set_option maxHeartbeats 4000000 in
theorem den_Quotas (n:Int) (cs:List Int) (hl:cs.length<20):Den Tryz.prog T 26 [vi n,ints cs] (.tup [ints (quoR n cs),vi (quoE n cs)]):=by
 have hl1:¬ 128<cs.length:=by omega
 have hlf:((128:Int)<(cs.length:Int))=False:=eq_false (by omega);refine den_of_body follows (fun args w=>Tryz.call26 args w) Tryz.func26 rfl 91 rfl ?_;refine runW hlf ?_
 refine loop ⟨[2,3,6,19,20,21],[2,3,6],[],[]⟩ (fun k:Nat=>k<=cs.length/\∀c∈cs.take k,decide (0<=c/\c<=1048576)=true) (fun k=>cs.length-k)
  (fun k=>⟨91,[(2,.p 2 0),(3,.p 3 0),(6,.p 6 0),(19,.v (ints cs)),(20,.v (vi cs.length)),(21,.v (vi k))],[(2,.var [vi n]),(3,.var [ints cs]),(6,.var [vi (sumI (cs.take k))])],[]⟩) 0 ⟨Nat.zero_le _,by simp⟩ ?_
 rintro k ⟨hk,hall⟩;have hsl:0<=sumI (cs.take k)/\sumI (cs.take k)<=(cs.take k).length*1048576:=sumI_le fun c hc=>of_decide_eq_true (hall c hc);have htl:(cs.take k).length=k:=by rw[List.length_take]; omega
 by_cases hlt:k<cs.length
 ·obtain ⟨x,hx,-,hm⟩:=drop_at hlt;have hsn:=sumI_snoc hx;refine runW hx ?_;refine call (den_inside13 x 0 1048576) ?_;cases hb:decide (0<=x/\x<=1048576)
  ·have hq:quoOk cs=false:=by
    cases e:quoOk cs
    ·rfl
    ·have:=List.all_eq_true.1 e x hm; rw[hb] at this; cases this
   rw[quoE_2a hl1 hq,quoR_e (quoE_2a hl1 hq) (by decide)];refine run ?_;exact finW (wk_t13 (.nil 1))
  ·have hx2:=of_decide_eq_true hb;obtain ⟨S,hS⟩:∃S,sumI (cs.take k)=S:=⟨_,rfl⟩;rw[hS] at hsn hsl ⊢;refine runW hsn.symm ?_;exact round (k+1) ⟨hlt,take_snoc hall hx hb⟩ (by omega)
 have hok:quoOk cs=true:=List.all_eq_true.2 (take_all hall hlt);have hcs:∀c∈cs,0<=c/\c<=1048576:=fun c hc=>quoOk_at hok hc;have hkl:k=cs.length:=by omega
 subst hkl;rw[List.take_length] at hsl ⊢;obtain ⟨t,ht⟩:∃t,sumI cs=t:=⟨_,rfl⟩;rw[ht] at hsl ⊢;refine run ?_;refine call (den_inside13 n 0 t) ?_;cases hb:decide (0<=n/\n<=t)
 ·have he:=quoE_2b hl1 hok (n:=n) (by rw[ht]; exact hb);rw[he,quoR_e he (by decide)];refine run ?_;exact finW (wk_t13 (.nil 1))
 have hnt:=of_decide_eq_true hb;have he:=quoE_0 hl1 hok (n:=n) (by rw[ht]; exact hb);rw[he];refine runD trivial ?_;refine aw_frz 2 ?_;refine aw_frz 3 ?_;refine aw_frz 6 ?_
 refine aw_end .nm (fun y:Nat×Nat=>y.1≠y.2) (fun y=>⟨91,[(2,.p 2 0),(3,.p 3 0),(6,.p 6 0),(9,.v (.val (.slice (some ⟨y.1,0,none⟩) cs.length cs.length))),(10,.v (.val (.slice (some ⟨y.2,0,none⟩) cs.length cs.length))),(11,.v (vi n))],
  [(38,.var (List.replicate cs.length (vi 0)) (some y.1) (some (3,1,cs.length))),(41,.var (List.replicate cs.length (vi 0)) (some y.2) (some (3,1,cs.length))),(2,.con [vi n]),(3,.con [ints cs]),(6,.con [vi t])],[]⟩) ?_ ?_
 ·intro E hE;refine aw_graph gr176 ?_;refine runGraph trivial ?_
  try simp only[and_self,and_self_left,and_self_right,and_e1,and_e2]
  refine ⟨⟨Int.le_refl _,⟨by omega,by omega⟩,fun r1 _=>⟨Int.le_refl _,⟨by omega,by omega⟩,fun r2 h2=> ?_⟩⟩,Int.le_refl _,⟨by omega,by omega⟩,fun r2 _=>⟨Int.le_refl _,⟨by omega,by omega⟩,fun r1 h1=> ?_⟩⟩
  ·refine hE (r1,r2) _ (h2 38 _ r1 rfl rfl) ?_;refine sub_of [38,41,2,3,6] [2,3,6,9,10,11] rfl rfl rfl (fun id k e=> ?_) rfl;simp only[look_cons',look_nil] at e ⊢;by_cases a:id=38 <;> by_cases b:id=41 <;> simp_all
  ·refine hE (r1,r2) _ (Ne.symm (h1 41 _ r2 rfl rfl)) ?_;refine sub_of [38,41,2,3,6] [2,3,6,9,10,11] rfl rfl rfl (fun id k e=> ?_) rfl;simp only[look_cons',look_nil] at e ⊢;by_cases a:id=38 <;> by_cases b:id=41 <;> simp_all
 rintro ⟨r1,r2⟩ hne;simp only at hne
 show aw _ _ _ ⟨91,[(2,.p 2 0),(3,.p 3 0),(6,.p 6 0),(9,.v (.val (.slice (some ⟨r1,0,none⟩) cs.length cs.length))),(10,.v (.val (.slice (some ⟨r2,0,none⟩) cs.length cs.length))),(11,.v (vi n))],
  [(38,.var (List.replicate cs.length (vi 0)) (some r1) (some (3,1,cs.length))),(41,.var (List.replicate cs.length (vi 0)) (some r2) (some (3,1,cs.length))),(2,.con [vi n]),(3,.con [ints cs]),(6,.con [vi t])],[]⟩ _
 have hne':(r2=r1)=False:=eq_false (Ne.symm hne);by_cases ht0:t=0
 ·have hr:quoR n cs=List.replicate cs.length 0:=by unfold quoR; rw[if_neg (by rw[he]; decide),if_pos (ht.trans ht0)]
  rw[hr];refine runW ht0 ?_;refine finFr13 (id:=38) (r:=r1) (n:=cs.length) (cap:=cs.length) (e:=3) (size:=1) (cs:=List.replicate cs.length (vi 0)) ?_ (Nat.le_refl _) ?_ ?_
  ·have:=ints_chunk13 (List.replicate cs.length 0);rw[List.length_replicate,List.map_replicate] at this;rw[show List.replicate cs.length (vi 0)=List.replicate cs.length (vint 0) from rfl,this];exact .refl _
  ·rw[List.length_replicate]; omega
  ·simp[findN,findK,Blk.nm,nmOf,look_cons']
 have htp:0<t:=by omega
 have hcl:0<cs.length:=by
  rcases Nat.eq_zero_or_pos cs.length with h | h
  ·have:cs=[]:=List.length_eq_zero_iff.1 h;subst this;simp[sumI] at ht;omega
  ·exact h
 obtain ⟨Q,hQ⟩:∃Q,baseQ n t cs=Q:=⟨_,rfl⟩;have hQl:Q.length=cs.length:=by rw[<- hQ,baseQ_len]
 obtain ⟨I,hI⟩:∃I,idxQ cs.length=I:=⟨_,rfl⟩;have hIl:I.length=cs.length:=by rw[<- hI,idxQ_len]
 have hnb:n<=20*1048576:=by omega
 have hprod:∀x∈cs,0<=n*x/\n*x<=20971520*1048576:=fun x hx=>⟨Int.mul_nonneg hnt.1 (hcs x hx).1,Int.mul_le_mul hnb (hcs x hx).2 (hcs x hx).1 (by decide)⟩
 have hQb:∀q∈Q,0<=q/\q<=20971520*1048576:=fun q hq=>by
  rw[<- hQ] at hq;obtain ⟨x,hx,rfl⟩:=List.mem_map.1 hq;have h1:=hprod x hx;have h2:=Int.ediv_nonneg h1.1 (Int.le_of_lt htp);have h3:=Int.ediv_le_self t h1.1;omega
 refine runW (eq_false ht0) ?_
 refine loop ⟨[2,3,6,9,10,11,46,47,48],[38,41,2,3,6],[],[]⟩ (fun k:Nat=>k<=cs.length) (fun k=>cs.length-k)
  (fun k=>⟨91,[(2,.p 2 0),(3,.p 3 0),(6,.p 6 0),(9,.v (.val (.slice (some ⟨r1,0,none⟩) cs.length cs.length))),(10,.v (.val (.slice (some ⟨r2,0,none⟩) cs.length cs.length))),(11,.v (vi (n-sumI (Q.take k)))),(46,.v (ints cs)),(47,.v (vi cs.length)),(48,.v (vi k))],
  [(38,.var (rowZ Q k) (some r1) (some (3,1,cs.length))),(41,.var (rowZ I k) (some r2) (some (3,1,cs.length))),(2,.con [vi n]),(3,.con [ints cs]),(6,.con [vi t])],[]⟩) 0 (Nat.zero_le _) ?_ ?_
 ·intro k hk;have hSb:=sumI_le (l:=Q.take k) (m:=20971520*1048576) fun q hq=>hQb q (List.mem_of_mem_take hq);have hSl:(Q.take k).length=k:=by rw[List.length_take]; omega
  by_cases hlt:k<cs.length
  ·obtain ⟨x,hx,-,hm⟩:=drop_at hlt;have hp:=hprod x hm;have hqx:Q[k]? = some (n*x / t):=by rw[<- hQ]; unfold baseQ; rw[List.getElem?_map,hx]; rfl
   have hix:I[k]? = some (k:Int):=by rw[<- hI]; unfold idxQ; rw[List.getElem?_map,List.getElem?_range hlt]; rfl
   have hqb:=hQb _ (List.mem_of_getElem? hqx);have hsn:=sumI_snoc hqx;rw[<- Int.tdiv_eq_ediv_of_nonneg hp.1] at hqx hqb hsn;obtain ⟨p,hpp⟩:∃p,n*x=p:=⟨_,rfl⟩;rw[hpp] at hp hqx hqb hsn;obtain ⟨q,hqq⟩:∃q,p.tdiv t=q:=⟨_,rfl⟩;rw[hqq] at hqx hqb hsn;have eA:=rowZ_put hqx;have eD:=rowZ_at hqx;have eB:=rowZ_put hix;have lA:=rowZ_len (Z:=Q) (k:=k) (by omega);have lB:=rowZ_len (Z:=I) (k:=k) (by omega);have lA2:=rowZ_len (Z:=Q) (k:=k+1) (by omega);rw[hQl] at lA lA2;rw[hIl] at lB;obtain ⟨S,hS⟩:∃S,sumI (Q.take k)=S:=⟨_,rfl⟩;rw[hS] at hsn hSb ⊢;have e5:n-S-q=n-sumI (Q.take (k+1)):=by rw[hsn]; omega
   generalize rowZ Q k=RA at eA lA ⊢;generalize rowZ I k=RB at eB lB ⊢;obtain ⟨RA2,hRA2⟩:∃R,rowZ Q (k+1)=R:=⟨_,rfl⟩;obtain ⟨RB2,hRB2⟩:∃R,rowZ I (k+1)=R:=⟨_,rfl⟩;rw[hRA2] at eA eD lA2;rw[hRB2] at eB;refine runW (And.intro hx (And.intro hpp (And.intro hqq (And.intro ht0 (And.intro hne' (And.intro eA (And.intro eB (And.intro eD e5)))))))) ?_;subst hRA2;subst hRB2;exact round (k+1) hlt (by omega)
  ·have hkl:k=cs.length:=by omega
   subst hkl;have hQt:Q.take cs.length=Q:=List.take_of_length_le (by omega);have hRQ:rowZ Q cs.length=Q.map vint:=by rw[<- hQl]; exact rowZ_end Q
   have hRI:rowZ I cs.length=I.map vint:=by rw[<- hIl]; exact rowZ_end I
   have hLe:n-sumI Q=leftQ n (sumI cs) cs:=by unfold leftQ; rw[ht,hQ]
   have hLi:=leftQ_in (n:=n) (cs:=cs) (fun c hc=>(hcs c hc).1) (by rw[ht]; exact htp) hnt.1;rw[hQt,hRQ,hRI,hLe];obtain ⟨L,hL⟩:∃L:Nat,leftQ n (sumI cs) cs=L:=⟨(leftQ n (sumI cs) cs).toNat,by omega⟩;rw[hL] at hLi ⊢
   have hcmp:CmpI T 67 [.row [vi n],.row [ints cs],.row [vi t]] (ltQ n t cs) I:=fun a ha b hb=>by
    rw[<- hI] at ha hb;refine ⟨_,den_quoC n t cs (by omega) ⟨hnt.1,by omega⟩ htp hcs a b (idxQ_mem.1 ha) (idxQ_mem.1 hb),?_⟩;rw[cmpZ_lt]; rfl
   have hD:=denS_srtI (T:=T) (some (3,1,cs.length)) I 67 [.row [vi n],.row [ints cs],.row [vi t]] (ltQ n t cs) (by omega) (fun e=>by rw[e] at hIl; simp at hIl; omega) hcmp;rw[hIl] at hD;obtain ⟨O,hO⟩:∃O,srtS (ltQ n t cs) I=O:=⟨_,rfl⟩;have hOe:O=ordQ n (sumI cs) cs:=by unfold ordQ; rw[<- hO,<- hI,ht]
   have hOl:O.length=cs.length:=by rw[hOe,ordQ_len]
   rw[hO] at hD;refine runW hne' ?_;refine callX (callS [(999000,41)] hD (.cons (.sn rfl rfl (Nat.le_refl _) (by show cs.length<=maxLen; unfold maxLen; omega) hcl) (.cons (.v _) .nil)) ?_ ?_)
   ·intro x hx;simp only[List.mem_singleton] at hx;subst hx;exact ⟨41,_,rfl,rfl,rfl,.inl rfl,rfl⟩
   have hQl2:(Q.map vint).length=cs.length:=by rw[List.length_map,hQl]
   refine runTo (stopAt 23) trivial ?_;refine aw_frzt 10 ?_;rw[frzt1_r (id:=41) (r:=r2) (n:=cs.length) (cap:=cs.length) (e:=3) (size:=1) (cs:=O.map vint) rfl (by simp[findN,findK,Blk.nm,nmOf,look_cons',hne']) rfl (Nat.le_refl _) (by rw[List.length_map,hOl]; omega)];rw[show chunk 0 cs.length 1 (O.map vint)=O.map Cint by rw[<- hOl]; exact ints_chunk13 O];refine aw_keep (st':=⟨91,[(9,.v (.val (.slice (some ⟨r1,0,none⟩) cs.length cs.length))),(10,.v (ints O)),(11,.v (vi L))],[(38,.var (Q.map vint) (some r1) (some (3,1,cs.length)))],[]⟩) ⟨[9,10,11],[38],[],[]⟩ rfl ?_;obtain ⟨W,hW⟩:∃W,O.take L=W:=⟨_,rfl⟩;have hWl:W.length=L:=by rw[<- hW,List.length_take]; omega
   have eT:(O.map Cint).take L=W.map Cint:=by rw[<- hW,List.map_take]
   have hWm:∀z∈W,0<=z/\z<cs.length:=fun z hz=>by
    rw[<- hW] at hz;have:=List.mem_of_mem_take hz;rw[hOe] at this;exact ordQ_mem.1 this
   have hres:quoR n cs=addQ Q W:=by
    unfold quoR;rw[if_neg (by rw[he]; decide),if_neg (by rw[ht]; exact ht0),<- hW,hOe,ht,hQ,<- ht,hL];rfl
   rw[hres];refine runW (And.intro eT (And.intro hWl hOl)) ?_
   refine loop ⟨[9,77,78,79],[38],[],[]⟩ (fun k:Nat=>k<=L) (fun k=>L-k)
    (fun k=>⟨91,[(9,.v (.val (.slice (some ⟨r1,0,none⟩) cs.length cs.length))),(77,.v (ints W)),(78,.v (vi L)),(79,.v (vi k))],[(38,.var ((addQ Q (W.take k)).map vint) (some r1) (some (3,1,cs.length)))],[]⟩) 0 (Nat.zero_le _) ?_
   intro k hk2;obtain ⟨A,hA⟩:∃A,addQ Q (W.take k)=A:=⟨_,rfl⟩;have hAl:A.length=cs.length:=by rw[<- hA,addQ_len,hQl]
   have hAb:∀x∈A,0<=x/\x<=20971520*1048576+(W.take k).length:=fun x hx=>by rw[<- hA] at hx; exact addQ_le _ _ hQb x hx
   have hkl:(W.take k).length=k:=by rw[List.length_take]; omega
   rw[hA];by_cases hlt2:k<L
   ·obtain ⟨z,hz,-,hzm⟩:=drop_at (l:=W) (k:=k) (by omega);have hsn:=addQ_snoc Q hz;rw[hA] at hsn;have hzb:=hWm z hzm;obtain ⟨zi,rfl⟩:∃i:Nat,z=i:=⟨z.toNat,by omega⟩;obtain ⟨v,hv⟩:∃v,A[zi]? = some v:=⟨_,List.getElem?_eq_getElem (by omega)⟩;have hvb:=hAb v (List.mem_of_getElem? hv)
    have e1:(A.map vint).drop zi=vi v::(A.drop (zi+1)).map vint:=by
     obtain ⟨hlt3,rfl⟩:=List.getElem?_eq_some_iff.1 hv;rw[<- List.map_drop,List.drop_eq_getElem_cons hlt3]; rfl
    have e2:(A.map vint).take zi++[vi (v+1)]++(A.map vint).drop (zi+1)=(addQ Q (W.take (k+1))).map vint:=by
     rw[hsn];unfold incQ;rw[Int.toNat_natCast,List.getD_eq_getElem?_getD,hv,List.set_eq_take_append_cons_drop,if_pos (by omega),List.map_append,List.map_cons,List.map_take,List.map_drop,List.append_assoc];rfl
    have hAl2:(A.map vint).length=cs.length:=by rw[List.length_map,hAl]
    generalize A.map vint=RA at e1 e2 hAl2 ⊢;refine runW (And.intro hz (And.intro e1 e2)) ?_;exact round (k+1) hlt2 (by omega)
   ·have hkL:k=L:=by omega
    subst hkL;rw[List.take_of_length_le (by omega)] at hA;rw[hA];refine run ?_;refine finFr13 (id:=38) (r:=r1) (n:=cs.length) (cap:=cs.length) (e:=3) (size:=1) (cs:=A.map vint) ?_ (Nat.le_refl _) ?_ ?_
    ·have:=ints_chunk13 A;rw[hAl] at this;rw[this];exact .refl _
    ·rw[List.length_map,hAl]; omega
    ·simp[findN,findK,Blk.nm,nmOf,look_cons']
 ·rw[rowZ_0,rowZ_0,hQl,hIl,List.take_zero,show n-sumI []=n by simp[sumI]];rfl
end Go.Arc
set_option maxRecDepth 100000
namespace Go.Arc
open Go.Ab Go.RowKit Go.Proofs
variable {T : Lay}
theorem ins_dropL {α:Type} {P R:List α} {x:α} {j:Nat} (hj:j<=P.length):(P.take j++x::P.drop j++R).drop j=x::(P.drop j++R):=by
 have h:(P.take j).length=j:=by rw[List.length_take]; omega
 rw[List.append_assoc,List.drop_append_of_le_length (by rw[h]; omega),List.drop_eq_nil_of_le (by rw[h]; omega)];rfl
theorem ins_dropL1 {α:Type} {P R:List α} {x y:α} {j:Nat} (hj:j+1<=P.length) (hy:P[j]? = some y):(P.take (j+1)++x::P.drop (j+1)++R).drop j=y::x::(P.drop (j+1)++R):=by
 obtain ⟨hlt,rfl⟩:=List.getElem?_eq_some_iff.1 hy;have h:(P.take j).length=j:=by rw[List.length_take]; omega
 rw[List.take_succ_eq_append_getElem hlt,List.append_assoc,List.append_assoc,List.drop_append_of_le_length (by rw[h]; omega),List.drop_eq_nil_of_le (by rw[h]; omega)];rfl
theorem ins_set {α:Type} {P R:List α} {x y:α} {j:Nat} (hj:j+1<=P.length) (hy:P[j]? = some y):((P.take (j+1)++x::P.drop (j+1)++R).set (j+1) y).set j x=P.take j++x::P.drop j++R:=by
 obtain ⟨hlt,rfl⟩:=List.getElem?_eq_some_iff.1 hy;have h:(P.take j).length=j:=by rw[List.length_take]; omega
 rw[List.drop_eq_getElem_cons hlt,List.take_succ_eq_append_getElem hlt];generalize P.take j=A at h;generalize P.drop (j+1)=B;subst h;simp[List.set_append]
theorem cellsF_set {L:List Fil} {i:Nat} (y:Fil) (h:i<L.length):(cellsF L).take (i*8)++y.cs++(cellsF L).drop (i*8+8)=cellsF (L.set i y):=by
 rw[List.set_eq_take_append_cons_drop,if_pos h,cellsF_app,cellsF_cons,cellsF_take,show i*8+8=(i+1)*8 by omega,cellsF_drop,List.append_assoc]
abbrev CmpF (T:Lay) (f:FuncId) (cap:List V) (lt:Fil->Fil->Bool) (l:List Fil):Prop:=
 ∀x∈l,∀y∈l,∃c:Int,Den Tryz.prog T f (.agg x.cs :: .agg y.cs::cap) (vi c)/\decide (c<0)=lt x y
set_option maxHeartbeats 2000000 in
theorem denS_insF (kk:Option (TypeId×Nat×Nat)) (l:List Fil) (f:FuncId) (cap:List V) (lt:Fil->Fil->Bool) (hl:l.length<=1000) (h0:l≠[]) (hc:CmpF T f cap lt l):
  DenS Tryz.prog T 240 [(999000,.var (cellsF l) none kk)] [] [.s 999000 0 l.length 8,.v (vi 0),.v (vi l.length),.v (.func f cap)] [(999000,.var (cellsF (srtS lt l)) none kk)] [] (.v (.tup [])):=by
 have hlen:0<l.length:=List.length_pos_iff.2 h0;refine denS_of_body follows (fun args w=>Tryz.call240 args w) Tryz.func240 rfl 53 rfl rfl ?_;refine run ?_
 refine loop ⟨[0,1,2,3,8],[999000],[],[]⟩ (fun y:Nat×List V=>1<=y.1/\y.1<=l.length/\y.2=cellsF (srtS lt (l.take y.1)++l.drop y.1)) (fun y=>l.length-y.1)
  (fun y=>⟨53,[(0,.s 999000 0 l.length 8),(1,.v (vi 0)),(2,.v (vi l.length)),(3,.v (.func f cap)),(8,.v (vi y.1))],[(999000,.var y.2 none kk)],[]⟩) (1,cellsF l) ⟨Nat.le_refl _,hlen,by rw[srtS_one]⟩ ?_
 rintro ⟨i,cs⟩ ⟨h1,h2,h3⟩;simp only at h1 h2 h3;by_cases hi:i<l.length
 ·obtain ⟨x,hx,hd,hm⟩:=drop_at hi;obtain ⟨P,hP⟩:∃P,srtS lt (l.take i)=P:=⟨_,rfl⟩;have hPl:P.length=i:=by rw[<- hP,srtS_len,List.length_take]; omega
  have hPm:∀y∈P,y∈l:=fun y hy=>by rw[<- hP] at hy; exact List.mem_of_mem_take ((srtS_perm _ _).mem_iff.1 hy)
  have hd0:P.drop i=[]:=List.drop_eq_nil_of_le (by omega);have ht0:P.take i=P:=List.take_of_length_le (by omega);rw[hP,hd] at h3;refine run ?_
  refine loop ⟨[0,1,2,3,8,9],[999000],[],[]⟩ (fun y:Nat×List V=>y.1<=i/\(∀z∈P.drop y.1,lt x z=true)/\y.2=cellsF (P.take y.1++x::P.drop y.1++l.drop (i+1))) (fun y=>y.1)
   (fun y=>⟨53,[(0,.s 999000 0 l.length 8),(1,.v (vi 0)),(2,.v (vi l.length)),(3,.v (.func f cap)),(8,.v (vi i)),(9,.v (vi y.1))],[(999000,.var y.2 none kk)],[]⟩) (i,cs)
   ⟨Nat.le_refl _,by simp only; rw[hd0]; simp,by simp only; rw[h3,ht0,hd0]; simp⟩ ?_
  rintro ⟨j,ds⟩ ⟨g1,g2,g3⟩;simp only at g1 g2 g3;have hdl:ds.length=l.length*8:=by rw[g3,cellsF_len]; simp; omega
  have hend:(j=0\/∃y,P[j-1]? = some y/\lt x y=false)->ds=cellsF (srtS lt (l.take (i+1))++l.drop (i+1)):=fun hz=>by
   rw[g3,srtS_take hx,hP,insF_at (by omega) g2 hz]
  cases j with
  | zero=>
   refine run ?_;exact round (i+1,ds) ⟨by simp only; omega,by simp only; omega,hend (.inl rfl)⟩ (by simp only; omega)
  | succ j=>
   obtain ⟨y,hy⟩:∃y,P[j]? = some y:=⟨_,List.getElem?_eq_getElem (by omega)⟩;have hym:=hPm y (List.mem_of_getElem? hy);obtain ⟨c,hden,hlt⟩:=hc x hm y hym;have e1:ds.drop ((j+1)*8)=vi x.id::vi x.ofc::vi x.opn::vi x.cld :: .str x.cls :: .str x.title::vi x.pts::ntss x.nts::cellsF (P.drop (j+1)++l.drop (i+1)):=by rw[g3,cellsF_drop,ins_dropL (by omega)]; rfl
   have e2:ds.drop ((j+1-1)*8)=vi y.id::vi y.ofc::vi y.opn::vi y.cld :: .str y.cls :: .str y.title::vi y.pts::ntss y.nts::cellsF (x::(P.drop (j+1)++l.drop (i+1))):=by rw[g3,cellsF_drop,Nat.add_sub_cancel,ins_dropL1 (by omega) hy]; rfl
   refine runW (And.intro e1 e2) ?_;refine call hden ?_;cases hb:lt x y
   ·have hc0:¬c<0:=by rw[hb] at hlt; exact of_decide_eq_false hlt
    refine runW (eq_false hc0) ?_;exact round (i+1,ds) ⟨by simp only; omega,by simp only; omega,hend (.inr ⟨y,by simpa using hy,hb⟩)⟩ (by simp only; omega)
   ·have hc0:c<0:=by rw[hb] at hlt; exact of_decide_eq_true hlt
    refine runD (And.intro (eq_true hc0) (And.intro e1 e2)) ?_;refine aw_graph gr175 ?_;refine runGraph (And.intro e1 e2) ?_
    try simp only[and_self,and_self_left,and_self_right,and_e1,and_e2]
    have ej:((j+1:Nat):Int)-1=(j:Int):=by omega
    have hrow:List.take ((j+1-1)*8) (List.take ((j+1)*8) ds++y.cs++List.drop ((j+1)*8+8) ds)++x.cs++List.drop ((j+1-1)*8+8) (List.take ((j+1)*8) ds++y.cs++List.drop ((j+1)*8+8) ds)=
      cellsF (P.take j++x::P.drop j++l.drop (i+1)):=by
     have hl2:(P.take (j+1)++x::P.drop (j+1)++l.drop (i+1)).length=l.length:=by
      simp only[List.length_append,List.length_cons,List.length_take,List.length_drop]; omega
     rw[g3,cellsF_set y (by rw[hl2]; omega),Nat.add_sub_cancel,cellsF_set x (by rw[List.length_set,hl2]; omega),ins_set (by omega) hy]
    rw[hrow,ej];refine round (j,cellsF (P.take j++x::P.drop j++l.drop (i+1))) ⟨by simp only; omega,fun z hz=> ?_,rfl⟩ (by simp only; omega)
    ·simp only at hz;rw[List.drop_eq_getElem_cons (by omega)] at hz;rcases List.mem_cons.1 hz with rfl | hz
     ·obtain ⟨_,rfl⟩:=List.getElem?_eq_some_iff.1 hy; exact hb
     ·exact g2 z hz
 ·have hil:i=l.length:=by omega
  subst hil;have h4:cs=cellsF (srtS lt l):=by rw[h3,List.take_length,List.drop_length,List.append_nil]
  rw[h4];refine run ?_;exact finS1 (.v (.refl _))
end Go.Arc
set_option maxRecDepth 100000
namespace Go.Arc
open Go.Ab Go.RowKit Go.Proofs
variable {T : Lay}
theorem upper_eq (c:UInt8):Lib.upperB c=upB c:=by
 unfold Lib.upperB upB Lib.isLowerB;by_cases h:97<=c.toNat/\c.toNat<=122
 ·rw[if_pos h,if_pos (by rw[Bool.and_eq_true,decide_eq_true_eq,decide_eq_true_eq,UInt8.le_iff_toNat_le,UInt8.le_iff_toNat_le]; exact h)]
 ·rw[if_neg h,if_neg (by rw[Bool.and_eq_true,decide_eq_true_eq,decide_eq_true_eq,UInt8.le_iff_toNat_le,UInt8.le_iff_toNat_le]; exact h)]
theorem lib_upper (c:UInt8) (hc:c.toNat<128):Den Tryz.prog T 98 [.str [c]] (.str [upB c]):=by
 refine ⟨fun args w=>Tryz.call98 args w,fun w F xs hF hl hx=> ?_⟩;obtain ⟨x,rfl,h1⟩:=reps1 hx;obtain rfl:=rep_str_inv h1;refine (Any.strings_ToUpper_ascii Tryz.lays158 Tryz.Builder_Extra_158 ⟨#[c]⟩ w (by show (1:Nat)<=_; decide) ?_).mono ?_
 ·intro j b hb;have hb':[c][j]? = some b:=hb;cases j with
  | zero=>simp at hb'; subst hb'; exact hc
  | succ j=>simp at hb'
 ·rintro e w' ⟨rfl,hb⟩;refine ⟨_,F,rfl,ext_below hF hb,?_⟩;have:(Lib.toUpperA (⟨#[c]⟩:ByteArray).data.toList)=[upB c]:=by rw[<- upper_eq]; rfl
  rw[this];exact .str _
theorem idx_ge (s:Str) (c:UInt8):decide (0<=Lib.indexByte s c)=s.any fun b=>decide (b=c):=by
  induction s with
  | nil=>rfl
  | cons b r ih=>
    rw[List.any_cons];unfold Lib.indexByte;by_cases h:b=c
    · rw[decide_eq_true h,Bool.true_or];simp[h]
    · rw[decide_eq_false h,Bool.false_or,<- ih,if_neg (by rw[beq_iff_eq]; exact h)]
      have hr: -1<=Lib.indexByte r c:=by
        clear ih
        induction r with
        | nil=>exact Int.le_refl _
        | cons a t iht => unfold Lib.indexByte; split; · decide
                          split; · decide
                          omega
      by_cases h2:Lib.indexByte r c= -1
      · rw[if_pos (by rw[beq_iff_eq]; exact h2),h2]
      · rw[if_neg (by rw[beq_iff_eq]; exact h2)];exact decide_eq_decide.2 (by omega)
theorem lib_has (s:Str) (c:UInt8):Den Tryz.prog T 83 [.str s,.str [c]] (vb (s.any fun b=>decide (b=c))):=by
 refine ⟨fun args w=>Tryz.call83 args w,fun w F xs hF hl hx=> ?_⟩;obtain ⟨x,y,rfl,h1,h2⟩:=reps2 hx;obtain rfl:=rep_str_inv h1;obtain rfl:=rep_str_inv h2;refine (Any.strings_Contains_one Tryz.lays144 ⟨s.toArray⟩ c w).mono ?_;rintro e w' ⟨rfl,rfl⟩;refine ⟨_,_,rfl,Ext.refl hF,?_⟩;rw[<- idx_ge];exact .val _
theorem den_lett (s:Smp) (f:Fil) (hf:∀c∈f.title,c.toNat<128):Den Tryz.prog T 97 [.agg s.cs,.agg f.cs] (vb (lettB s f)):=by
 refine den_of_body follows (fun args w=>Tryz.call97 args w) Tryz.func97 rfl 17 rfl ?_;unfold lettB;obtain ⟨t,ht⟩:∃t,f.title=t:=⟨_,rfl⟩;rw[ht] at hf;cases t with
 | nil=>
  rw[ht];refine runW ht ?_;exact fin rfl
 | cons c r=>
  rw[ht];have h1:((c::r == []):Bool)=false:=rfl;refine runW (And.intro ht h1) ?_;refine call (lib_upper c (hf c (List.mem_cons_self ..))) ?_;refine runW (And.intro ht h1) ?_;refine call (lib_has s.seed (upB c)) ?_;refine run ?_;exact fin rfl
theorem den_pnt (s:Smp) (f:Fil):Den Tryz.prog T 100 [.agg s.cs,.agg f.cs] (vb (pntB s f)):=by
 refine den_of_body follows (fun args w=>Tryz.call100 args w) Tryz.func100 rfl 10 rfl ?_;refine run ?_;exact fin rfl
theorem den_keep13 (s:Smp) (f:Fil) (g:FuncId) (b:Bool) (h:Den Tryz.prog T g [.agg s.cs,.agg f.cs] (vb b)):
  Den Tryz.prog T 90 [.agg f.cs,.row [.func g []],.row s.cs] (vb (!b)):=by
 refine den_of_body follows (fun args w=>Tryz.call90 args w) Tryz.func90 rfl 10 rfl ?_;refine run ?_;refine call h ?_;refine run ?_;exact fin rfl
end Go.Arc
set_option maxRecDepth 100000
namespace Go.Arc
open Go.Ab Go.RowKit Go.Proofs
variable {T : Lay}
theorem den_every (i m:Int) (c sd:Str) (n k:Nat) (l:List Fil) (h1:1<=n) (hb:n<=256) (hk:k<=256) (hl:l.length<=1048576):
  Den Tryz.prog T 92 [.agg (Smp.cs ⟨i,m,n,k,c,sd⟩),fils l] (fils (evL n k l)):=by
 refine den_of_body follows (fun args w=>Tryz.call92 args w) Tryz.func92 rfl 25 rfl ?_;refine run ?_
 refine loop ⟨[1,2,5,6],[2],[5],[(5,53,8)]⟩ (fun y:Nat×List Fil=>y.1<=l.length+256/\y.2.length<=y.1/\y.2++evL n 0 (l.drop y.1)=evL n k l) (fun y=>l.length-y.1)
  (fun y=>⟨25,[(1,.v (fils l)),(2,.p 2 0),(5,.v (fils y.2)),(6,.v (vi y.1))],[(2,.var (Smp.cs ⟨i,m,n,k,c,sd⟩))],[(53,[5])]⟩) (k,[]) ⟨by simp only; omega,Nat.zero_le _,by rw[List.nil_append,<- evL_drop]⟩ ?_
 rintro ⟨j,out⟩ ⟨hj,hlen,ho⟩;simp only at hj hlen ho;by_cases hjl:j<l.length
 ·obtain ⟨f,hx,-,hm⟩:=drop_at hjl;rw[evL_step h1 hx] at ho;have hap:out.map Fil.cs++[f.cs]=(out++[f]).map Fil.cs:=by simp
  refine runW (And.intro hx hap) ?_;refine round (j+n,out++[f]) ⟨by simp only; omega,by simp; omega,by simp only; rw[List.append_assoc]; exact ho⟩ (by simp only; omega)
 ·rw[drop_end hjl,evL_nil,List.append_nil] at ho;refine run ?_;exact fin (by rw[<- ho])
theorem denS_stabF (kk:Option (TypeId×Nat×Nat)) (l:List Fil) (f:FuncId) (cap:List V) (lt:Fil->Fil->Bool) (hl:l.length<20) (h0:l≠[]) (hc:CmpF T f cap lt l):
  DenS Tryz.prog T 159 [(999000,.var (cellsF l) none kk)] [] [.s 999000 0 l.length 8,.v (vi l.length),.v (.func f cap)] [(999000,.var (cellsF (srtS lt l)) none kk)] [] (.v (.tup [])):=by
 have hlen:0<l.length:=List.length_pos_iff.2 h0;have hn:((20:Int)<=(l.length:Int))=False:=eq_false (by omega);have hn2:((20:Int)<(l.length:Int))=False:=eq_false (by omega);refine denS_of_body follows (fun args w=>Tryz.call159 args w) Tryz.func159 rfl 63 rfl rfl ?_;refine run ?_
 refine loop ⟨[0,1,2,6,7,8],[999000],[],[]⟩ (fun _:Unit=>True) (fun _=>0)
  (fun _=>⟨63,[(0,.s 999000 0 l.length 8),(1,.v (vi l.length)),(2,.v (.func f cap)),(6,.v (vi 20)),(7,.v (vi 0)),(8,.v (vi 20))],[(999000,.var (cellsF l) none kk)],[]⟩) () trivial ?_
 rintro ⟨⟩ -;refine runW hn ?_;refine callS [(999000,999000)] (denS_insF kk l f cap lt (by omega) h0 hc) (.cons (.s rfl) (.cons (.v _) (.cons (.v _) (.cons (.v _) .nil)))) ?_ ?_
 ·intro x hx;simp only[List.mem_singleton] at hx;subst hx;exact ⟨999000,_,rfl,rfl,rfl,.inl rfl,rfl⟩
 refine run ?_
 refine loop ⟨[0,1,2,6,7,8],[999000],[],[]⟩ (fun _:Unit=>True) (fun _=>0)
  (fun _=>⟨63,[(0,.s 999000 0 l.length 8),(1,.v (vi l.length)),(2,.v (.func f cap)),(6,.v (vi 20)),(7,.v (vi 0)),(8,.v (vi 20))],[(999000,.var (cellsF (srtS lt l)) none kk)],[]⟩) () trivial ?_
 rintro ⟨⟩ -;refine runW hn2 ?_;exact finS1 (.v (.refl _))
theorem denS_srtF (kk:Option (TypeId×Nat×Nat)) (l:List Fil) (f:FuncId) (cap:List V) (lt:Fil->Fil->Bool) (hl:l.length<20) (h0:l≠[]) (hc:CmpF T f cap lt l):
  DenS Tryz.prog T 112 [(999000,.var (cellsF l) none kk)] [] [.s 999000 0 l.length 8,.v (.func f cap)] [(999000,.var (cellsF (srtS lt l)) none kk)] [] (.v (.tup [])):=by
 have hlen:0<l.length:=List.length_pos_iff.2 h0;refine denS_of_body follows (fun args w=>Tryz.call112 args w) Tryz.func112 rfl 9 rfl rfl ?_;refine run ?_;refine callS [(999000,999000)] (denS_stabF kk l f cap lt hl h0 hc) (.cons (.s rfl) (.cons (.v _) (.cons (.v _) .nil))) ?_ ?_
 ·intro x hx;simp only[List.mem_singleton] at hx;subst hx;exact ⟨999000,_,rfl,rfl,rfl,.inl rfl,rfl⟩
 refine run ?_;exact finS1 (.v (.refl _))
theorem den_insF0 (f:FuncId) (cap:List V):Den Tryz.prog T 240 [fils [],vi 0,vi 0,.func f cap] (.tup []):=by
 refine den_of_body follows (fun args w=>Tryz.call240 args w) Tryz.func240 rfl 53 rfl ?_;refine run ?_;refine loop ⟨[0,1,2,3,8],[],[],[]⟩ (fun _:Unit=>True) (fun _=>0) (fun _=>⟨53,[(0,.v (fils [])),(1,.v (vi 0)),(2,.v (vi 0)),(3,.v (.func f cap)),(8,.v (vi 1))],[],[]⟩) () trivial ?_;rintro ⟨⟩ -;refine run ?_;exact fin rfl rfl
theorem den_stabF0 (f:FuncId) (cap:List V):Den Tryz.prog T 159 [fils [],vi 0,.func f cap] (.tup []):=by
 refine den_of_body follows (fun args w=>Tryz.call159 args w) Tryz.func159 rfl 63 rfl ?_;refine run ?_
 refine loop ⟨[0,1,2,6,7,8],[],[],[]⟩ (fun _:Unit=>True) (fun _=>0)
  (fun _=>⟨63,[(0,.v (fils [])),(1,.v (vi 0)),(2,.v (.func f cap)),(6,.v (vi 20)),(7,.v (vi 0)),(8,.v (vi 20))],[],[]⟩) () trivial ?_
 rintro ⟨⟩ -;refine run ?_;refine call (den_insF0 f cap) ?_;refine run ?_
 refine loop ⟨[0,1,2,6,7,8],[],[],[]⟩ (fun _:Unit=>True) (fun _=>0)
  (fun _=>⟨63,[(0,.v (fils [])),(1,.v (vi 0)),(2,.v (.func f cap)),(6,.v (vi 20)),(7,.v (vi 0)),(8,.v (vi 20))],[],[]⟩) () trivial ?_
 rintro ⟨⟩ -;refine run ?_;exact fin rfl rfl
theorem den_srtF0 (f:FuncId) (cap:List V):Den Tryz.prog T 112 [fils [],.func f cap] (.tup []):=by
 refine den_of_body follows (fun args w=>Tryz.call112 args w) Tryz.func112 rfl 9 rfl ?_;refine run ?_;refine call (den_stabF0 f cap) ?_;refine run ?_;exact fin rfl rfl
def cmpS (a b:Str):Int:=if Op.bytesLess a b=true then -1 else if (Op.bytesLess a b || a == b)=true then 0 else 1
theorem den_nanS (a:Str):Den Tryz.prog T 160 [.str a] (vb false):=by
 refine den_of_body follows (fun args w=>Tryz.call160 args w) Tryz.func160 rfl 6 rfl ?_;have h:(a == a)=true:=beq_self_eq_true a;refine runW h ?_;exact fin rfl
theorem den_cmpS (a b:Str):Den Tryz.prog T 114 [.str a,.str b] (vi (cmpS a b)):=by
 refine den_of_body follows (fun args w=>Tryz.call114 args w) Tryz.func114 rfl 20 rfl ?_;refine run ?_;refine call (den_nanS a) ?_;refine run ?_;refine call (den_nanS b) ?_;unfold cmpS;cases h1:Op.bytesLess a b
 ·rw[if_neg (by decide),Bool.false_or];cases h2:a == b
  ·rw[if_neg (by decide)];refine runW (And.intro h1 h2) ?_;exact fin rfl
  ·rw[if_pos rfl];refine runW (And.intro h1 h2) ?_;exact fin rfl
 ·rw[if_pos rfl];refine runW h1 ?_;exact fin rfl
theorem cmpS_lt (a b:Str):decide (cmpS a b<0)=Op.bytesLess a b:=by
 unfold cmpS;cases h1:Op.bytesLess a b
 ·rw[if_neg (by decide)]; split <;> rfl
 ·rw[if_pos rfl]; rfl
theorem den_leaC (L:LibT T) (sd:Str) (hs:sd.length<=1000000) (a b:Fil) (ha:0<=a.id/\a.id<=1073741824) (hb:0<=b.id/\b.id<=1073741824):
  Den Tryz.prog T 113 [.agg a.cs,.agg b.cs,.row [.str sd]] (vi (cmpS (scrD sd a.id) (scrD sd b.id))):=by
 refine den_of_body follows (fun args w=>Tryz.call113 args w) Tryz.func113 rfl 15 rfl ?_;refine run ?_;refine call (den_score13 L sd a.id hs ha) ?_;refine run ?_;refine call (den_score13 L sd b.id hs hb) ?_;refine run ?_;refine call (den_cmpS (scrD sd a.id) (scrD sd b.id)) ?_;refine run ?_;exact fin rfl
theorem take_wk (l:List Fil) (n:Nat):(l.map Fil.cs).take n=(l.take n).map Fil.cs:=by rw[List.map_take]
theorem den_least (L:LibT T) (sd:Str) (hs:sd.length<=1000000) (l:List Fil) (n:Nat) (hn:n<=l.length) (hl:l.length<20) (hid:∀f∈l,0<=f.id/\f.id<=1073741824):
  Den Tryz.prog T 65 [.str sd,fils l,vi n] (fils (leaF sd l n)):=by
 refine den_of_body follows (fun args w=>Tryz.call65 args w) Tryz.func65 rfl 16 rfl ?_;refine run ?_;refine callN (denN_cloneFil l (by omega)) (fun hz=> ?_) (fun hz=> ?_)
 ·have hz':l=[]:=by simpa using hz
  subst hz';have hn0:n=0:=by simpa using hn
  subst hn0;refine run ?_;refine call (den_srtF0 _ _) ?_;refine run ?_;exact fin rfl
 ·have hz':l≠[]:=fun e=>hz (by rw[e]; rfl);have hlen:(l.map Fil.cs).length=l.length:=by simp
  rw[show (l.map Fil.cs).flatten=cellsF l from rfl];refine runW hlen ?_;have hcmp:CmpF T 113 [.row [.str sd]] (scrB sd) l:=fun a ha b hb=>⟨_,den_leaC L sd hs a b (hid a ha) (hid b hb),cmpS_lt _ _⟩;have hD:=denS_srtF (T:=T) none l 113 [.row [.str sd]] (scrB sd) hl hz' hcmp;refine callS [(999000,9)] hD (.cons (.s rfl) (.cons (.v _) .nil)) ?_ ?_
  ·intro x hx;simp only[List.mem_singleton] at hx;subst hx;exact ⟨9,_,rfl,rfl,rfl,.inl rfl,rfl⟩
  have hSl:=srtS_len (scrB sd) l;unfold leaF;generalize srtS (scrB sd) l=S at hSl;by_cases hn0:n=0
  ·subst hn0;refine run ?_;exact fin rfl
  ·have hn1:(0=n)=False:=eq_false (by omega);have hcl:=cellsF_len S
   have hcc:chunk 0 n 8 (cellsF S)=(S.take n).map Fil.cs:=by
    have h1:=cellsF_chunk S;rw[<- take_wk,<- h1];unfold chunk;rw[<- List.map_take,List.take_range,Nat.min_eq_left (by omega)]
   generalize cellsF S=C at hcl hcc;refine runW hn1 ?_;refine finF1 (Wk.of ?_) ?_
   ·rw[show fils (S.take n)= .slice 8 ((S.take n).map Fil.cs) from rfl,<- hcc,Nat.sub_zero]
   ·rw[hcl]; omega
theorem den_onlyF (s:Smp) (g:FuncId) (p:Fil->Bool) (l:List Fil) (hl:l.length<=1048576) (hp:∀f∈l,Den Tryz.prog T g [.agg s.cs,.agg f.cs] (vb (p f))):
  Den Tryz.prog T 89 [.agg s.cs,fils l,.row [.func g []]] (fils (l.filter p)):=by
 have hfil:(l.filter fun e=> !(!p e))=l.filter p:=by
  congr 1
  funext e
  rw[Bool.not_not]
 refine den_of_body follows (fun args w=>Tryz.call89 args w) Tryz.func89 rfl 10 rfl ?_;refine run ?_;refine callN (denN_cloneFil l hl) (fun hz=> ?_) (fun hz=> ?_)
 ·have hz':l=[]:=by simpa using hz
  subst hz';refine run ?_;refine call (den_delFil0 _ _) ?_;refine run ?_;exact fin rfl
 ·have hz':l≠[]:=fun e=>hz (by rw[e]; rfl);have hlen:(l.map Fil.cs).length=l.length:=by simp
  rw[show (l.map Fil.cs).flatten=cellsF l from rfl];refine runW hlen ?_;have hD:=denM_delFil (T:=T) l 90 [.row [.func g []],.row s.cs] (fun f=> !p f) hl hz' fun f hf=>den_keep13 s f g (p f) (hp f hf);rw[hfil] at hD;refine callM 7 hD ?_;by_cases hne:l.filter p=[]
  ·rw[if_pos hne,hne];refine run ?_;exact fin rfl
  ·rw[if_neg hne];have hcl:=cellsF_len (l.filter p);have hcc:=cellsF_chunk (l.filter p);generalize cellsF (l.filter p)=C at hcl hcc;refine run ?_;refine finF1 (Wk.of ?_) ?_
   ·rw[show fils (l.filter p)= .slice 8 ((l.filter p).map Fil.cs) from rfl,<- hcc]
   ·rw[hcl]; omega
theorem den_min13 (s:Smp) (l:List Fil) (n:Nat) (hs:s.n=n) (L:LibT T) (hsd:s.seed.length<=1000000) (hl:l.length<20) (hid:∀f∈l,0<=f.id/\f.id<=1073741824):
  Den Tryz.prog T 94 [.agg s.cs,fils l] (fils (leaF s.seed l (min n l.length))):=by
 obtain ⟨i,m,n',k,c,sd⟩:=s;simp only at hs hsd;subst hs;have hL:=fun h=>den_least L sd hsd l (min n l.length) h hl hid;refine den_of_body follows (fun args w=>Tryz.call94 args w) Tryz.func94 rfl 14 rfl ?_;by_cases h:n<=l.length
 ·have e1:min n l.length=n:=Nat.min_eq_left h;have e2:((l.length:Int)<(n:Int))=False:=eq_false (by omega);rw[e1] at hL ⊢;refine runW e2 ?_;refine call (hL h) ?_;refine run ?_;exact fin rfl
 ·have e1:min n l.length=l.length:=Nat.min_eq_right (by omega);have e2:((l.length:Int)<(n:Int))=True:=eq_true (by omega);rw[e1] at hL ⊢;refine runW e2 ?_;refine call (hL (Nat.le_refl _)) ?_;refine run ?_;exact fin rfl
theorem candE_len (r:Rgs) (cls:Str) (d:Int):(candL r cls d).length<=r.fls.length:=List.length_filter_le _ _
theorem slcE_1 {r:Rgs} {s:Smp} {d:Int} (h:smpE s≠0):slcE r s d=smpE s:=if_pos h
theorem slcE_2 {r:Rgs} {s:Smp} {d:Int} (h:smpE s=0):slcE r s d=candE r s.cls d:=if_neg (fun e=>e h)
theorem slcR_e {r:Rgs} {s:Smp} {d:Int} (h:slcE r s d≠0):slcR r s d=[]:=if_neg h
theorem smp_zero {s:Smp} (h:smpE s=0):(1<=s.mth/\s.mth<=4)/\numB s=true/\seedB s=true:=by
 unfold smpE at h;split at h
 ·cases h
 rename_i h1;split at h
 ·cases h
 split at h
 ·cases h
 rename_i h3;simp only[not_or,Decidable.not_not,Bool.not_eq_false] at h1;exact ⟨h1.2.1,h1.2.2,by simpa using h3⟩
theorem fil_id {r:Rgs} (h:OkG r) {f:Fil} (hf:f∈r.fls):0<=f.id/\f.id<=1073741824:=by
 obtain ⟨i,hi⟩:=List.mem_iff_getElem?.1 hf;have hb:=(faultF_zero hi (fil_fault h hi)).1;unfold badF at hb;omega
set_option maxHeartbeats 2000000 in
theorem den_Select (L:LibT T) (r:Rgs) (h:r.Fit) (s:Smp) (hc:s.cls.length<=1048576) (hsd:s.seed.length<=1000000) (d:Int) (hfew:s.mth=2->slcE r s d=0->(candL r s.cls d).length<20):
  Den Tryz.prog T 15 [.agg r.cs,.agg s.cs,vi d] (.tup [ints (slcR r s d),vi (slcE r s d)]):=by
 have hfl:=h.fls.1;have hcl:=candE_len r s.cls d;refine den_of_body follows (fun args w=>Tryz.call15 args w) Tryz.func15 rfl 36 rfl ?_;refine run ?_;refine call (den_CheckSmp (libC L) s hc (by omega)) ?_;by_cases h1:smpE s=0
 case neg=>
  rw[slcR_e (by rw[slcE_1 h1]; exact h1),slcE_1 h1];refine runW h1 ?_;exact finW (wk_t13 (.nil 1))
 refine runW h1 ?_;refine call (den_candidates (libC L) r h s.cls hc d) ?_;have hE:=slcE_2 (r:=r) (d:=d) h1;by_cases h2:candE r s.cls d=0
 case neg=>
  rw[slcR_e (by rw[hE]; exact h2),hE];refine runW h2 ?_;exact finW (wk_t13 (.nil 1))
 have hk:=candR_ok h2;have hE0:slcE r s d=0:=hE.trans h2;have hR:slcR r s d=sortI (idsF (chsF s (candL r s.cls d))):=by unfold slcR; rw[if_pos hE0]
 obtain ⟨hm,hnum,hseed⟩:=smp_zero h1;rw[hE0,hR,candR_0 h2];have hcm:∀f∈candL r s.cls d,f∈r.fls:=fun f hf=>(cand_mem hf).1;have hlen:=chs_len s (candL r s.cls d);have hids:=den_ids (T:=T) (chsF s (candL r s.cls d)) (by omega);have hlt:=fun hf=>den_onlyF (T:=T) s 97 (lettB s) (candL r s.cls d) (by omega) hf;have hpt:=den_onlyF (T:=T) s 100 (pntB s) (candL r s.cls d) (by omega) fun f _=>den_pnt s f;have hlt:=hlt fun f hf=>den_lett s f (name_ascii (title_ok hk (hcm f hf))).1;obtain ⟨N,hN⟩:∃N,candL r s.cls d=N:=⟨_,rfl⟩;have hNid:∀f∈N,0<=f.id/\f.id<=1073741824:=fun f hf=>fil_id hk (hcm f (by rw[hN]; exact hf));rw[hN] at hcl hids hlt hpt hlen hfew ⊢;obtain ⟨i,m,n,k,c,sd⟩:=s;simp only at hc hsd h1 h2 hm hfew hcl;have hm4:m=1\/m=2\/m=3\/m=4:=by omega
 obtain ⟨C,hC⟩:∃C,chsF ⟨i,m,n,k,c,sd⟩ N=C:=⟨_,rfl⟩;rw[hC] at hids hlen ⊢;have hNl:N.length<=1048576:=by omega
 rcases hm4 with rfl | rfl | rfl | rfl
 ·have hnum':(decide (1<=n/\n<=256) && decide (0<=k/\k<=n-1))=true:=hnum;rw[Bool.and_eq_true,decide_eq_true_eq,decide_eq_true_eq] at hnum';obtain ⟨n',rfl⟩:∃x:Nat,n=x:=⟨n.toNat,by omega⟩;obtain ⟨k',rfl⟩:∃x:Nat,k=x:=⟨k.toNat,by omega⟩;have hK:=den_every (T:=T) i 1 c sd n' k' N (by omega) (by omega) (by omega) hNl;rw[show evL n' k' N=C from hC] at hK;refine runW h2 ?_;refine call den_methods ?_;refine run ?_;refine call hK ?_;refine run ?_;refine call hids ?_;refine run ?_;exact fin rfl
 ·have hnum':(decide (k=0) && decide (0<=n/\n<=256))=true:=hnum;rw[Bool.and_eq_true,decide_eq_true_eq,decide_eq_true_eq] at hnum';obtain ⟨n',rfl⟩:∃x:Nat,n=x:=⟨n.toNat,by omega⟩;have hK:=den_min13 (T:=T) ⟨i,2,n',k,c,sd⟩ N n' rfl L hsd (hfew rfl hE0) hNid;rw[show leaF sd N (min n' N.length)=C from hC] at hK;refine runW h2 ?_;refine call den_methods ?_;refine run ?_;refine call hK ?_;refine run ?_;refine call hids ?_;refine run ?_;exact fin rfl
 ·rw[show N.filter (lettB ⟨i,3,n,k,c,sd⟩)=C from hC] at hlt;refine runW h2 ?_;refine call den_methods ?_;refine run ?_;refine call hlt ?_;refine run ?_;refine call hids ?_;refine run ?_;exact fin rfl
 ·rw[show N.filter (pntB ⟨i,4,n,k,c,sd⟩)=C from hC] at hpt;refine runW h2 ?_;refine call den_methods ?_;refine run ?_;refine call hpt ?_;refine run ?_;refine call hids ?_;refine run ?_;exact fin rfl
end Go.Arc
set_option maxRecDepth 100000
namespace Go.Arc
open Go.Ab Go.RowKit Go.Proofs
variable {T : Lay}
inductive WkT (size:Nat):List (List V)->List (List V)->Prop
 | nil:WkT size [] []
 | cons {a b:List V} {l m:List (List V)} (h:Wks a b) (hs:b.length=size) (ho:(b.all fun v=>v.one)=true) (t:WkT size l m):WkT size (a::l) (b::m)
theorem WkT.wk {size:Nat} {l m:List (List V)} (h:WkT size l m):Wk (.slice size l) (.slice size m):=by
  have hl:l.length=m.length:=by induction h with | nil=>rfl | cons _ _ _ _ ih=>simp[ih]
  refine Wk.slice hl (fun e he=> ?_) (fun e he c hc=> ?_) ?_
  · clear hl
    induction h with
    | nil=>cases he
    | cons _ hs _ _ ih => rcases List.mem_cons.1 he with rfl | he; · exact hs
                          · exact ih he
  · clear hl
    induction h with
    | nil=>cases he
    | cons _ _ ho _ ih => rcases List.mem_cons.1 he with rfl | he; · exact List.all_eq_true.1 ho c hc
                          · exact ih he
  · clear hl
    induction h with
    | nil=>intro i j e u v c h1; simp at h1
    | cons hw _ _ _ ih=>
      intro i j e u v c h1 h2 h3 h4;cases i with
      | zero=>
        simp only[List.getElem?_cons_zero,Option.some.injEq] at h1 h2;subst h1 h2;obtain ⟨v',q1,q2⟩:=hw.get h4;rw[h3] at q1;cases q1;exact q2
      | succ i=>exact ih i j e u v c (by simpa using h1) (by simpa using h2) h3 h4
def ex13F (n:Int):Fil:=⟨n,1,1,2,[49],[84],0,[]⟩
def ex13:Rgs:=⟨[⟨1,[65],0,1048576,[]⟩],[⟨1,0,1048576,[⟨[49],[84]⟩],[]⟩],[ex13F 3,ex13F 5,ex13F 8,ex13F 9],[],[],[],[],[],[],[],[],0⟩
abbrev nilV:V:= .val (.slice none 0 0)
abbrev cs13 (F:V):List V:=[.slice 5 [[vi 1,.str [65],vi 0,vi 1048576,nilV]],.slice 5 [[vi 1,vi 0,vi 1048576,.slice 2 [[.str [49],.str [84]]],nilV]],F,nilV,nilV,nilV,nilV,nilV,nilV,nilV,nilV,vi 0]
abbrev zc13:List V:=[nilV,nilV,nilV,nilV,nilV,nilV,nilV,nilV,nilV,nilV,nilV,vi 0]
def exC (n:Int):List V:=[vi n,vi 1,vi 1,vi 2,.str [49],.str [84],vi 0,nilV]
def exI:List Int:=[3,5,8,9]
theorem exC_len:∀l:List Int,((l.map exC).flatten).length=l.length*8
 | []=>rfl
 | x::l=>by rw[List.map_cons,List.flatten_cons,List.length_append,exC_len l,List.length_cons]; show 8+l.length*8=_; omega
theorem exI_take {k:Nat} {n:Int} (h:exI[k]? = some n):((exI.take k).map exC).flatten++exC n=((exI.take (k+1)).map exC).flatten:=by
 obtain ⟨hlt,rfl⟩:=List.getElem?_eq_some_iff.1 h;rw[List.take_succ_eq_append_getElem hlt,List.map_append,List.flatten_append];simp
set_option maxHeartbeats 2000000 in
theorem den_example13:Den Tryz.prog T 27 [] (.agg ex13.cs):=by
 refine den_of_body follows (fun args w=>Tryz.call27 args w) Tryz.func27 rfl 30 rfl ?_;refine run ?_
 refine loopV (fun y:Nat×Nat×Nat=>if y.1=0 then ⟨[0,2,15,16,17],[2,0],[],[]⟩ else ⟨[0,2,15,16,17],[2,0,26],[],[]⟩)
  (fun y=>y.1<=4/\(y.1≠0->y.1<=y.2.2/\y.2.2<=maxLen)) (fun y=>4-y.1)
  (fun y=>if y.1=0 then ⟨30,[(0,.p 0 0),(2,.p 2 0),(15,.v (ints exI)),(16,.v (vi 4)),(17,.v (vi y.1))],[(2,.var (cs13 nilV)),(0,.var zc13)],[]⟩ else
   ⟨30,[(0,.p 0 0),(2,.p 2 0),(15,.v (ints exI)),(16,.v (vi 4)),(17,.v (vi y.1))],[(2,.var (cs13 (.val (.slice (some ⟨y.2.1,0,none⟩) y.1 y.2.2)))),(0,.var zc13),(26,.var (((exI.take y.1).map exC).flatten) (some y.2.1) (some (53,8,y.2.2)))],[]⟩)
  (0,0,0) ⟨by decide,fun h=>absurd rfl h⟩ rfl ?_
 rintro ⟨k,r',cap⟩ ⟨hk,hout⟩;simp only at hk hout;by_cases hlt:k<4
 ·obtain ⟨n,hx⟩:∃n,exI[k]? = some n:=⟨_,List.getElem?_eq_getElem (show k<exI.length from hlt)⟩;have hsn:=exI_take hx;by_cases hk0:k=0
  ·subst hk0;simp only[if_true];refine runB hx ?_;refine appO_r ?_;unfold appR;refine run ?_;intro r2 cap2 hnm g1 g2;refine run ?_;refine ⟨rfl,?_⟩;have e0:[[vi n,vi 1,vi 1,vi 2,V.str [49],V.str [84],vi 0,nilV]].flatten=((exI.take 1).map exC).flatten:=hsn;rw[e0];refine run ?_;refine roundV (1,r2,cap2) ⟨by simp only; omega,fun _=>⟨by simpa using g1,g2⟩⟩ (by simp only; omega) ?_;rfl
  ·simp only[hk0,if_false];obtain ⟨hc1,hc2⟩:=hout hk0;refine runB hx ?_;refine appO_r ?_;unfold appR;refine runB trivial ?_;refine ⟨by rw[exC_len,List.length_take]; show min k 4*8=k*8; omega,hc1,⟨by omega,by omega⟩,.inl trivial,?_⟩;intro r2 cap2 hnm g1 g2
   have e1:((exI.take k).map exC).flatten++[[vi n,vi 1,vi 1,vi 2,V.str [49],V.str [84],vi 0,nilV]].flatten=((exI.take (k+1)).map exC).flatten:=by
    rw[<- hsn]; rfl
   have e2:k+[[vi n,vi 1,vi 1,vi 2,V.str [49],V.str [84],vi 0,nilV]].length=k+1:=rfl;rw[e1,e2];rw[e2] at g1;refine run ?_;refine ⟨rfl,?_⟩;refine run ?_;refine roundV (k+1,r2,cap2) ⟨hlt,fun _=>⟨g1,g2⟩⟩ (by simp only; omega) ?_
   show keepS (if k+1=0 then _ else _) _=some (if k+1=0 then _ else _)
   rw[if_neg (by omega),if_neg (by omega)];rfl
 ·have hk4:k=4:=by omega
  subst hk4;obtain ⟨hc1,hc2⟩:=hout (by decide);simp only[show ¬(4:Nat)=0 by decide,if_false];refine runTo (stopAt 8) trivial ?_;have hrow:chunk 0 4 8 (((exI.take 4).map exC).flatten)=exI.map exC:=rfl;refine aw_cfrz 26 2 2 4 cap 8 r' (((exI.take 4).map exC).flatten) (cs13 (.val (.slice (some ⟨r',0,none⟩) 4 cap))) none none (some (53,8,cap)) rfl rfl (by decide) rfl hc1 hc2 (by decide) ?_;refine aw_keep (st':=⟨30,[(0,.p 0 0),(2,.p 2 0)],[(2,.var (cs13 (.slice 8 (exI.map exC)))),(0,.var zc13)],[]⟩) ⟨[0,2],[2,0],[],[]⟩ rfl ?_;refine run ?_;refine finC1 (wk_aggs ?_ rfl);refine .cons (WkT.wk (.cons ?_ rfl rfl .nil)) (.cons (WkT.wk (.cons ?_ rfl rfl .nil)) (.cons (WkT.wk (.cons ?_ rfl rfl (.cons ?_ rfl rfl (.cons ?_ rfl rfl (.cons ?_ rfl rfl .nil))))) ?_))
  all_goals repeat (first | exact .nil | refine .cons (.refl _) ?_ | refine .cons (.nil _) ?_)
theorem quo13:quoR 5 [3,3,4]=[2,1,2]/\quoE 5 [3,3,4]=0:=by decide +kernel
def smp13:Smp:=⟨1,1,2,1,[49],[]⟩
theorem sort13:sortI [5,9]=[5,9]:=sortI_rise (by decide)
theorem slc13:slcR ex13 smp13 2=[5,9]/\slcE ex13 smp13 2=0:=by
 have h:slcE ex13 smp13 2=0:=by decide +kernel
 have h2:idsF (chsF smp13 (candL ex13 smp13.cls 2))=[5,9]:=by decide +kernel
 exact ⟨by unfold slcR; rw[if_pos h,h2,sort13],h⟩
theorem scr13:scrR [115,101,101,100] 3=(sumD [115,101,101,100,32,51],0):=by
 rw[scrR_0 (by decide +kernel) (by decide +kernel)];unfold scrD scrT;rw[show decS 3=[51] by decide +kernel];rfl
theorem ex13_fit:ex13.Fit:=by
 refine ⟨⟨by decide,fun o ho=> ?_⟩,⟨by decide,fun p hp=> ?_⟩,⟨by decide,fun f hf=> ?_⟩,⟨by decide,fun q hq=>(by cases hq)⟩,⟨by decide,fun q hq=>(by cases hq)⟩,⟨by decide,fun q hq=>(by cases hq)⟩,⟨by decide,fun q hq=>(by cases hq)⟩,⟨by decide,fun q hq=>(by cases hq)⟩,by decide,⟨by decide,fun q hq=>(by cases hq)⟩,by decide⟩
 ·simp only[ex13,List.mem_cons,List.not_mem_nil,or_false] at ho;subst ho;exact ⟨by decide,by decide⟩
 ·simp only[ex13,List.mem_cons,List.not_mem_nil,or_false] at hp;subst hp;refine ⟨by decide,by decide,fun c hc=> ?_,fun c hc=>(by cases hc)⟩;simp only[List.mem_cons,List.not_mem_nil,or_false] at hc;subst hc;exact ⟨by decide,by decide⟩
 ·simp only[ex13,List.mem_cons,List.not_mem_nil,or_false] at hf;rcases hf with rfl | rfl | rfl | rfl <;> exact ⟨by decide,by decide,by decide,fun n hn=>(by cases hn)⟩
set_option maxHeartbeats 2000000 in
theorem den_awake13 (L:LibT T):Den Tryz.prog T 6 [] (vb true):=by
 have hQ:=den_Quotas (T:=T) 5 [3,3,4] (by decide);rw[quo13.1,quo13.2] at hQ;have hS:=den_Select L ex13 ex13_fit smp13 (by decide) (by decide) 2 (fun h=>by cases h);rw[slc13.1,slc13.2] at hS;have hG:=den_Score L [115,101,101,100] 3 (by decide);rw[scr13] at hG;have hD:=den_DigestSum L [115,101,101,100,32,51] (by decide);obtain ⟨D,hDe⟩:∃D,sumD [115,101,101,100,32,51]=D:=⟨_,rfl⟩;have hDl:D.length=32:=by rw[<- hDe,sumD_len]
 rw[hDe] at hG hD;have hDD:(D == D)=true:=beq_self_eq_true D;have e1:=den_eqInts (T:=T) [2,1,2] [2,1,2] (by decide);have e2:=den_eqInts (T:=T) [5,9] [5,9] (by decide);rw[decide_eq_true rfl] at e1 e2;refine den_of_body follows (fun args w=>Tryz.call6 args w) Tryz.func6 rfl 52 rfl ?_;refine run ?_;refine call hQ ?_;refine run ?_;refine call den_example13 ?_;refine run ?_;refine call hS ?_;refine run ?_;refine call hG ?_;refine run ?_;refine call e1 ?_;refine run ?_;refine call e2 ?_;refine run ?_;refine call hD ?_;refine runW (And.intro hDD hDl) ?_;exact fin rfl
end Go.Arc
