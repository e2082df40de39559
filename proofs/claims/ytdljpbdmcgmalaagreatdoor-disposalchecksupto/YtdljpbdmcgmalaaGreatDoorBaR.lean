/- A part of this claim. -/
import Derived.Test.YtdljpbdmcgmalaaGreatDoorBaO
import Derived.Test.YtdljpbdmcgmalaaGreatDoorBaV
set_option maxRecDepth 100000
namespace Go.Arc
open Go.Ab Go.RowKit Go.Proofs Tryz
variable {T : Lay}
theorem layF_congr {g p:Nat->Nat} {v w:Nat->Int} {n:Nat} (h:∀j,j<n->v (g j)=w (g j)) (b:List Int):∀k:Nat,k<=n->layF g p v k b=layF g p w k b
 | 0,_=>rfl
 | k+1,hk=>by rw[jhc,jhc,layF_congr h b k om,h k om]
def inK (a:List Int) (k:Nat):List Int:=layF id id (jft a) k a
theorem inK_succ (a:List Int) (k:Nat):inK a (k+1)=(inK a k).set k (jft a k):=jhc _ _ _ _ _
theorem inK_len (a:List Int) (k:Nat):(inK a k).length=a.length:=jhf _ _ _ _ _
theorem inK_at {a:List Int} {k:Nat} (h:k<a.length):atU (inK a k) k=atU a k:=by
 unfold atU;rw[List.getD_eq_getElem?_getD,List.getD_eq_getElem?_getD];have:=(jmo id (jft a) a h k).2 (fun j hj=>by show j≠k; omega);unfold inK;rw[this]
theorem inK_all {a:List Int} (ha:a.length=25) {i:Nat} (h:i<25):atU (inK a 25) i=jft a i:=by
 unfold atU;rw[List.getD_eq_getElem?_getD];have:=(jmo id (jft a) a (i:=i) om 25).1 ⟨i,h,rfl⟩;unfold inK;rw[this];rfl
def bT (W:List Int) (k:Nat):List Int:=layF tr5 posF (fun i=>rotU (atU W i) (atU rotL i)) k jao
theorem bT_succ (W:List Int) (k:Nat):bT W (k+1)=(bT W k).set (posF (tr5 k)) (rotU (atU W (tr5 k)) (atU rotL (tr5 k))):=jhc _ _ _ _ _
theorem bT_len (W:List Int) (k:Nat):(bT W k).length=25:=jhf _ _ _ _ _
theorem tr5_lt {j:Nat} (h:j<25):tr5 j<25:=by unfold tr5; omega
theorem tr5_xy {x y:Nat} (hy:y<5):tr5 (5*x+y)=x+5*y:=by unfold tr5; omega
theorem bT_all {a:List Int} (ha:a.length=25):bT (inK a 25) 25=bF a:=by
 have h1:bT (inK a 25) 25=layF tr5 posF (fun i=>rotU (jft a i) (atU rotL i)) 25 jao:=layF_congr (fun j hj=>by simp only[inK_all ha (tr5_lt hj)]) _ 25 (Nat.le_refl _);rw[h1];exact bF_tr _
def oT (B w:List Int) (k:Nat):List Int:=layF tr5 id (chiF B) k w
theorem oT_succ (B w:List Int) (k:Nat):oT B w (k+1)=(oT B w k).set (tr5 k) (chiF B (tr5 k)):=jhc _ _ _ _ _
theorem oT_len (B w:List Int) (k:Nat):(oT B w k).length=w.length:=jhf _ _ _ _ _
theorem oT_all (B:List Int) {w:List Int} (hw:w.length=25):oT B w 25=outF B:=outF_tr _ w hw
set_option maxHeartbeats 16000000 in
theorem den_roundR (a:List Int) (c:Int) (ha:a.length=25):Den prog T 141 [.agg (wds a),vu c,.agg (nus rotL)] (.agg (wds (jel a c))):=by
 have ta:=tk25 ha;refine ja0 call141 func141 129 ?_;refine runW ta ?_
 refine loop ⟨[1,3,5,6,7,8],[3,5,6,7],[],[]⟩ (fun k:Nat=>k<=25) (fun k=>25-k)
  (fun k=>⟨129,[(1,.v (vu c)),(3,.p 3 0),(5,.p 5 0),(6,.p 6 0),(7,.p 7 0),(8,.v (vi k))],[(3,.var (wds a)),(5,.var (nus rotL)),(6,.var (wds jao)),(7,.var (wds (jbl a k)))],[]⟩) 0 (Nat.zero_le _) ?_
 intro k hk;by_cases hlt:k<25
 ·have hs:=jm2 a k;have m5:((k:Nat):Int).tmod 5=((k % 5:Nat):Int):=jch k 5;have d1:=jbm (l:=a) (k:=k) om;have d2:=jbm (l:=jbl a k) (k:=k % 5) om
  have s1:(wds (jbl a k)).take (k % 5)++[vu (bitF .xor .u64 (atU (jbl a k) (k % 5)) (atU a k))]++(wds (jbl a k)).drop (k % 5+1)=wds (jbl a (k+1)):=by
   rw[jns];exact jgh om _
  refine runW (ai m5 (ai d1 (ai d2 s1))) ?_;exact round (k+1) om om
 have hk:k=25:=om
 subst hk;have hw:∀i,jft a i=xorU (xorU (atU a i) (atU (jbl a 25) ((i+4) % 5))) (rotU (atU (jbl a 25) ((i+1) % 5)) 1):=fun i=>rfl;have hSl:=jm2 a 25;obtain ⟨S,hS⟩:∃S,jbl a 25=S:=⟨_,rfl⟩;simp only[hS] at hw hSl ⊢;refine run ?_
 refine loop ⟨[1,3,5,6,7,9],[3,5,6,7],[],[]⟩ (fun k:Nat=>k<=25) (fun k=>25-k)
  (fun k=>⟨129,[(1,.v (vu c)),(3,.p 3 0),(5,.p 5 0),(6,.p 6 0),(7,.p 7 0),(9,.v (vi k))],[(3,.var (wds (inK a k))),(5,.var (nus rotL)),(6,.var (wds jao)),(7,.var (wds S))],[]⟩) 0 (Nat.zero_le _) ?_
 intro k hk;by_cases hlt:k<25
 ·have hil:(inK a k).length=25:=(inK_len a k).trans ha;have f2:((k:Int)+4).tmod 5=(((k+4) % 5:Nat):Int):=jch (k+4) 5;have f3:((k:Int)+1).tmod 5=(((k+1) % 5:Nat):Int):=jch (k+1) 5;have d1:=jbm (l:=inK a k) (k:=k) om;rw[inK_at om] at d1;have d2:=jbm (l:=S) (k:=(k+4) % 5) om;have d3:=jbm (l:=S) (k:=(k+1) % 5) om
  have s1:(wds (inK a k)).take k++[vu (bitF .xor .u64 (bitF .xor .u64 (atU a k) (atU S ((k+4) % 5))) (rotU (atU S ((k+1) % 5)) 1))]++(wds (inK a k)).drop (k+1)=wds (inK a (k+1)):=by
   rw[inK_succ,hw];exact jgh om _
  refine rcW (ai f2 (ai f3 (ai d1 (ai d2 d3)))) (den_rotate (atU S ((k+1) % 5)) 1 dc dc) ?_;refine runW s1 ?_;exact round (k+1) om om
 have hk:k=25:=om
 subst hk;have hWl:(inK a 25).length=25:=(inK_len a 25).trans ha;have hBW:=bT_all ha;have hBl:=bF_len a;have hRe:jel a c=(outF (bF a)).set 0 (bitF .xor .u64 (atU (outF (bF a)) 0) c):=rfl;have hRl:=jnv a c;obtain ⟨W,hW⟩:∃W,inK a 25=W:=⟨_,rfl⟩;obtain ⟨B,hB⟩:∃B,bF a=B:=⟨_,rfl⟩;simp only[hW,hB] at hWl hBW hBl hRe ⊢;refine run ?_
 refine loop ⟨[1,3,5,6,10,11],[3,5,6,10],[],[]⟩ (fun x:Nat=>x<=5) (fun x=>5-x)
  (fun x=>⟨129,[(1,.v (vu c)),(3,.p 3 0),(5,.p 5 0),(6,.p 6 0),(10,.p 10 0),(11,.v (vi x))],[(3,.var (wds W)),(5,.var (nus rotL)),(6,.var (wds jao)),(10,.var (wds (bT W (5*x))))],[]⟩) 0 (Nat.zero_le _) ?_
 intro x hx;by_cases hxlt:x<5
 ·refine run ?_
  refine loop ⟨[1,3,5,6,10,11,12],[3,5,6,10],[],[]⟩ (fun y:Nat=>y<=5) (fun y=>5-y)
   (fun y=>⟨129,[(1,.v (vu c)),(3,.p 3 0),(5,.p 5 0),(6,.p 6 0),(10,.p 10 0),(11,.v (vi x)),(12,.v (vi y))],[(3,.var (wds W)),(5,.var (nus rotL)),(6,.var (wds jao)),(10,.var (wds (bT W (5*x+y))))],[]⟩) 0 (Nat.zero_le _) ?_
  intro y hy;by_cases hylt:y<5
  ·have hBk:=bT_len W (5*x+y);have hj:=posF_lt (x+5*y) om;have f1:(x:Int)+5*(y:Int)=((x+5*y:Nat):Int):=om
   have f4:(2*(x:Int)+3*(y:Int)).tmod 5=(((2*x+3*y) % 5:Nat):Int):=jch (2*x+3*y) 5
   have f5:(y:Int)+5*(((2*x+3*y) % 5:Nat):Int)=((posF (x+5*y):Nat):Int):=by
    have h1:(x+5*y) / 5=y:=om
    have h2:(x+5*y) % 5=x:=om
    unfold posF;rw[h1,h2];omega
   have d1:=jbm (l:=W) (k:=x+5*y) om;have d4:=nus_drop (l:=rotL) (k:=x+5*y) (by show _<25; omega);have hr:=rot_in (x+5*y) om
   have s1:(wds (bT W (5*x+y))).take (posF (x+5*y))++[vu (rotU (atU W (x+5*y)) (atU rotL (x+5*y)))]++(wds (bT W (5*x+y))).drop (posF (x+5*y)+1)=wds (bT W (5*x+y+1)):=by
    rw[bT_succ,tr5_xy hylt];exact jgh om _
   refine rcW (ai f1 (ai f4 (ai f5 (ai d1 d4)))) (den_rotate _ _ hr.1 hr.2) ?_;refine runW s1 ?_;exact round (y+1) om om
  ·have hy5:y=5:=om
   subst hy5;refine run ?_;exact round (x+1) om om
 have hx5:x=5:=om
 subst hx5;have hBe:bT W (5*5)=B:=hBW;simp only[hBe];refine run ?_
 refine loop ⟨[1,3,6,10,13],[3,6,10],[],[]⟩ (fun x:Nat=>x<=5) (fun x=>5-x)
  (fun x=>⟨129,[(1,.v (vu c)),(3,.p 3 0),(6,.p 6 0),(10,.p 10 0),(13,.v (vi x))],[(3,.var (wds (oT B W (5*x)))),(6,.var (wds jao)),(10,.var (wds B))],[]⟩) 0 (Nat.zero_le _) ?_
 intro x hx;by_cases hxlt:x<5
 ·refine run ?_
  refine loop ⟨[1,3,6,10,13,14],[3,6,10],[],[]⟩ (fun y:Nat=>y<=5) (fun y=>5-y)
   (fun y=>⟨129,[(1,.v (vu c)),(3,.p 3 0),(6,.p 6 0),(10,.p 10 0),(13,.v (vi x)),(14,.v (vi y))],[(3,.var (wds (oT B W (5*x+y)))),(6,.var (wds jao)),(10,.var (wds B))],[]⟩) 0 (Nat.zero_le _) ?_
  intro y hy;by_cases hylt:y<5
  ·have hO:(oT B W (5*x+y)).length=25:=(oT_len B W (5*x+y)).trans hWl;have f1:(x:Int)+5*(y:Int)=((x+5*y:Nat):Int):=om
   have f2:((x:Int)+1).tmod 5=(((x+1) % 5:Nat):Int):=jch (x+1) 5;have f3:((x:Int)+2).tmod 5=(((x+2) % 5:Nat):Int):=jch (x+2) 5;have f4:(((x+1) % 5:Nat):Int)+5*(y:Int)=(((x+1) % 5+5*y:Nat):Int):=om
   have f5:(((x+2) % 5:Nat):Int)+5*(y:Int)=(((x+2) % 5+5*y:Nat):Int):=om
   have d1:=jbm (l:=B) (k:=x+5*y) om;have d2:=jbm (l:=B) (k:=(x+1) % 5+5*y) om;have d3:=jbm (l:=B) (k:=(x+2) % 5+5*y) om
   have s1:(wds (oT B W (5*x+y))).take (x+5*y)++[vu (bitF .xor .u64 (atU B (x+5*y)) (bitF .and .u64 (notF .u64 (atU B ((x+1) % 5+5*y))) (atU B ((x+2) % 5+5*y))))]++(wds (oT B W (5*x+y))).drop (x+5*y+1)=wds (oT B W (5*x+y+1)):=by
    have h1:(x+5*y) / 5=y:=om
    have h2:(x+5*y) % 5=x:=om
    rw[oT_succ,tr5_xy hylt];unfold chiF;rw[h1,h2];exact jgh om _
   refine runW (ai f1 (ai f2 (ai f3 (ai f4 (ai f5 (ai d1 (ai d2 (ai d3 s1)))))))) ?_;exact round (y+1) om om
  ·have hy5:y=5:=om
   subst hy5;refine run ?_;exact round (x+1) om om
 have hx5:x=5:=om
 subst hx5;have hOe:oT B W (5*5)=outF B:=oT_all B hWl;have hOl:=outF_len B;obtain ⟨O,hO⟩:∃O,outF B=O:=⟨_,rfl⟩;simp only[hOe,hO] at hOl hRe ⊢;have e0:=ld_word (l:=O) om;have e1:=wds_set0 (l:=O) om (bitF .xor .u64 (atU O 0) c);rw[<- hRe] at e1;obtain ⟨R,hR⟩:∃R,jel a c=R:=⟨_,rfl⟩;simp only[hR] at hRl e1 ⊢;refine runW (ai e0 (ai e1 (ai (tk25 hRl) (ai hRl zdrop)))) ?_;refine finCW (P:=prog) (x:=6) (t:=140) (j:=6) (cs:=wds R) (nm:=none) (kk:=none) ?_ ?_ ?_
 ·rfl
 ·rfl
 ·rw[List.length_map]; exact hRl
set_option maxHeartbeats 4000000 in
theorem den_PermuteR (a:List Int) (ha:a.length=25):Den prog T 87 [.agg (wds a)] (.agg (wds (jf8 a))):=by
 have tr:jb2 25 (nus rotL)=some (nus rotL):=rfl;have hrl:rotL.length=25:=rfl;have hcl:conL.length=24:=rfl;refine ja0 call87 func87 19 ?_;refine rc den_constantsR ?_;refine rc den_rotationsR ?_;refine runW (ai hrl hcl) ?_
 refine loop ⟨[1,2,3,4,5],[1,2,3,4],[],[]⟩ (fun k:Nat=>k<=24) (fun k=>24-k)
  (fun k=>⟨19,[(1,.p 1 0),(2,.p 2 0),(3,.p 3 0),(4,.p 4 0),(5,.v (vi k))],[(1,.var (wds (pK a k))),(2,.var (wds jao)),(3,.var (wds conL)),(4,.var (nus rotL))],[]⟩) 0 (Nat.zero_le _) ?_
 intro k hk;have hl:=pK_len ha k;by_cases hlt:k<24
 ·have hl2:=pK_len ha (k+1);have hc:=jbm (l:=conL) (k:=k) hlt;have hR:=den_roundR (T:=T) (pK a k) (atU conL k) hl;exact zb3
 ·have hk:k=24:=om
  subst hk;simp only[pK_all] at hl ⊢;refine runW (ai (tk25 hl) (ai hl zdrop)) ?_;refine finCW (P:=prog) (x:=2) (t:=140) (j:=2) (cs:=wds (jf8 a)) (nm:=none) (kk:=none) ?_ ?_ ?_
  ·rfl
  ·rfl
  ·rw[List.length_map]; exact hl
def fz (d:Str) (j:Nat):Str:=d++6::List.replicate j 0
theorem jik (d:Str) (j:Nat):(fz d j).length=d.length+1+j:=by unfold fz; rw[List.length_append,List.length_cons,List.length_replicate]; omega
theorem fz_succ (d:Str) (j:Nat):fz d (j+1)=fz d j++[0]:=by
 unfold fz;rw[List.append_assoc,List.cons_append,List.replicate_succ']
theorem bcs_app (a b:Str):jag a++jag b=jag (a++b):=by unfold jag; rw[List.map_append]
theorem mark_bcs {l:Str} {x:UInt8} (h:1<=l.length) (hx:l[l.length-1]? = some x):(jag l).take (l.length-1)++[vb8 (bitF .or .u8 (x.toNat:Int) 128)]++(jag l).drop (l.length-1+1)=jag (jd1 l):=by
 rw[<- orB_val]
 have h1:jd1 l=l.set (l.length-1) (orB x):=by
  unfold jd1;simp only[List.getD_eq_getElem?_getD,hx];rfl
 rw[h1];exact bcs_set om _
theorem mark_len (l:Str):(jd1 l).length=l.length:=by unfold jd1; rw[List.length_set]
theorem full_len (d:Str):(je8 d).length=136*(d.length / 136+1):=by
 have h:je8 d=jd1 (fz d (fillN d.length)):=rfl;rw[h,mark_len,jik];unfold fillN;omega
theorem bys_frz {t id r n cap:Nat} {l:Str} {st:St} (h1:Ab.look t st.t=some (.v (.val (.slice (some ⟨r,0,none⟩) n cap)))) (hf:jbh r st.h=some id) (h2:Ab.look id st.h=some (.var (jag l) (some r) (some (5,1,cap)))) (hn:n=l.length) (h3:n<=cap):
  frzt1 t st= { st with t:=(t,.v (bys l))::st.t,h:=frz1 id (seth id (.var (jag l)) st.h),o:=remo t st.o } := by
 subst hn;rw[frzt1_r h1 hf h2 h3 (by rw[ji0]; omega)];unfold jag;rw[chunk_one]
def sumQ (d:Str) (j r cap:Nat):St:=if j=0 then ⟨83,[(3,.v (.val (.slice (some ⟨r,0,none⟩) (fz d j).length cap)))],[(12,.var (jag (fz d j)) (some r) (some (5,1,cap)))],[]⟩ else
 ⟨83,[(3,.v (.val (.slice (some ⟨r,0,none⟩) (fz d j).length cap)))],[(19,.var (jag (fz d j)) (some r) (some (5,1,cap)))],[]⟩
def sumP (j:Nat):Kp:=if j=0 then ⟨[3],[12],[],[]⟩ else ⟨[3],[19],[],[]⟩
theorem sumQ_0 (d:Str) (r cap:Nat):sumQ d 0 r cap=⟨83,[(3,.v (.val (.slice (some ⟨r,0,none⟩) (fz d 0).length cap)))],[(12,.var (jag (fz d 0)) (some r) (some (5,1,cap)))],[]⟩:=rfl
theorem sumQ_s (d:Str) {j:Nat} (h:j≠0) (r cap:Nat):sumQ d j r cap=⟨83,[(3,.v (.val (.slice (some ⟨r,0,none⟩) (fz d j).length cap)))],[(19,.var (jag (fz d j)) (some r) (some (5,1,cap)))],[]⟩:=if_neg h
theorem sumP_s {j:Nat} (h:j≠0):sumP j=⟨[3],[19],[],[]⟩:=if_neg h
set_option maxHeartbeats 16000000 in
theorem den_SumR (d:Str) (hd:d.length<=1048576):Den prog T 34 [.str d] (.str (sumD d)):=by
 have e1:jag d++[[V.val (.int .u8 6)]].flatten=jag (fz d 0):=bcs_app d [6];have e2:d.length+[[V.val (.int .u8 6)]].length=(fz d 0).length:=by rw[jik]; rfl
 have s1:∀j,jag (fz d j)++[[V.val (.int .u8 0)]].flatten=jag (fz d (j+1)):=fun j=>by rw[fz_succ]; exact bcs_app (fz d j) [0]
 have s2:∀j,(fz d j).length+[[V.val (.int .u8 0)]].length=(fz d (j+1)).length:=fun j=>by rw[jik,jik]; rfl
 have hbd:(jag d).length=d.length:=ji0 d;have hP:je8 d=jd1 (fz d (fillN d.length)):=rfl;have hPl:=full_len d;have hsum:=sumD_full d;obtain ⟨N,hN⟩:∃N,fillN d.length=N:=⟨_,rfl⟩;have hNd:N=135-d.length % 136:=hN.symm;rw[hN] at hP;have hm1:(fz d N).length % 136=0:=by rw[jik]; omega
 have hm2:∀j,j<N->(fz d j).length % 136≠0:=fun j hj=>by rw[jik]; omega
 have hfl:∀j,(fz d j).length=d.length+1+j:=jik d;refine ja0 call34 func34 83 ?_;refine run ?_;unfold bytK;intro r cap hnm h1 h2;refine runB hbd ?_;refine appO_r ?_;unfold appR;refine runB hbd ?_;refine ⟨.inr trivial,?_⟩;intro r' cap' hnm' g1 g2;rw[e1,e2];rw[e2] at g1;refine runB trivial ?_;refine loopV (fun y:Nat×Nat×Nat=>sumP y.1) (fun y=>y.1<=N/\(fz d y.1).length<=y.2.2/\y.2.2<=maxLen) (fun y=>N-y.1) (fun y=>sumQ d y.1 y.2.1 y.2.2) (0,r',cap') ⟨Nat.zero_le _,g1,g2⟩ rfl ?_;rintro ⟨j,q,c⟩ ⟨hj,hc1,hc2⟩;simp only at hj hc1 hc2;have hjl:=hfl j;have hbl:(jag (fz d j)).length=(fz d j).length:=ji0 _;have m1:(((fz d j).length:Nat):Int).tmod 136=(((fz d j).length % 136:Nat):Int):=jch _ 136;have t1:=s1 j;have t2:=s2 j;by_cases hlt:j<N
 ·have hne:¬(((fz d j).length % 136:Nat):Int)=0:=by have:=hm2 j hlt; omega
  have hnx:(fz d (j+1)).length=d.length+1+(j+1):=hfl (j+1);by_cases h0:j=0
  ·subst h0;simp only[sumQ_0];refine runB (ai m1 (eq_false hne)) ?_;refine appO_r ?_;unfold appR;refine runB hbl ?_;refine ⟨.inr trivial,?_⟩;intro q' c' hnm2 g3 g4;rw[t1,t2];rw[t2] at g3;refine runB trivial ?_;refine roundV (0+1,q',c') ⟨hlt,g3,g4⟩ zd3 ?_;simp only[sumQ_s d (Nat.succ_ne_zero 0),sumP_s (Nat.succ_ne_zero 0)];rfl
  ·simp only[sumQ_s d h0];refine runB (ai m1 (eq_false hne)) ?_;refine appO_r ?_;unfold appR;refine runB hbl ?_;refine ⟨.inl trivial,?_⟩;intro q' c' hnm2 g3 g4;rw[t1,t2];rw[t2] at g3;refine runB trivial ?_;refine roundV (j+1,q',c') ⟨hlt,g3,g4⟩ zd3 ?_;simp only[sumQ_s d (Nat.succ_ne_zero j),sumP_s (Nat.succ_ne_zero j)];rfl
 have hjN:j=N:=om
 subst hjN;have hl1:1<=(fz d j).length:=om
 obtain ⟨x,hx,-,-⟩:=ja1 (l:=fz d j) (k:=(fz d j).length-1) om;have hdr:=bcs_drop hx;have hst:=mark_bcs hl1 hx;have hml:(fz d j).length=(jd1 (fz d j)).length:=(mark_len _).symm;rw[<- hP] at hst hml;have hz:(((fz d j).length % 136:Nat):Int)=0:=by rw[hm1]; rfl
 clear t1 t2 s1 s2 hP hfl hm2 hm1 hx;obtain ⟨l,hl⟩:∃l,fz d j=l:=⟨_,rfl⟩;obtain ⟨P,hPP⟩:∃P,je8 d=P:=⟨_,rfl⟩;rw[hPP] at hst hml hPl hsum;apply aw_meets ⟨[3],[],[],[]⟩ (fun _:Unit=>True) (fun _=>⟨83,[(3,.v (bys P))],[],[]⟩)
 ·intro tail;by_cases h0:j=0
  ·have hQ:sumQ d j q c=⟨83,[(3,.v (.val (.slice (some ⟨q,0,none⟩) l.length c)))],[(12,.var (jag l) (some q) (some (5,1,c)))],[]⟩:=by subst h0; rw[<- hl]; rfl
   rw[hl] at hst hml hdr hz m1 hl1 hbl hc1 hjl;simp only[hQ];refine runTo (stopAt 5) (ai m1 (ai hz (ai hdr (ai hst hbl)))) ?_;refine aw_frzt 3 ?_;rw[bys_frz (id:=12) (r:=q) (n:=l.length) (cap:=c) (l:=P) rfl (by simp[jbh,jbz,Blk.nm,nmOf,jae]) rfl hml hc1];refine tail _ () trivial ?_;rfl
  ·have hQ:sumQ d j q c=⟨83,[(3,.v (.val (.slice (some ⟨q,0,none⟩) l.length c)))],[(19,.var (jag l) (some q) (some (5,1,c)))],[]⟩:=by rw[sumQ_s d h0,hl]
   rw[hl] at hst hml hdr hz m1 hl1 hbl hc1 hjl;simp only[hQ];refine runTo (stopAt 5) (ai m1 (ai hz (ai hdr (ai hst hbl)))) ?_;refine aw_frzt 3 ?_;rw[bys_frz (id:=19) (r:=q) (n:=l.length) (cap:=c) (l:=P) rfl (by simp[jbh,jbz,Blk.nm,nmOf,jae]) rfl hml hc1];refine tail _ () trivial ?_;rfl
 intro _ _;clear hst hml hdr hz m1 hl1 hbl hc1 hc2 hjl hl hlt hj;obtain ⟨n,hn⟩:∃n,d.length / 136+1=n:=⟨_,rfl⟩;rw[hn] at hPl hsum;have hPb:P.length<=1048800:=om
 refine run ?_
 refine loop ⟨[3,4,5],[4],[],[]⟩ (fun y:Nat×List Int=>y.1<=n/\y.2.length=25/\jg3 (n-y.1) y.2 (P.drop (136*y.1))=jg3 n jao P) (fun y=>n-y.1)
  (fun y=>⟨83,[(3,.v (bys P)),(4,.p 4 0),(5,.v (vi ((136*y.1:Nat):Int)))],[(4,.var (wds y.2))],[]⟩) (0,jao) ⟨Nat.zero_le _,rfl,rfl⟩ ?_
 rintro ⟨k,s⟩ ⟨hk,hs,hb⟩;simp only at hk hs hb;have hPm:(P.map Cby).length=P.length:=List.length_map _;by_cases hlt:k<n
 ·have hlt2:(((136*k:Nat):Int)<(P.length:Int))=True:=eq_true om;obtain ⟨Q,hQ⟩:∃Q,(P.drop (136*k)).take 136=Q:=⟨_,rfl⟩;have hQl:Q.length=136:=by rw[<- hQ,List.length_take,List.length_drop]; omega
  have hQg:∀i,i<136->Q[i]? = P[136*k+i]? := fun i hi=>by rw[<- hQ,List.getElem?_take_of_lt hi,List.getElem?_drop]
  have hnk:n-k=(n-(k+1))+1:=om
  rw[hnk,jg3,hQ,List.drop_drop,show 136*k+136=136*(k+1) by omega] at hb;have hBl:=jk3 s Q hs;have hfin:jf8 (eatF s Q 136)=jbf s Q:=by rw[jbf]
  refine runW (ai hPm hlt2) ?_
  refine loop ⟨[3,4,5,6],[4],[],[]⟩ (fun i:Nat=>i<=136) (fun i=>136-i)
   (fun i=>⟨83,[(3,.v (bys P)),(4,.p 4 0),(5,.v (vi ((136*k:Nat):Int))),(6,.v (vi i))],[(4,.var (wds (eatF s Q i)))],[]⟩) 0 (Nat.zero_le _) ?_
  intro i hi;have hl:(eatF s Q i).length=25:=(eatF_len s Q i).trans hs;by_cases hilt:i<136
  ·obtain ⟨b,hb1,-,-⟩:=ja1 (l:=Q) (k:=i) om;have hg:Q.getD i 0=b:=by rw[List.getD_eq_getElem?_getD,hb1]; rfl
   have hx:P[136*k+i]? = some b:=by rw[<- hQg i hilt,hb1]
   have q0:((136*k:Nat):Int)+(i:Int)=((136*k+i:Nat):Int):=om
   have q1:((i:Nat):Int).tdiv 8=((i / 8:Nat):Int):=jhe i 8;have q2:((i:Nat):Int).tmod 8=((i % 8:Nat):Int):=jch i 8;have d1:=jbm (l:=eatF s Q i) (k:=i / 8) om
   have s1:(wds (eatF s Q i)).take (i / 8)++[vu (bitF .xor .u64 (atU (eatF s Q i) (i / 8)) (shF true .u64 (b.toNat:Int) (8*((i % 8:Nat):Int))))]++(wds (eatF s Q i)).drop (i / 8+1)=wds (eatF s Q (i+1)):=by
    rw[jpe,hg];exact jgh om _
   refine runW (ai q0 (ai hx (ai q1 (ai q2 (ai d1 (ai s1 (byte64 b))))))) ?_;exact round (i+1) hilt om
  ·have hi:i=136:=om
   subst hi;have hPr:=den_PermuteR (T:=T) (eatF s Q 136) hl;rw[hfin] at hPr;have q0:((136*k:Nat):Int)+136=((136*(k+1):Nat):Int):=om
   refine rcW (tk25 hl) hPr ?_;refine runW (ai hBl (ai (jno hl) q0)) ?_;exact round (k+1,jbf s Q) ⟨hlt,hBl,hb⟩ zd3
 have hkn:k=n:=om
 subst hkn;have hlt2:(((136*k:Nat):Int)<(P.length:Int))=False:=eq_false om;rw[Nat.sub_self,jg3] at hb;rw[<- hb] at hsum;rw[hsum];refine runW (ai hPm hlt2) ?_
 refine loop ⟨[4,7,8],[4],[7],[]⟩ (fun i:Nat=>i<=32) (fun i=>32-i)
  (fun i=>⟨83,[(4,.p 4 0),(7,.v (bys (digF s i))),(8,.v (vi i))],[(4,.var (wds s))],[(5,[7])]⟩) 0 (Nat.zero_le _) ?_
 intro i hi;by_cases hilt:i<32
 ·have q1:((i:Nat):Int).tdiv 8=((i / 8:Nat):Int):=jhe i 8;have q2:((i:Nat):Int).tmod 8=((i % 8:Nat):Int):=jch i 8;have d1:=jbm (l:=s) (k:=i / 8) om
  have hap:(digF s i).map Cby++[[vb8 (IntKind.u8.wrap (shF false .u64 (atU s (i / 8)) (8*((i % 8:Nat):Int))))]]=(digF s (i+1)).map Cby:=by
   rw[digF_succ,List.map_append,List.map_singleton];simp only[Cby,vb8,byte_back]
  have hdl:(digF s i).length=i:=by unfold digF; rw[List.length_map,List.length_range]
  refine runW (ai q1 (ai q2 (ai d1 hap))) ?_;exact round (i+1) hilt om
 ·have hi:i=32:=om
  subst hi;have hby:=byL_cs (digF s 32);rw[<- bys_flat] at hby;refine runW hby ?_;exact fin rfl
theorem jip (n a b:Int):Den prog T 32 [vi n,vi a,vi b] (vb (decide (a<=n/\n<=b))):=by
 refine ja0 call32 func32 15 ?_;by_cases h1:a<=n <;> by_cases h2:n<=b <;> (refine run ?_; refine fin (ja2 ?_); simp; try omega)
theorem jkz (n:Int):Den prog T 32 [vi n,vi 1,vi 1073741824] (vb (idB n)):=jip n 1 1073741824
theorem den_wDay (n:Int):Den prog T 32 [vi n,vi 0,vi 1048575] (vb (dayG n)):=by
 have h:=jip (T:=T) n 0 1048575
 rwa [show decide (0<=n/\n<=1048575)=dayG n by unfold dayG; rw[Bool.decide_and]] at h
def txtH (c:Crt):Str:=xCert++decS c.num++jk6++decS c.prp++xDayS++decS c.day++xFiles
def txtJ (c:Crt) (j:Nat):Str:=(c.fls.take j).foldl (fun t f=>t++[32]++decS f) (txtH c)
theorem txtJ_s {c:Crt} {j:Nat} {f:Int} (h:c.fls[j]? = some f):txtJ c (j+1)=txtJ c j++[32]++decS f:=by
 unfold txtJ;rw[jm1 h,List.foldl_append];rfl
theorem fold_fls:∀(l:List Int) (t:Str),l.foldl (fun t f=>t++[32]++decS f) t=t++flsT l
 | [],t=>by simp[flsT]
 | f::l,t=>by
  rw[List.foldl_cons,fold_fls l];simp[flsT]
theorem txtJ_end (c:Crt):txtJ c c.fls.length++[10]++c.bef=crtT c:=by
 unfold txtJ;rw[List.take_length,fold_fls];unfold crtT txtH;simp
theorem txtH_len {c:Crt} (h1:idB c.num=true) (h2:idB c.prp=true) (h3:dayG c.day=true):(txtH c).length<=100:=by
 have g1:=jew (n:=c.num) (by have:=je1 h1; omega);have g2:=jew (n:=c.prp) (by have:=je1 h2; omega);have g3:=jew (n:=c.day) (by have:=jl0 h3; omega);unfold txtH xCert jk6 xDayS xFiles;exact zbp
theorem txtJ_len {c:Crt} (h0:(txtH c).length<=100):∀j:Nat,(∀f∈c.fls.take j,idB f=true)->(txtJ c j).length<=100+11*j
 | 0,_=>h0
 | j+1,hf=>by
  have ih:=txtJ_len h0 j fun f hm=>hf f (List.take_subset_take_left c.fls (Nat.le_succ j) hm);rcases Nat.lt_or_ge j c.fls.length with hlt | hge
  ·obtain ⟨f,hx,-,-⟩:=ja1 hlt;have hm:=hf f (jkk hx (Nat.lt_succ_self j));have:=jew (n:=f) (by have:=je1 hm; omega);rw[txtJ_s hx];exact zbp
  ·have:txtJ c (j+1)=txtJ c j:=by unfold txtJ; rw[List.take_of_length_le om,List.take_of_length_le hge]
   rw[this];omega
set_option maxHeartbeats 8000000 in
theorem jqg (c:Crt) (hf:c.fls.length<=1048576) (hb:c.bef.length<=1048576):Den prog T 9 [.agg c.cs] (digV c):=by
 have no:∀ {b:Bool},b=false->(CrtOk c->b=true)->digV c= .tup [.str [],vi 1]:=fun h1 h2=>jf0 fun h=>by rw[h2 h] at h1; cases h1
 refine ja0 call9 func9 97 ?_;refine rc (jkz c.num) ?_;cases h1:idB c.num
 ·rw[no h1 fun h=>h.num];exact za
 refine rc (jkz c.prp) ?_;cases h2:idB c.prp
 ·rw[no h2 fun h=>h.prp];exact za
 refine rc (den_wDay c.day) ?_;cases h3:dayG c.day
 ·rw[no h3 fun h=>h.day];exact za
 refine rc (jip c.fls.length 1 256) ?_;cases h4:decide (1<=(c.fls.length:Int)/\(c.fls.length:Int)<=256)
 ·rw[no h4 fun h=>decide_eq_true ⟨by have:=h.ne; omega,by have:=h.le; omega⟩];exact za
 by_cases h5:c.bef.length=32
 case neg=>
  rw[jf0 fun h=>h5 h.bef];refine runW (eq_false h5) ?_;exact fin rfl
 have h4:=of_decide_eq_true h4;have hH:=txtH_len h1 h2 h3;have i1:=je1 h1;have i2:=je1 h2;have i3:=jl0 h3;have g1:=jew (n:=c.num) om;have g2:=jew (n:=c.prp) om;have g3:=jew (n:=c.day) om;have hHe:[99,101,114,116,105,102,105,99,97,116,101,32]++decS c.num++[32,112,114,111,112,111,115,97,108,32]++decS c.prp++[32,100,97,121,32]++decS c.day++[32,102,105,108,101,115]=txtJ c 0:=rfl;refine rcW h5 (jks c.num om) ?_;refine rc (jks c.prp om) ?_;refine rc (jks c.day om) ?_;refine run ?_;refine jd2 ⟨[4,5,1],[1],[],[]⟩ (fun j:Nat=>j<=c.fls.length/\(∀f∈c.fls.take j,idB f=true)/\∀(i:Nat) x y,i+1<j->c.fls[i]? = some x->c.fls[i+1]? = some y->x<y) (fun j=>c.fls.length-j) (fun j=>[(4,.v (.str (txtJ c j))),(5,.v (vi j))]) 0 ⟨Nat.zero_le _,sm,fun i _ _ hi=>absurd hi (Nat.not_lt_zero _)⟩ ?_;rintro j ⟨hj,hall,hris⟩;have hjl:=txtJ_len hH j hall;by_cases hlt:j<c.fls.length
 ·obtain ⟨f,hx,-,hm⟩:=ja1 hlt;refine rcW hx (jkz f) ?_;cases hi:idB f
  ·rw[no hi fun h=>List.all_eq_true.1 h.ids f hm];exact za
  have hi':=je1 hi;have hall2:=jac (q:=fun f=>idB f=true) hall hx hi;have hds:=jew (n:=f) om;have hnx:=txtJ_s hx;have hnl:=txtJ_len hH (j+1) hall2;obtain ⟨A,hA⟩:∃A,txtJ c j=A:=⟨_,rfl⟩;obtain ⟨B,hB⟩:∃B,txtJ c (j+1)=B:=⟨_,rfl⟩;rw[hA] at hjl hnx ⊢;by_cases h0:j=0
  ·subst h0;refine rcW hx (jks f om) ?_;refine run ?_;refine round (0+1) ⟨hlt,hall2,fun i _ _ hi=>by omega⟩ om ?_;rw[hnx];rfl
  ·obtain ⟨g,hg,-,-⟩:=ja1 (l:=c.fls) (k:=j-1) om;have hpos:((0:Int)<(j:Int))=True:=eq_true om;by_cases hle:f<=g
   ·rw[jf0 fun h=>by
     have:=(jfh c.fls).1 h.ris (j-1) g f hg (by rw[show j-1+1=j by omega]; exact hx)
     omega]
    refine runW (ai hpos (ai hx (ai hg (eq_true hle)))) ?_;exact fin rfl
   ·refine rcW (ai hpos (ai hx (ai hg (eq_false hle)))) (jks f om) ?_;refine run ?_;refine round (j+1) ⟨hlt,hall2,fun i x y hi h1 h2=> ?_⟩ om ?_
    ·by_cases hij:i+1=j
     ·subst hij;rw[hx] at h2;cases h2;rw[show i+1-1=i by omega,h1] at hg;cases hg;omega
     ·exact hris i x y om h1 h2
    ·rw[hnx];rfl
 ·have hj2:j=c.fls.length:=om
  subst hj2;have hok:CrtOk c:=⟨h1,h2,h3,om,om,(jfh c.fls).2 fun i x y hx hy=>hris i x y (gsi.1 hy).1 hx hy,List.all_eq_true.2 fun f hf=>hall f (by rw[List.take_length]; exact hf),h5⟩;have hcl:=crtT_len hok;have he:=txtJ_end c;rw[digV_ok hok];obtain ⟨A,hA⟩:∃A,txtJ c c.fls.length=A:=⟨_,rfl⟩;rw[hA] at hjl he ⊢;refine rcW he (den_SumR (crtT c) om) ?_;exact za
theorem den_last14 (l:List Crt) (hl:l.length<=1048576):Den prog T 88 [crts l] (.str (befC l l.length)):=by
 have hby:=byL_zero 32;refine ja0 call88 func88 15 ?_;unfold befC ja8;by_cases h0:l.length=0
 ·rw[if_pos h0];refine runW h0 ?_;intro r' hnm;have q1:(List.replicate 32 (vb8 0)).length=32:=rfl;have q2:List.take 32 (List.replicate 32 (vb8 0))=List.replicate 32 (vb8 0):=rfl;refine runW (ai q1 (ai q2 hby)) ?_;exact fin rfl
 ·rw[if_neg h0];obtain ⟨x,hx,-,-⟩:=ja1 (l:=l) (k:=l.length-1) om;rw[hx];have h0':¬((l.length:Nat):Int)=0:=om
  refine runW (ai (eq_false h0) (ai (eq_false h0') hx)) ?_;exact fin rfl
theorem befC_take {l:List Crt} {i:Nat} (h:i<=l.length):befC (l.take i) (l.take i).length=befC l i:=by
 have e:(l.take i).length=i:=by rw[List.length_take,Nat.min_eq_left h]
 rw[e];unfold befC ja8;by_cases h0:i=0
 ·rw[if_pos h0,if_pos h0]
 ·rw[if_neg h0,if_neg h0,List.getElem?_take_of_lt om]
theorem jr1 (l:List Crt) (i:Nat) (hl:l.length<=1048576/\∀c∈l,c.fls.length<=1048576/\c.bef.length<=1048576/\c.dig.length<=1048576) (hi:i<l.length):Den prog T 36 [crts l,vi i] (vb (jba l i)):=by
 have hl0:=hl.1;obtain ⟨c,hc,-,hm⟩:=ja1 hi;have hfc:=hl.2 c hm;have hD:=jqg (T:=T) c hfc.1 hfc.2.1;have hlk:jba l i=linkC (befC l i) i c:=by unfold jba; rw[hc]
 have hL:=den_last14 (T:=T) (l.take i) zev;rw[befC_take om] at hL;have htk:(l.map Crt.cs).take i=(l.take i).map Crt.cs:=(List.map_take ..).symm;rw[hlk];refine ja0 call36 func36 48 ?_;refine rcW hc hD ?_;unfold linkC digV digR;by_cases h2:c.num=(i:Int)+1
 ·cases h1:crtB c
  ·rw[if_neg dc];refine runW (ai hc (eq_true h2)) ?_;exact zm
  rw[if_pos rfl];cases h3:c.dig == sumD (crtT c)
  ·have h3':(sumD (crtT c) == c.dig)=false:=by rw[beq_eq_false_iff_ne] at h3 ⊢; exact fun e=>h3 e.symm
   refine runW (ai hc (ai (eq_true h2) h3')) ?_;exact zm
  ·have h3':(sumD (crtT c) == c.dig)=true:=by rw[beq_iff_eq] at h3 ⊢; exact h3.symm
   refine rcW (ai hc (ai (eq_true h2) (ai h3' htk))) hL ?_;refine runW (ai hc (ai (eq_true h2) h3')) ?_;exact zb9
 ·refine runW (ai hc (eq_false h2)) ?_;exact zb9
theorem den_Chain14 (l:List Crt) (hl:l.length<=1048576/\∀c∈l,c.fls.length<=1048576/\c.bef.length<=1048576/\c.dig.length<=1048576):Den prog T 11 [crts l] (chkV (jin l)):=by
 have hl0:=hl.1;refine ja0 call11 func11 19 ?_;unfold jin;by_cases h16:1024<l.length
 ·refine run ?_;refine fin ?_;simp only[chkV,jdg h16]
 refine run ?_;refine ja6 ⟨[4,0],[],[],[]⟩ l.length (fun k=>∀i,i<k->(if jba l i=true then (0:Int) else 14)=0) (fun i hi=>absurd hi (Nat.not_lt_zero i)) ?_;rintro k ⟨hk,hall⟩;by_cases hlt:k<l.length
 ·refine rc (jr1 l k hl hlt) ?_;cases hz:jba l k
  ·exact z5
  ·refine run ?_;refine round (k+1) ⟨om,fun i hi=> ?_⟩ om;by_cases e:i=k
   ·rw[e,hz]; rfl
   ·exact zbo
 ·refine run ?_;refine fin ?_;simp only[chkV,jcz h16 fun i hi=>hall i om]
theorem den_find14 (l:List Prp) (n:Int) (hl:l.length<=1048576):Den prog T 60 [prps l,vi n] (vi (je9 l n)):=by
 refine ja0 call60 func60 20 ?_;refine run ?_;refine ja6 ⟨[5,0,1],[],[],[]⟩ l.length (fun k=>∀o∈l.take k,jb1 n o=false) sm ?_;rintro k ⟨hk,hall⟩;by_cases hlt:k<l.length
 ·obtain ⟨x,hx,-,-⟩:=ja1 hlt;by_cases hxn:x.id=n
  ·refine runW hx ?_;exact fin (ja4 (jg0 (p:=jb1 n) hall hx (by simp[jb1,hxn])))
  ·refine runW hx ?_;exact round (k+1) ⟨om,jac (q:=fun o:Prp=>jb1 n o=false) hall hx (by simp[jb1,hxn])⟩ om
 ·refine run ?_;exact fin (ja4 (jgl (p:=jb1 n) hall hlt))
theorem den_has14 (l:List Int) (n:Int) (hl:l.length<=1048576):Den prog T 116 [ints l,vi n] (vb (hasI n l)):=by
 refine ja0 call116 func116 18 ?_;refine run ?_;refine ja6 ⟨[5,0,1],[],[],[]⟩ l.length (fun k=>∀x∈l.take k,decide (x=n)=false) sm ?_;rintro k ⟨hk,hall⟩;by_cases hlt:k<l.length
 ·obtain ⟨x,hx,-,hm⟩:=ja1 hlt;by_cases hxn:x=n
  ·have:hasI n l=true:=List.any_eq_true.2 ⟨x,hm,decide_eq_true hxn⟩;rw[this];exact zd
  ·refine runW hx ?_;exact round (k+1) ⟨om,jac (q:=fun x:Int=>decide (x=n)=false) hall hx (decide_eq_false hxn)⟩ om
 ·have:hasI n l=false:=List.any_eq_false.2 fun x hx=>by rw[jcw hall hlt x hx]; decide
  rw[this];exact za
theorem jr7 (l:List Clk) (n d:Int) (hl:l.length<=1048576):Den prog T 114 [clks l,vi n,vi d] (vi (ix (jca n d) l)):=by
 refine ja0 call114 func114 31 ?_;refine run ?_;refine ja6 ⟨[7,0,1,2],[],[],[]⟩ l.length (fun k=>∀o∈l.take k,jca n d o=false) sm ?_;rintro k ⟨hk,hall⟩;by_cases hlt:k<l.length
 ·obtain ⟨x,hx,-,-⟩:=ja1 hlt;by_cases hxn:x.id=n
  ·refine rcW (ai hx hxn) (den_In04 x.frm x.til d) ?_;cases hin:inS x.frm x.til d
   ·refine runW hxn ?_;exact round (k+1) ⟨om,jac (q:=fun o:Clk=>jca n d o=false) hall hx (by simp[jca,hxn,hin])⟩ om
   ·refine runW hxn ?_;exact fin (ja4 (jg0 (p:=jca n d) hall hx (by simp[jca,hxn,hin])))
  ·refine runW (ai hx (eq_false hxn)) ?_;exact round (k+1) ⟨om,jac (q:=fun o:Clk=>jca n d o=false) hall hx (by simp[jca,hxn])⟩ om
 ·refine run ?_;exact fin (ja4 (jgl (p:=jca n d) hall hlt))
theorem clkOn_ix (l:List Clk) (n d:Int):(jdx l n d=false/\ix (jca n d) l<0)\/(jdx l n d=true/\¬ix (jca n d) l<0):=by
 have h:=jdu (jca n d) l;unfold jdx;by_cases hi:ix (jca n d) l<0
 ·left;rw[<- h];exact ⟨decide_eq_false om,hi⟩
 ·right;rw[<- h];exact ⟨decide_eq_true om,hi⟩
set_option maxHeartbeats 8000000 in
theorem den_clerks14 (l:List Clk) (hl:l.length<=1048576) (hn:∀c∈l,c.name.length<=1048576):Den prog T 44 [clks l] (vi (chk 32 l.length (jbj l)).2):=by
 refine ja0 call44 func44 61 ?_;by_cases h32:32<l.length
 ·rw[jdg h32];exact za
 refine run ?_;refine ja6 ⟨[3,0],[],[],[]⟩ l.length (fun k=>∀i,i<k->jbj l i=0) (fun i hi=>absurd hi (Nat.not_lt_zero i)) ?_;rintro k ⟨hk,hall⟩;by_cases hlt:k<l.length
 ·obtain ⟨c,hx,-,hm⟩:=ja1 hlt;have hcn:=hn c hm
  have hE:jbj l k=if idB c.id=false\/c.role<1\/3<c.role\/jak c.frm c.til=false then 2 else if name c.name=false then 4 else if jim (ja8 l k) c=true then 5 else 0:=by
   unfold jbj;rw[hx]
  have bad:∀e:Int,jbj l k=e->e≠0->(chk 32 l.length (jbj l)).2=e:=fun e h1 h2=>by rw[jdp h32 hlt hall (by rw[h1]; exact h2)]; exact h1
  refine rcW hx (jkz c.id) ?_;cases h1:idB c.id
  ·rw[bad 2 (by rw[hE,if_pos (.inl h1)]) dc];exact za
  refine rcW hx (jip c.role 1 3) ?_;cases h2:decide (1<=c.role/\c.role<=3)
  ·have h2:=of_decide_eq_false h2;rw[bad 2 (by rw[hE,if_pos (by by_cases g:c.role<1; exact .inr (.inl g); exact .inr (.inr (.inl om)))]) dc];exact za
  have h2:=of_decide_eq_true h2;refine rcW hx (jk0 c.frm c.til) ?_;cases h3:jak c.frm c.til
  ·rw[bad 2 (by rw[hE,if_pos (.inr (.inr (.inr h3)))]) dc];exact za
  have hE2:jbj l k=if name c.name=false then 4 else if jim (ja8 l k) c=true then 5 else 0:=by
   rw[hE,if_neg];rintro (e | e | e | e)
   ·rw[h1] at e; cases e
   ·omega
   ·omega
   ·rw[h3] at e; cases e
  refine rcW hx (jh7 c.name hcn) ?_;cases h4:name c.name
  ·rw[bad 4 (by rw[hE2,if_pos h4]) dc];exact za
  rw[if_neg (by rw[h4]; decide)] at hE2
  have next:jbj l k=0->∀i,i<k+1->jbj l i=0:=fun h0 i hi=>by
   by_cases e:i=k
   ·rw[e]; exact h0
   ·exact zbo
  by_cases h0:k=0
  ·have hz:jbj l k=0:=by rw[hE2]; unfold ja8; rw[if_pos h0]; rfl
   have nx:=next hz;subst h0;refine runW hx ?_;exact round (0+1) ⟨hlt,nx⟩ om
  ·obtain ⟨q,hq,-,-⟩:=ja1 (l:=l) (k:=k-1) om;have hpos:((0:Int)<(k:Int))=True:=eq_true om;have hE3:jbj l k=if decide (c.id<=q.id)=true then 5 else 0:=by rw[hE2]; unfold ja8; rw[if_neg h0,hq]; rfl
   by_cases hle:c.id<=q.id
   ·rw[bad 5 (by rw[hE3,if_pos (decide_eq_true hle)]) dc];refine runW (ai hpos (ai hx (ai hq (eq_true hle)))) ?_;exact fin rfl
   ·refine runW (ai hpos (ai hx (ai hq (eq_false hle)))) ?_;exact round (k+1) ⟨hlt,next (by rw[hE3,decide_eq_false hle]; rfl)⟩ om
 ·rw[jcz h32 fun i hi=>hall i om];exact za
set_option maxHeartbeats 16000000 in
theorem den_proposal14 (r:Rgs) (h:r.Fit) (i:Nat) (hi:i<r.pps.length):Den prog T 45 [.agg r.cs,vi i] (vi (jc8 r i)):=by
 have hpl:=h.pps.1;have hfl:=h.fls.1;have hcl:=h.cks.1;obtain ⟨p,hx,-,hm⟩:=ja1 hi;have hpf:=h.pps.2 p hm;have hE0:jc8 r i=prpE r (r.pps.take i) (ja8 r.pps i) p:=by unfold jc8; rw[hx]
 rw[hE0];obtain ⟨E,hEE⟩:∃E,prpE r (r.pps.take i) (ja8 r.pps i) p=E:=⟨_,rfl⟩;rw[hEE];unfold prpE at hEE
 have hwd:∀b:Bool,wdrB p=b->((p.day<=p.wdr/\p.wdr<=1048575)/\b=true)\/(¬(p.day<=p.wdr/\p.wdr<=1048575)/\((p.wdr=1048576/\b=true)\/(¬p.wdr=1048576/\b=false))):=fun b hb=>by
  subst hb;unfold wdrB;by_cases g1:p.day<=p.wdr <;> by_cases g2:p.wdr<=1048575 <;> by_cases g3:p.wdr=1048576 <;> simp[g1,g2,g3]
 refine ja0 call45 func45 146 ?_;refine rcW hx (jkz p.id) ?_;cases h1:idB p.id
 ·rw[if_pos (.inl h1)] at hEE;subst hEE;exact za
 refine rc (den_wDay p.day) ?_;cases h2:dayG p.day
 ·rw[if_pos (.inr (.inl h2))] at hEE;subst hEE;exact za
 refine run ?_;apply jmy (wdrB p=true) ⟨146,[(1,.v (vi i)),(2,.p 2 0),(5,.p 5 0)],[(5,.var p.cs),(2,.var r.cs)],[]⟩
 ·intro tail;refine call (jip p.wdr p.day 1048575) ?_;rcases hwd _ rfl with ⟨g1,g2⟩ | ⟨g1,⟨g2,g3⟩ | ⟨g2,g3⟩⟩
  ·rw[decide_eq_true g1];refine runD trivial ?_;refine tail _ g2 ?_;exact zbl
  ·rw[decide_eq_false g1];refine runD (eq_true g2) ?_;refine tail _ g3 ?_;exact zbl
  ·rw[decide_eq_false g1];rw[if_pos (.inr (.inr g3))] at hEE;subst hEE;refine runW (eq_false g2) ?_;exact fin rfl
 intro hw;rw[if_neg (by rw[h1,h2,hw]; decide)] at hEE;clear hwd;apply jmy (je3 (ja8 r.pps i) p=false) ⟨146,[(1,.v (vi i)),(2,.p 2 0),(5,.p 5 0)],[(5,.var p.cs),(2,.var r.cs)],[]⟩
 ·intro tail;by_cases h0:i=0
  ·have hz:je3 (ja8 r.pps i) p=false:=by unfold ja8; rw[if_pos h0]; rfl
   subst h0;refine runTo (stopAt 6) trivial ?_;refine tail _ hz ?_;exact zbl
  ·obtain ⟨q,hq,-,-⟩:=ja1 (l:=r.pps) (k:=i-1) om;have hpos:((0:Int)<(i:Int))=True:=eq_true om;have hz:je3 (ja8 r.pps i) p=(decide (p.id<=q.id) || decide (p.day<q.day)):=by unfold ja8; rw[if_neg h0,hq]; rfl
   by_cases g1:p.id<=q.id
   ·rw[if_pos (by rw[hz,decide_eq_true g1]; rfl)] at hEE;subst hEE;refine runW (ai hpos (ai hq (eq_true g1))) ?_;exact fin rfl
   by_cases g2:p.day<q.day
   ·rw[if_pos (by rw[hz,decide_eq_true g2,Bool.or_true])] at hEE;subst hEE;refine runW (ai hpos (ai hq (ai (eq_false g1) (eq_true g2)))) ?_;exact fin rfl
   ·refine runTo (stopAt 6) (ai hpos (ai hq (ai (eq_false g1) (eq_false g2)))) ?_;refine tail _ (by rw[hz,decide_eq_false g1,decide_eq_false g2]; rfl) ?_;exact zbl
 intro hea;rw[if_neg (by rw[hea]; decide)] at hEE;clear hea;refine rc (jr7 r.cks p.clk p.day hcl) ?_;rcases clkOn_ix r.cks p.clk p.day with ⟨g1,g2⟩ | ⟨g1,g2⟩
 ·rw[if_pos g1] at hEE;subst hEE;refine runW (eq_true g2) ?_;exact fin rfl
 rw[if_neg (by rw[g1]; decide)] at hEE;by_cases hne:p.fls=[]
 ·rw[if_pos hne] at hEE;subst hEE;have hl0:p.fls.length=0:=by rw[hne]; rfl
  refine runW (ai (eq_false g2) hl0) ?_;exact fin rfl
 rw[if_neg hne] at hEE;have hl0:¬p.fls.length=0:=fun e=>hne (List.eq_nil_of_length_eq_zero e);refine runW (ai (eq_false g2) (eq_false hl0)) ?_;clear g1 g2;refine ja6 ⟨[6,1,2,5],[5,2],[],[]⟩ p.fls.length (fun k=>∀f∈p.fls.take k,hasF r.fls f=true) sm ?_;rintro k ⟨hk,hall⟩;by_cases hlt:k<p.fls.length
 ·obtain ⟨f,hf,-,hfm⟩:=ja1 hlt;have hh:=joa r.fls f;refine rcW hf (jn6 r.fls f hfl) ?_;by_cases g:jbi r.fls f<0
  ·rw[decide_eq_true g] at hh;have hna:p.fls.all (hasF r.fls)=false:=List.all_eq_false.2 ⟨f,hfm,by rw[hh]; decide⟩;rw[if_pos hna] at hEE;subst hEE;refine runW (eq_true g) ?_;exact fin rfl
  ·rw[decide_eq_false g] at hh;refine runW (eq_false g) ?_;exact round (k+1) ⟨hlt,jac (q:=fun f=>hasF r.fls f=true) hall hf hh⟩ om
 rw[if_neg (by rw[List.all_eq_true.2 fun f hf=>jcw hall hlt f hf]; decide)] at hEE;clear hall;refine run ?_;refine jd2 ⟨[7,1,2,5],[5,2],[],[]⟩ (fun k:Nat=>1<=k/\k<=p.fls.length/\∀(j:Nat) x y,j+1<k->p.fls[j]? = some x->p.fls[j+1]? = some y->x<y) (fun k=>p.fls.length-k) (fun k=>[(7,.v (vi k))]) 1 ⟨Nat.le_refl _,om,fun j _ _ hj=>by omega⟩ ?_;rintro k ⟨hk1,hk,hris⟩;by_cases hlt:k<p.fls.length
 ·obtain ⟨f,hf,-,-⟩:=ja1 hlt;obtain ⟨g,hg,-,-⟩:=ja1 (l:=p.fls) (k:=k-1) om;by_cases hle:f<=g
  ·have hnr:risI p.fls=false:=Bool.eq_false_iff.2 fun e=>by
    have:=(jfh p.fls).1 e (k-1) g f hg (by rw[show k-1+1=k by omega]; exact hf);omega
   rw[if_pos hnr] at hEE;subst hEE;refine runW (ai hf (ai hg (eq_true hle))) ?_;exact fin rfl
  ·refine runW (ai hf (ai hg (eq_false hle))) ?_;refine round (k+1) ⟨om,hlt,fun j x y hj h1 h2=> ?_⟩ om;by_cases hjk:j+1=k
   ·subst hjk;rw[hf] at h2;cases h2;rw[show j+1-1=j by omega,h1] at hg;cases hg;omega
   ·exact hris j x y om h1 h2
 have hrt:risI p.fls=true:=(jfh p.fls).2 fun j x y h1 h2=>hris j x y (by have:=(gsi.1 h2).1; omega) h1 h2;rw[if_neg (by rw[hrt]; decide)] at hEE;clear hris;refine run ?_;refine ja6 ⟨[8,1,2,5],[5,2],[],[]⟩ i (fun k=>∀q∈r.pps.take k,∀f∈p.fls,jfb p.day f q=false) sm ?_;rintro k ⟨hk,hall⟩;by_cases hlt:k<i
 ·obtain ⟨q,hq,-,hqm⟩:=ja1 (l:=r.pps) (k:=k) om;have hqf:=h.pps.2 q hqm;refine runW (eq_true hlt) ?_;refine ja6 ⟨[9,1,2,5,8],[5,2],[],[]⟩ p.fls.length (fun n=>∀f∈p.fls.take n,jfb p.day f q=false) sm ?_;rintro n ⟨hn,hin⟩;by_cases hnlt:n<p.fls.length
  ·obtain ⟨f,hf,-,hfm⟩:=ja1 hnlt;by_cases g1:p.day<q.wdr
   ·refine rcW (ai hq (ai hf (eq_true g1))) (den_has14 q.fls f hqf) ?_;cases g2:hasI f q.fls
    ·refine run ?_;exact round (n+1) ⟨hnlt,jac (q:=fun f=>jfb p.day f q=false) hin hf (by unfold jfb; rw[g2,Bool.and_false])⟩ om
    ·have hany:p.fls.any (jhn (r.pps.take i) p.day)=true:=List.any_eq_true.2 ⟨f,hfm,List.any_eq_true.2 ⟨q,jkk hq hlt,by unfold jfb; rw[g2,decide_eq_true g1]; rfl⟩⟩;rw[if_pos hany] at hEE;subst hEE;exact za
   ·refine runW (ai hq (ai hf (eq_false g1))) ?_;exact round (n+1) ⟨hnlt,jac (q:=fun f=>jfb p.day f q=false) hin hf (by unfold jfb; rw[decide_eq_false g1,Bool.false_and])⟩ om
  refine run ?_;exact round (k+1) ⟨hlt,jac (q:=fun q=>∀f∈p.fls,jfb p.day f q=false) hall hq fun f hf=>jcw hin hnlt f hf⟩ om
 have hki:k=i:=om
 subst hki
 have hany:p.fls.any (jhn (r.pps.take k) p.day)=false:=List.any_eq_false.2 fun f hf e=>by
  obtain ⟨q,hq,hh⟩:=List.any_eq_true.1 e;rw[hall q hq f hf] at hh;cases hh
 exact zcv
set_option maxHeartbeats 16000000 in
theorem den_approval14 (r:Rgs) (h:r.Fit) (i:Nat) (hi:i<r.aps.length):Den prog T 46 [.agg r.cs,vi i] (vi (jbk r i)):=by
 have hpl:=h.pps.1;have hal:=h.aps;have hcl:=h.cks.1;obtain ⟨a,hx,-,-⟩:=ja1 hi;have hfd:=den_find14 (T:=T) r.pps a.prp hpl;rcases jfr (jb1 a.prp) r.pps with ⟨h1,h2⟩ | ⟨k,p,h1,hk,hpx,-,h2⟩
 ·have hE:jbk r i=7:=by unfold jbk; rw[hx]; simp only[h2]
  rw[show je9 r.pps a.prp= -1 from h1] at hfd;rw[hE];refine ja0 call46 func46 89 ?_;refine rcW hx hfd ?_;exact za
 have hE:jbk r i=apvE r (r.aps.take i) (ja8 r.aps i) a p:=by unfold jbk; rw[hx]; simp only[h2]
 rw[show je9 r.pps a.prp=(k:Int) from h1] at hfd;rw[hE];obtain ⟨E,hEE⟩:∃E,apvE r (r.aps.take i) (ja8 r.aps i) a p=E:=⟨_,rfl⟩;rw[hEE];unfold apvE at hEE;refine ja0 call46 func46 89 ?_;refine rcW hx hfd ?_;refine rcW hpx (jip a.day p.day 1048575) ?_;by_cases c1:p.day<=a.day/\a.day<=1048575
 case neg=>
  rw[if_pos (by by_cases g:a.day<p.day; exact .inl g; exact .inr om)] at hEE;subst hEE;rw[decide_eq_false c1];exact za
 rw[if_neg om] at hEE;rw[decide_eq_true c1];apply jmy (jh4 (ja8 r.aps i) a=false) ⟨89,[(1,.v (vi i)),(2,.p 2 0),(5,.p 5 0),(7,.p 7 0)],[(7,.var p.cs),(5,.var a.cs),(2,.var r.cs)],[]⟩
 ·intro tail;by_cases h0:i=0
  ·have hz:jh4 (ja8 r.aps i) a=false:=by unfold ja8; rw[if_pos h0]; rfl
   subst h0;refine runTo (stopAt 10) trivial ?_;refine tail _ hz ?_;exact jam [7,5,2] [1,2,5,7] rfl rfl rfl (fun _ _ e=>e) rfl
  ·obtain ⟨q,hq,-,-⟩:=ja1 (l:=r.aps) (k:=i-1) om;have hpos:((0:Int)<(i:Int))=True:=eq_true om;have hz:jh4 (ja8 r.aps i) a=decide (a.day<q.day):=by unfold ja8; rw[if_neg h0,hq]; rfl
   by_cases g2:a.day<q.day
   ·rw[if_pos (by rw[hz,decide_eq_true g2])] at hEE;subst hEE;refine runW (ai hpos (ai hq (eq_true g2))) ?_;exact fin rfl
   ·refine runTo (stopAt 10) (ai hpos (ai hq (eq_false g2))) ?_;refine tail _ (by rw[hz,decide_eq_false g2]) ?_;exact jam [7,5,2] [1,2,5,7] rfl rfl rfl (fun _ _ e=>e) rfl
 intro hea;rw[if_neg (by rw[hea]; decide)] at hEE;clear hea;by_cases c3:p.wdr<=a.day
 ·rw[if_pos c3] at hEE;subst hEE;refine runW (eq_true c3) ?_;exact fin rfl
 rw[if_neg c3] at hEE;refine rcW (eq_false c3) (jr7 r.cks a.clk a.day hcl) ?_;rcases clkOn_ix r.cks a.clk a.day with ⟨g1,g2⟩ | ⟨g1,g2⟩
 ·rw[if_pos g1] at hEE;subst hEE;refine runW (eq_true g2) ?_;exact fin rfl
 rw[if_neg (by rw[g1]; decide)] at hEE;by_cases c5:a.clk=p.clk
 ·rw[if_pos c5] at hEE;subst hEE;refine runW (ai (eq_false g2) (eq_true c5)) ?_;exact fin rfl
 rw[if_neg c5] at hEE;refine runW (ai (eq_false g2) (eq_false c5)) ?_;clear g1 g2;refine ja6 ⟨[8,1,2,5],[5,2],[],[]⟩ i (fun n=>∀b∈r.aps.take n,jdv a b=false) sm ?_;rintro n ⟨hn,hall⟩;by_cases hlt:n<i
 ·obtain ⟨b,hb,-,-⟩:=ja1 (l:=r.aps) (k:=n) om;by_cases q1:b.prp=a.prp
  ·by_cases q2:b.clk=a.clk
   ·have hany:(r.aps.take i).any (jdv a)=true:=List.any_eq_true.2 ⟨b,jkk hb hlt,by unfold jdv; rw[decide_eq_true q1,decide_eq_true q2]; rfl⟩;rw[if_pos hany] at hEE;subst hEE;refine runW (ai (eq_true hlt) (ai hb (ai (eq_true q1) (eq_true q2)))) ?_;exact fin rfl
   ·refine runW (ai (eq_true hlt) (ai hb (ai (eq_true q1) (eq_false q2)))) ?_;exact round (n+1) ⟨hlt,jac (q:=fun b=>jdv a b=false) hall hb (by unfold jdv; rw[decide_eq_false q2,Bool.and_false])⟩ om
  ·refine runW (ai (eq_true hlt) (ai hb (eq_false q1))) ?_;exact round (n+1) ⟨hlt,jac (q:=fun b=>jdv a b=false) hall hb (by unfold jdv; rw[decide_eq_false q1,Bool.false_and])⟩ om
 have hni:n=i:=om
 subst hni;have hany:(r.aps.take n).any (jdv a)=false:=List.any_eq_false.2 fun b hb=>by rw[hall b hb]; decide
 exact zcv
theorem jro (r:Rgs) (h:r.Fit) (i:Nat) (hi:i<r.crs.length):Den prog T 47 [.agg r.cs,vi i] (vi (jbe r i)):=by
 have hpl:=h.pps.1;have hcl:=h.crs.1;obtain ⟨c,hx,-,hm⟩:=ja1 hi;have hcf:=(h.crs.2 c hm).1;have hfd:=den_find14 (T:=T) r.pps c.prp hpl;have hrt:=jr1 (T:=T) r.crs i h.crs hi;rcases jfr (jb1 c.prp) r.pps with ⟨h1,h2⟩ | ⟨k,p,h1,hk,hpx,-,h2⟩
 ·have hE:jbe r i=7:=by unfold jbe; rw[hx]; simp only[h2]
  rw[show je9 r.pps c.prp= -1 from h1] at hfd;rw[hE];refine ja0 call47 func47 34 ?_;refine rcW hx hfd ?_;exact za
 have hE:jbe r i=if c.fls≠p.fls then 10 else if jba r.crs i=false then 14 else 0:=by unfold jbe; rw[hx]; simp only[h2]
 rw[show je9 r.pps c.prp=(k:Int) from h1] at hfd;rw[hE];refine ja0 call47 func47 34 ?_;refine rcW hx hfd ?_;refine rcW hpx (den_sameInts c.fls p.fls hcf) ?_;by_cases c1:c.fls=p.fls
 ·rw[if_neg (fun e=>e c1),decide_eq_true c1];refine rc hrt ?_;cases hz:jba r.crs i
  ·rw[if_pos rfl];exact za
  ·rw[if_neg dc];exact za
 ·rw[if_pos c1,decide_eq_false c1];exact za
theorem chk_many2 {lim n:Nat} {f:Nat->Int} (h:lim<n):(chk lim n f).2=8:=by rw[jdg h]
set_option maxHeartbeats 8000000 in
theorem den_Check14R (L:LibC T) (r:Rgs) (h:r.Fit):Den prog T 13 [.agg r.cs] (vi (jc0 r)):=by
 have hpl:=h.pps.1;have hal:=h.aps;have hcl:=h.crs.1;have hG:=den_CheckGRef L r h;have hK:=den_clerks14 (T:=T) r.cks h.cks.1 h.cks.2;have hE:jc0 r=fstE [checkG r,(chk 32 r.cks.length (jbj r.cks)).2,(chk 1024 r.pps.length (jc8 r)).2,(chk 1024 r.aps.length (jbk r)).2,(chk r.crs.length r.crs.length (jbe r)).2]:=rfl;rw[hE];refine ja0 call13 func13 64 ?_;refine rc hG ?_;by_cases e1:checkG r=0
 case neg=>
  simp only[fstE,ne_eq,e1,not_false_eq_true,if_true];refine runW (eq_false e1) ?_;exact fin rfl
 refine rcW e1 hK ?_;by_cases e2:(chk 32 r.cks.length (jbj r.cks)).2=0
 case neg=>
  simp only[fstE,ne_eq,e1,e2,not_false_eq_true,not_true,if_true,if_false];refine runW (eq_false e2) ?_;exact fin rfl
 by_cases e3:1024<r.pps.length
 ·have b3:(chk 1024 r.pps.length (jc8 r)).2=8:=chk_many2 e3;simp only[fstE,ne_eq,e1,e2,b3,not_true,if_false];refine runW (ai e2 (eq_true e3)) ?_;exact fin rfl
 refine runW (ai e2 (eq_false e3)) ?_;refine ja6 ⟨[4,1],[1],[],[]⟩ r.pps.length (fun k=>∀i,i<k->jc8 r i=0) (fun i hi=>absurd hi (Nat.not_lt_zero i)) ?_;rintro k ⟨hk,hall⟩;by_cases hlt:k<r.pps.length
 ·refine rc (den_proposal14 r h k hlt) ?_;by_cases hz:jc8 r k=0
  ·refine runW hz ?_;refine round (k+1) ⟨hlt,fun i hi=> ?_⟩ om;by_cases e:i=k
   ·exact zcf
   ·exact zbo
  ·have hb:(chk 1024 r.pps.length (jc8 r)).2=jc8 r k:=by rw[jdp e3 hlt hall hz]
   simp only[fstE,ne_eq,e1,e2,hb,hz,not_false_eq_true,not_true,if_true,if_false];exact zb5
 have b3:(chk 1024 r.pps.length (jc8 r)).2=0:=by rw[jcz e3 fun i hi=>hall i om]
 clear hall;by_cases e4:1024<r.aps.length
 ·have b4:(chk 1024 r.aps.length (jbk r)).2=8:=chk_many2 e4;simp only[fstE,ne_eq,e1,e2,b3,b4,not_true,if_false];refine runW (eq_true e4) ?_;exact fin rfl
 refine runW (eq_false e4) ?_;refine ja6 ⟨[5,1],[1],[],[]⟩ r.aps.length (fun k=>∀i,i<k->jbk r i=0) (fun i hi=>absurd hi (Nat.not_lt_zero i)) ?_;rintro k ⟨hk,hall⟩;by_cases hlt:k<r.aps.length
 ·refine rc (den_approval14 r h k hlt) ?_;by_cases hz:jbk r k=0
  ·refine runW hz ?_;refine round (k+1) ⟨hlt,fun i hi=> ?_⟩ om;by_cases e:i=k
   ·exact zcf
   ·exact zbo
  ·have hb:(chk 1024 r.aps.length (jbk r)).2=jbk r k:=by rw[jdp e4 hlt hall hz]
   simp only[fstE,ne_eq,e1,e2,b3,hb,hz,not_false_eq_true,not_true,if_true,if_false];exact zb5
 have b4:(chk 1024 r.aps.length (jbk r)).2=0:=by rw[jcz e4 fun i hi=>hall i om]
 clear hall;refine run ?_;refine ja6 ⟨[6,1],[1],[],[]⟩ r.crs.length (fun k=>∀i,i<k->jbe r i=0) (fun i hi=>absurd hi (Nat.not_lt_zero i)) ?_;rintro k ⟨hk,hall⟩;by_cases hlt:k<r.crs.length
 ·refine rc (jro r h k hlt) ?_;by_cases hz:jbe r k=0
  ·refine runW hz ?_;refine round (k+1) ⟨hlt,fun i hi=> ?_⟩ om;by_cases e:i=k
   ·exact zcf
   ·exact zbo
  ·have hb:(chk r.crs.length r.crs.length (jbe r)).2=jbe r k:=by rw[jdp (Nat.lt_irrefl _) hlt hall hz]
   simp only[fstE,ne_eq,e1,e2,b3,b4,hb,hz,not_false_eq_true,not_true,if_true,if_false];exact zb5
 have b5:(chk r.crs.length r.crs.length (jbe r)).2=0:=by rw[jcz (Nat.lt_irrefl _) fun i hi=>hall i om]
 simp only[fstE,ne_eq,e1,e2,b3,b4,b5,not_true,if_false];exact za
set_option maxHeartbeats 8000000 in
theorem jrm (L:LibT T) (r:Rgs) (l:List Crt) (c:Crt) (h:r.Fit) (hl:l.length<=1048576/\∀c∈l,c.fls.length<=1048576/\c.bef.length<=1048576/\c.dig.length<=1048576) (hc:c.fls.length<=1048576/\c.bef.length<=1048576/\c.dig.length<=1048576):Den prog T 3 [.agg r.cs,crts l,.agg c.cs] (vb true):=by
 have LC:=libC L;have hfw:=den_Few14 (T:=T) r h;have hf1:=jn7 (T:=T) l hl;have hf2:=jn7 (T:=T) [c] ⟨by show 1<=1048576; decide,fun x hx=>by rw[List.mem_singleton.1 hx]; exact hc⟩;have hck:=jld L r h;have hcr:=den_Check14R LC r h;have d1:=jnl L c hc.1 hc.2.1;have d2:=jqg (T:=T) c hc.1 hc.2.1;have e1:=den_ChainD L l hl;have e2:=den_Chain14 (T:=T) l hl;obtain ⟨⟨s,e⟩,hs⟩:∃p,digR c=p:=⟨_,rfl⟩;obtain ⟨⟨i,g⟩,hi⟩:∃p,jin l=p:=⟨_,rfl⟩;unfold digV at d1 d2;rw[hs] at d1 d2;rw[hi] at e1 e2;refine ja0 call3 func3 76 ?_;refine rc (den_awake14 L) ?_;refine rc hfw ?_;cases hf:few14 r
 ·exact za
 refine rc hf1 ?_;cases hg:fewCh l
 ·exact za
 refine rc hf2 ?_;cases hh:fewCh [c]
 ·exact za
 refine rc d1 ?_;refine rc d2 ?_;refine rc e1 ?_;refine rc e2 ?_;refine rc hck ?_;refine rc hcr ?_;exact za
end Go.Arc
