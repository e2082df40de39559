/- A part of this claim. -/
import Derived.Test.YtagljlfkpofdnaaGreatDoorBaQ
set_option maxRecDepth 100000
namespace Go.Arc
open Go.Ab Go.RowKit Go.Proofs
variable {T : Lay}
theorem layF_congr {g p:Nat->Nat} {v w:Nat->Int} {n:Nat} (h:∀j,j<n->v (g j)=w (g j)) (b:List Int):∀k:Nat,k<=n->layF g p v k b=layF g p w k b
 | 0,_=>rfl
 | k+1,hk=>by rw[layF_succ,layF_succ,layF_congr h b k (by omega),h k (by omega)]
def inK (a:List Int) (k:Nat):List Int:=layF id id (wordF a) k a
theorem inK_succ (a:List Int) (k:Nat):inK a (k+1)=(inK a k).set k (wordF a k):=layF_succ _ _ _ _ _
theorem inK_len (a:List Int) (k:Nat):(inK a k).length=a.length:=layF_len _ _ _ _ _
theorem inK_at {a:List Int} {k:Nat} (h:k<a.length):atU (inK a k) k=atU a k:=by
 unfold atU;rw[List.getD_eq_getElem?_getD,List.getD_eq_getElem?_getD];have:=(layF_get id (wordF a) a h k).2 (fun j hj=>by show j≠k; omega);unfold inK;rw[this]
theorem inK_all {a:List Int} (ha:a.length=25) {i:Nat} (h:i<25):atU (inK a 25) i=wordF a i:=by
 unfold atU;rw[List.getD_eq_getElem?_getD];have:=(layF_get id (wordF a) a (i:=i) (by omega) 25).1 ⟨i,h,rfl⟩;unfold inK;rw[this];rfl
def bT (W:List Int) (k:Nat):List Int:=layF tr5 posF (fun i=>rotU (atU W i) (atU rotL i)) k zero25
theorem bT_succ (W:List Int) (k:Nat):bT W (k+1)=(bT W k).set (posF (tr5 k)) (rotU (atU W (tr5 k)) (atU rotL (tr5 k))):=layF_succ _ _ _ _ _
theorem bT_len (W:List Int) (k:Nat):(bT W k).length=25:=layF_len _ _ _ _ _
theorem tr5_lt {j:Nat} (h:j<25):tr5 j<25:=by unfold tr5; omega
theorem tr5_xy {x y:Nat} (hy:y<5):tr5 (5*x+y)=x+5*y:=by unfold tr5; omega
theorem bT_all {a:List Int} (ha:a.length=25):bT (inK a 25) 25=bF a:=by
 have h1:bT (inK a 25) 25=layF tr5 posF (fun i=>rotU (wordF a i) (atU rotL i)) 25 zero25:=layF_congr (fun j hj=>by simp only[inK_all ha (tr5_lt hj)]) _ 25 (Nat.le_refl _);rw[h1];exact bF_tr _
def oT (B w:List Int) (k:Nat):List Int:=layF tr5 id (chiF B) k w
theorem oT_succ (B w:List Int) (k:Nat):oT B w (k+1)=(oT B w k).set (tr5 k) (chiF B (tr5 k)):=layF_succ _ _ _ _ _
theorem oT_len (B w:List Int) (k:Nat):(oT B w k).length=w.length:=layF_len _ _ _ _ _
theorem oT_all (B:List Int) {w:List Int} (hw:w.length=25):oT B w 25=outF B:=outF_tr _ w hw
set_option maxHeartbeats 16000000 in
theorem den_roundR (a:List Int) (c:Int) (ha:a.length=25):Den Tryz.prog T 215 [.agg (wds a),vu c,.agg (nus rotL)] (.agg (wds (roundF a c))):=by
 have ta:=tk25 ha;refine den_of_body follows (fun args w=>Tryz.call215 args w) Tryz.func215 rfl 129 rfl ?_;refine runW ta ?_
 refine loop ⟨[1,3,5,6,7,8],[3,5,6,7],[],[]⟩ (fun k:Nat=>k<=25) (fun k=>25-k)
  (fun k=>⟨129,[(1,.v (vu c)),(3,.p 3 0),(5,.p 5 0),(6,.p 6 0),(7,.p 7 0),(8,.v (vi k))],[(3,.var (wds a)),(5,.var (nus rotL)),(6,.var (wds zero25)),(7,.var (wds (sumsF a k)))],[]⟩) 0 (Nat.zero_le _) ?_
 intro k hk;by_cases hlt:k<25
 ·have hs:=sumsF_len a k;have m5:((k:Nat):Int).tmod 5=((k % 5:Nat):Int):=tmod_nat k 5;have d1:=wds_drop (l:=a) (k:=k) (by omega);have d2:=wds_drop (l:=sumsF a k) (k:=k % 5) (by omega)
  have s1:(wds (sumsF a k)).take (k % 5)++[vu (bitF .xor .u64 (atU (sumsF a k) (k % 5)) (atU a k))]++(wds (sumsF a k)).drop (k % 5+1)=wds (sumsF a (k+1)):=by
   rw[sumsF_succ];exact wds_set (by omega) _
  refine runW (And.intro m5 (And.intro d1 (And.intro d2 s1))) ?_;exact round (k+1) (by omega) (by omega)
 have hk:k=25:=by omega
 subst hk;have hw:∀i,wordF a i=xorU (xorU (atU a i) (atU (sumsF a 25) ((i+4) % 5))) (rotU (atU (sumsF a 25) ((i+1) % 5)) 1):=fun i=>rfl;have hSl:=sumsF_len a 25;obtain ⟨S,hS⟩:∃S,sumsF a 25=S:=⟨_,rfl⟩;simp only[hS] at hw hSl ⊢;refine run ?_
 refine loop ⟨[1,3,5,6,7,9],[3,5,6,7],[],[]⟩ (fun k:Nat=>k<=25) (fun k=>25-k)
  (fun k=>⟨129,[(1,.v (vu c)),(3,.p 3 0),(5,.p 5 0),(6,.p 6 0),(7,.p 7 0),(9,.v (vi k))],[(3,.var (wds (inK a k))),(5,.var (nus rotL)),(6,.var (wds zero25)),(7,.var (wds S))],[]⟩) 0 (Nat.zero_le _) ?_
 intro k hk;by_cases hlt:k<25
 ·have hil:(inK a k).length=25:=(inK_len a k).trans ha;have f2:((k:Int)+4).tmod 5=(((k+4) % 5:Nat):Int):=tmod_nat (k+4) 5;have f3:((k:Int)+1).tmod 5=(((k+1) % 5:Nat):Int):=tmod_nat (k+1) 5;have d1:=wds_drop (l:=inK a k) (k:=k) (by omega);rw[inK_at (by omega)] at d1;have d2:=wds_drop (l:=S) (k:=(k+4) % 5) (by omega);have d3:=wds_drop (l:=S) (k:=(k+1) % 5) (by omega)
  have s1:(wds (inK a k)).take k++[vu (bitF .xor .u64 (bitF .xor .u64 (atU a k) (atU S ((k+4) % 5))) (rotU (atU S ((k+1) % 5)) 1))]++(wds (inK a k)).drop (k+1)=wds (inK a (k+1)):=by
   rw[inK_succ,hw];exact wds_set (by omega) _
  refine runW (And.intro f2 (And.intro f3 (And.intro d1 (And.intro d2 d3)))) ?_;refine call (den_rotate (atU S ((k+1) % 5)) 1 (by decide) (by decide)) ?_;refine runW s1 ?_;exact round (k+1) (by omega) (by omega)
 have hk:k=25:=by omega
 subst hk;have hWl:(inK a 25).length=25:=(inK_len a 25).trans ha;have hBW:=bT_all ha;have hBl:=bF_len a;have hRe:roundF a c=(outF (bF a)).set 0 (bitF .xor .u64 (atU (outF (bF a)) 0) c):=rfl;have hRl:=roundF_len a c;obtain ⟨W,hW⟩:∃W,inK a 25=W:=⟨_,rfl⟩;obtain ⟨B,hB⟩:∃B,bF a=B:=⟨_,rfl⟩;simp only[hW,hB] at hWl hBW hBl hRe ⊢;refine run ?_
 refine loop ⟨[1,3,5,6,10,11],[3,5,6,10],[],[]⟩ (fun x:Nat=>x<=5) (fun x=>5-x)
  (fun x=>⟨129,[(1,.v (vu c)),(3,.p 3 0),(5,.p 5 0),(6,.p 6 0),(10,.p 10 0),(11,.v (vi x))],[(3,.var (wds W)),(5,.var (nus rotL)),(6,.var (wds zero25)),(10,.var (wds (bT W (5*x))))],[]⟩) 0 (Nat.zero_le _) ?_
 intro x hx;by_cases hxlt:x<5
 ·refine run ?_
  refine loop ⟨[1,3,5,6,10,11,12],[3,5,6,10],[],[]⟩ (fun y:Nat=>y<=5) (fun y=>5-y)
   (fun y=>⟨129,[(1,.v (vu c)),(3,.p 3 0),(5,.p 5 0),(6,.p 6 0),(10,.p 10 0),(11,.v (vi x)),(12,.v (vi y))],[(3,.var (wds W)),(5,.var (nus rotL)),(6,.var (wds zero25)),(10,.var (wds (bT W (5*x+y))))],[]⟩) 0 (Nat.zero_le _) ?_
  intro y hy;by_cases hylt:y<5
  ·have hBk:=bT_len W (5*x+y);have hj:=posF_lt (x+5*y) (by omega);have f1:(x:Int)+5*(y:Int)=((x+5*y:Nat):Int):=by omega
   have f4:(2*(x:Int)+3*(y:Int)).tmod 5=(((2*x+3*y) % 5:Nat):Int):=tmod_nat (2*x+3*y) 5
   have f5:(y:Int)+5*(((2*x+3*y) % 5:Nat):Int)=((posF (x+5*y):Nat):Int):=by
    have h1:(x+5*y) / 5=y:=by omega
    have h2:(x+5*y) % 5=x:=by omega
    unfold posF;rw[h1,h2];omega
   have d1:=wds_drop (l:=W) (k:=x+5*y) (by omega);have d4:=nus_drop (l:=rotL) (k:=x+5*y) (by show _<25; omega);have hr:=rot_in (x+5*y) (by omega)
   have s1:(wds (bT W (5*x+y))).take (posF (x+5*y))++[vu (rotU (atU W (x+5*y)) (atU rotL (x+5*y)))]++(wds (bT W (5*x+y))).drop (posF (x+5*y)+1)=wds (bT W (5*x+y+1)):=by
    rw[bT_succ,tr5_xy hylt];exact wds_set (by omega) _
   refine runW (And.intro f1 (And.intro f4 (And.intro f5 (And.intro d1 d4)))) ?_;refine call (den_rotate _ _ hr.1 hr.2) ?_;refine runW s1 ?_;exact round (y+1) (by omega) (by omega)
  ·have hy5:y=5:=by omega
   subst hy5;refine run ?_;exact round (x+1) (by omega) (by omega)
 have hx5:x=5:=by omega
 subst hx5;have hBe:bT W (5*5)=B:=hBW;simp only[hBe];refine run ?_
 refine loop ⟨[1,3,6,10,13],[3,6,10],[],[]⟩ (fun x:Nat=>x<=5) (fun x=>5-x)
  (fun x=>⟨129,[(1,.v (vu c)),(3,.p 3 0),(6,.p 6 0),(10,.p 10 0),(13,.v (vi x))],[(3,.var (wds (oT B W (5*x)))),(6,.var (wds zero25)),(10,.var (wds B))],[]⟩) 0 (Nat.zero_le _) ?_
 intro x hx;by_cases hxlt:x<5
 ·refine run ?_
  refine loop ⟨[1,3,6,10,13,14],[3,6,10],[],[]⟩ (fun y:Nat=>y<=5) (fun y=>5-y)
   (fun y=>⟨129,[(1,.v (vu c)),(3,.p 3 0),(6,.p 6 0),(10,.p 10 0),(13,.v (vi x)),(14,.v (vi y))],[(3,.var (wds (oT B W (5*x+y)))),(6,.var (wds zero25)),(10,.var (wds B))],[]⟩) 0 (Nat.zero_le _) ?_
  intro y hy;by_cases hylt:y<5
  ·have hO:(oT B W (5*x+y)).length=25:=(oT_len B W (5*x+y)).trans hWl;have f1:(x:Int)+5*(y:Int)=((x+5*y:Nat):Int):=by omega
   have f2:((x:Int)+1).tmod 5=(((x+1) % 5:Nat):Int):=tmod_nat (x+1) 5;have f3:((x:Int)+2).tmod 5=(((x+2) % 5:Nat):Int):=tmod_nat (x+2) 5;have f4:(((x+1) % 5:Nat):Int)+5*(y:Int)=(((x+1) % 5+5*y:Nat):Int):=by omega
   have f5:(((x+2) % 5:Nat):Int)+5*(y:Int)=(((x+2) % 5+5*y:Nat):Int):=by omega
   have d1:=wds_drop (l:=B) (k:=x+5*y) (by omega);have d2:=wds_drop (l:=B) (k:=(x+1) % 5+5*y) (by omega);have d3:=wds_drop (l:=B) (k:=(x+2) % 5+5*y) (by omega)
   have s1:(wds (oT B W (5*x+y))).take (x+5*y)++[vu (bitF .xor .u64 (atU B (x+5*y)) (bitF .and .u64 (notF .u64 (atU B ((x+1) % 5+5*y))) (atU B ((x+2) % 5+5*y))))]++(wds (oT B W (5*x+y))).drop (x+5*y+1)=wds (oT B W (5*x+y+1)):=by
    have h1:(x+5*y) / 5=y:=by omega
    have h2:(x+5*y) % 5=x:=by omega
    rw[oT_succ,tr5_xy hylt];unfold chiF;rw[h1,h2];exact wds_set (by omega) _
   refine runW (And.intro f1 (And.intro f2 (And.intro f3 (And.intro f4 (And.intro f5 (And.intro d1 (And.intro d2 (And.intro d3 s1)))))))) ?_;exact round (y+1) (by omega) (by omega)
  ·have hy5:y=5:=by omega
   subst hy5;refine run ?_;exact round (x+1) (by omega) (by omega)
 have hx5:x=5:=by omega
 subst hx5;have hOe:oT B W (5*5)=outF B:=oT_all B hWl;have hOl:=outF_len B;obtain ⟨O,hO⟩:∃O,outF B=O:=⟨_,rfl⟩;simp only[hOe,hO] at hOl hRe ⊢;have e0:=ld_word (l:=O) (by omega);have e1:=wds_set0 (l:=O) (by omega) (bitF .xor .u64 (atU O 0) c);rw[<- hRe] at e1;obtain ⟨R,hR⟩:∃R,roundF a c=R:=⟨_,rfl⟩;simp only[hR] at hRl e1 ⊢;refine runW (And.intro e0 (And.intro e1 (And.intro (tk25 hRl) (And.intro hRl zdrop)))) ?_;refine finCW (P:=Tryz.prog) (x:=6) (t:=159) (j:=6) (cs:=wds R) (nm:=none) (kk:=none) ?_ ?_ ?_
 ·rfl
 ·rfl
 ·rw[List.length_map]; exact hRl
set_option maxHeartbeats 4000000 in
theorem den_PermuteR (a:List Int) (ha:a.length=25):Den Tryz.prog T 143 [.agg (wds a)] (.agg (wds (permF a))):=by
 have tr:takeN 25 (nus rotL)=some (nus rotL):=rfl;have hrl:rotL.length=25:=rfl;have hcl:conL.length=24:=rfl;refine den_of_body follows (fun args w=>Tryz.call143 args w) Tryz.func143 rfl 19 rfl ?_;refine run ?_;refine call den_constantsR ?_;refine run ?_;refine call den_rotationsR ?_;refine runW (And.intro hrl hcl) ?_
 refine loop ⟨[1,2,3,4,5],[1,2,3,4],[],[]⟩ (fun k:Nat=>k<=24) (fun k=>24-k)
  (fun k=>⟨19,[(1,.p 1 0),(2,.p 2 0),(3,.p 3 0),(4,.p 4 0),(5,.v (vi k))],[(1,.var (wds (pK a k))),(2,.var (wds zero25)),(3,.var (wds conL)),(4,.var (nus rotL))],[]⟩) 0 (Nat.zero_le _) ?_
 intro k hk;have hl:=pK_len ha k;by_cases hlt:k<24
 ·have hl2:=pK_len ha (k+1);have hc:=wds_drop (l:=conL) (k:=k) hlt;have hR:=den_roundR (T:=T) (pK a k) (atU conL k) hl;rw[<- pK_succ a hlt] at hR;refine runW (And.intro hc (And.intro (tk25 hl) tr)) ?_;refine call hR ?_;refine runW (And.intro hl2 (wds_drop25 hl)) ?_;exact round (k+1) hlt (by omega)
 ·have hk:k=24:=by omega
  subst hk;simp only[pK_all] at hl ⊢;refine runW (And.intro (tk25 hl) (And.intro hl zdrop)) ?_;refine finCW (P:=Tryz.prog) (x:=2) (t:=159) (j:=2) (cs:=wds (permF a)) (nm:=none) (kk:=none) ?_ ?_ ?_
  ·rfl
  ·rfl
  ·rw[List.length_map]; exact hl
end Go.Arc
set_option maxRecDepth 100000
namespace Go.Arc
open Go.Ab Go.RowKit Go.Proofs
variable {T : Lay}
def fz (d:Str) (j:Nat):Str:=d++6::List.replicate j 0
theorem fz_len (d:Str) (j:Nat):(fz d j).length=d.length+1+j:=by unfold fz; rw[List.length_append,List.length_cons,List.length_replicate]; omega
theorem fz_succ (d:Str) (j:Nat):fz d (j+1)=fz d j++[0]:=by
 unfold fz;rw[List.append_assoc,List.cons_append,List.replicate_succ']
theorem bcs_app (a b:Str):byteCs a++byteCs b=byteCs (a++b):=by unfold byteCs; rw[List.map_append]
theorem mark_bcs {l:Str} {x:UInt8} (h:1<=l.length) (hx:l[l.length-1]? = some x):(byteCs l).take (l.length-1)++[vb8 (bitF .or .u8 (x.toNat:Int) 128)]++(byteCs l).drop (l.length-1+1)=byteCs (markL l):=by
 rw[<- orB_val]
 have h1:markL l=l.set (l.length-1) (orB x):=by
  unfold markL;simp only[List.getD_eq_getElem?_getD,hx];rfl
 rw[h1];exact bcs_set (by omega) _
theorem mark_len (l:Str):(markL l).length=l.length:=by unfold markL; rw[List.length_set]
theorem full_len (d:Str):(fullF d).length=136*(d.length / 136+1):=by
 have h:fullF d=markL (fz d (fillN d.length)):=rfl;rw[h,mark_len,fz_len];unfold fillN;omega
theorem bys_frz {t id r n cap:Nat} {l:Str} {st:St} (h1:Ab.look t st.t=some (.v (.val (.slice (some ⟨r,0,none⟩) n cap)))) (hf:findN r st.h=some id) (h2:Ab.look id st.h=some (.var (byteCs l) (some r) (some (5,1,cap)))) (hn:n=l.length) (h3:n<=cap):
  frzt1 t st= { st with t:=(t,.v (bys l))::st.t,h:=frz1 id (seth id (.var (byteCs l)) st.h),o:=remo t st.o } := by
 subst hn;rw[frzt1_r h1 hf h2 h3 (by rw[byteCs_len]; omega)];unfold byteCs;rw[chunk_one]
def sumQ (d:Str) (j r cap:Nat):St:=if j=0 then ⟨83,[(3,.v (.val (.slice (some ⟨r,0,none⟩) (fz d j).length cap)))],[(12,.var (byteCs (fz d j)) (some r) (some (5,1,cap)))],[]⟩ else
 ⟨83,[(3,.v (.val (.slice (some ⟨r,0,none⟩) (fz d j).length cap)))],[(19,.var (byteCs (fz d j)) (some r) (some (5,1,cap)))],[]⟩
def sumP (j:Nat):Kp:=if j=0 then ⟨[3],[12],[],[]⟩ else ⟨[3],[19],[],[]⟩
theorem sumQ_0 (d:Str) (r cap:Nat):sumQ d 0 r cap=⟨83,[(3,.v (.val (.slice (some ⟨r,0,none⟩) (fz d 0).length cap)))],[(12,.var (byteCs (fz d 0)) (some r) (some (5,1,cap)))],[]⟩:=rfl
theorem sumQ_s (d:Str) {j:Nat} (h:j≠0) (r cap:Nat):sumQ d j r cap=⟨83,[(3,.v (.val (.slice (some ⟨r,0,none⟩) (fz d j).length cap)))],[(19,.var (byteCs (fz d j)) (some r) (some (5,1,cap)))],[]⟩:=if_neg h
theorem sumP_s {j:Nat} (h:j≠0):sumP j=⟨[3],[19],[],[]⟩:=if_neg h
set_option maxHeartbeats 16000000 in
theorem den_SumR (d:Str) (hd:d.length<=1048576):Den Tryz.prog T 85 [.str d] (.str (sumD d)):=by
 have e1:byteCs d++[[V.val (.int .u8 6)]].flatten=byteCs (fz d 0):=bcs_app d [6];have e2:d.length+[[V.val (.int .u8 6)]].length=(fz d 0).length:=by rw[fz_len]; rfl
 have s1:∀j,byteCs (fz d j)++[[V.val (.int .u8 0)]].flatten=byteCs (fz d (j+1)):=fun j=>by rw[fz_succ]; exact bcs_app (fz d j) [0]
 have s2:∀j,(fz d j).length+[[V.val (.int .u8 0)]].length=(fz d (j+1)).length:=fun j=>by rw[fz_len,fz_len]; rfl
 have hbd:(byteCs d).length=d.length:=byteCs_len d;have hP:fullF d=markL (fz d (fillN d.length)):=rfl;have hPl:=full_len d;have hsum:=sumD_full d;obtain ⟨N,hN⟩:∃N,fillN d.length=N:=⟨_,rfl⟩;have hNd:N=135-d.length % 136:=hN.symm;rw[hN] at hP;have hm1:(fz d N).length % 136=0:=by rw[fz_len]; omega
 have hm2:∀j,j<N->(fz d j).length % 136≠0:=fun j hj=>by rw[fz_len]; omega
 have hfl:∀j,(fz d j).length=d.length+1+j:=fz_len d;refine den_of_body follows (fun args w=>Tryz.call85 args w) Tryz.func85 rfl 83 rfl ?_;refine run ?_;unfold bytK;intro r cap hnm h1 h2;refine runB hbd ?_;refine appO_r ?_;unfold appR;refine runB hbd ?_;refine ⟨.inr trivial,?_⟩;intro r' cap' hnm' g1 g2;rw[e1,e2];rw[e2] at g1;refine runB trivial ?_;refine loopV (fun y:Nat×Nat×Nat=>sumP y.1) (fun y=>y.1<=N/\(fz d y.1).length<=y.2.2/\y.2.2<=maxLen) (fun y=>N-y.1) (fun y=>sumQ d y.1 y.2.1 y.2.2) (0,r',cap') ⟨Nat.zero_le _,g1,g2⟩ rfl ?_;rintro ⟨j,q,c⟩ ⟨hj,hc1,hc2⟩;simp only at hj hc1 hc2;have hjl:=hfl j;have hbl:(byteCs (fz d j)).length=(fz d j).length:=byteCs_len _;have m1:(((fz d j).length:Nat):Int).tmod 136=(((fz d j).length % 136:Nat):Int):=tmod_nat _ 136;have t1:=s1 j;have t2:=s2 j;by_cases hlt:j<N
 ·have hne:¬(((fz d j).length % 136:Nat):Int)=0:=by have:=hm2 j hlt; omega
  have hnx:(fz d (j+1)).length=d.length+1+(j+1):=hfl (j+1);by_cases h0:j=0
  ·subst h0;simp only[sumQ_0];refine runB (And.intro m1 (eq_false hne)) ?_;refine appO_r ?_;unfold appR;refine runB hbl ?_;refine ⟨.inr trivial,?_⟩;intro q' c' hnm2 g3 g4;rw[t1,t2];rw[t2] at g3;refine runB trivial ?_;refine roundV (0+1,q',c') ⟨hlt,g3,g4⟩ (by simp only; omega) ?_;simp only[sumQ_s d (Nat.succ_ne_zero 0),sumP_s (Nat.succ_ne_zero 0)];rfl
  ·simp only[sumQ_s d h0];refine runB (And.intro m1 (eq_false hne)) ?_;refine appO_r ?_;unfold appR;refine runB hbl ?_;refine ⟨.inl trivial,?_⟩;intro q' c' hnm2 g3 g4;rw[t1,t2];rw[t2] at g3;refine runB trivial ?_;refine roundV (j+1,q',c') ⟨hlt,g3,g4⟩ (by simp only; omega) ?_;simp only[sumQ_s d (Nat.succ_ne_zero j),sumP_s (Nat.succ_ne_zero j)];rfl
 have hjN:j=N:=by omega
 subst hjN;have hl1:1<=(fz d j).length:=by omega
 obtain ⟨x,hx,-,-⟩:=drop_at (l:=fz d j) (k:=(fz d j).length-1) (by omega);have hdr:=bcs_drop hx;have hst:=mark_bcs hl1 hx;have hml:(fz d j).length=(markL (fz d j)).length:=(mark_len _).symm;rw[<- hP] at hst hml;have hz:(((fz d j).length % 136:Nat):Int)=0:=by rw[hm1]; rfl
 clear t1 t2 s1 s2 hP hfl hm2 hm1 hx;obtain ⟨l,hl⟩:∃l,fz d j=l:=⟨_,rfl⟩;obtain ⟨P,hPP⟩:∃P,fullF d=P:=⟨_,rfl⟩;rw[hPP] at hst hml hPl hsum;apply aw_meets ⟨[3],[],[],[]⟩ (fun _:Unit=>True) (fun _=>⟨83,[(3,.v (bys P))],[],[]⟩)
 ·intro tail;by_cases h0:j=0
  ·have hQ:sumQ d j q c=⟨83,[(3,.v (.val (.slice (some ⟨q,0,none⟩) l.length c)))],[(12,.var (byteCs l) (some q) (some (5,1,c)))],[]⟩:=by subst h0; rw[<- hl]; rfl
   rw[hl] at hst hml hdr hz m1 hl1 hbl hc1 hjl;simp only[hQ];refine runTo (stopAt 5) (And.intro m1 (And.intro hz (And.intro hdr (And.intro hst hbl)))) ?_;refine aw_frzt 3 ?_;rw[bys_frz (id:=12) (r:=q) (n:=l.length) (cap:=c) (l:=P) rfl (by simp[findN,findK,Blk.nm,nmOf,look_cons']) rfl hml hc1];refine tail _ () trivial ?_;rfl
  ·have hQ:sumQ d j q c=⟨83,[(3,.v (.val (.slice (some ⟨q,0,none⟩) l.length c)))],[(19,.var (byteCs l) (some q) (some (5,1,c)))],[]⟩:=by rw[sumQ_s d h0,hl]
   rw[hl] at hst hml hdr hz m1 hl1 hbl hc1 hjl;simp only[hQ];refine runTo (stopAt 5) (And.intro m1 (And.intro hz (And.intro hdr (And.intro hst hbl)))) ?_;refine aw_frzt 3 ?_;rw[bys_frz (id:=19) (r:=q) (n:=l.length) (cap:=c) (l:=P) rfl (by simp[findN,findK,Blk.nm,nmOf,look_cons']) rfl hml hc1];refine tail _ () trivial ?_;rfl
 intro _ _;clear hst hml hdr hz m1 hl1 hbl hc1 hc2 hjl hl hlt hj;obtain ⟨n,hn⟩:∃n,d.length / 136+1=n:=⟨_,rfl⟩;rw[hn] at hPl hsum;have hPb:P.length<=1048800:=by omega
 refine run ?_
 refine loop ⟨[3,4,5],[4],[],[]⟩ (fun y:Nat×List Int=>y.1<=n/\y.2.length=25/\blksF (n-y.1) y.2 (P.drop (136*y.1))=blksF n zero25 P) (fun y=>n-y.1)
  (fun y=>⟨83,[(3,.v (bys P)),(4,.p 4 0),(5,.v (vi ((136*y.1:Nat):Int)))],[(4,.var (wds y.2))],[]⟩) (0,zero25) ⟨Nat.zero_le _,rfl,rfl⟩ ?_
 rintro ⟨k,s⟩ ⟨hk,hs,hb⟩;simp only at hk hs hb;have hPm:(P.map Cby).length=P.length:=List.length_map _;by_cases hlt:k<n
 ·have hlt2:(((136*k:Nat):Int)<(P.length:Int))=True:=eq_true (by omega);obtain ⟨Q,hQ⟩:∃Q,(P.drop (136*k)).take 136=Q:=⟨_,rfl⟩;have hQl:Q.length=136:=by rw[<- hQ,List.length_take,List.length_drop]; omega
  have hQg:∀i,i<136->Q[i]? = P[136*k+i]? := fun i hi=>by rw[<- hQ,List.getElem?_take_of_lt hi,List.getElem?_drop]
  have hnk:n-k=(n-(k+1))+1:=by omega
  rw[hnk,blksF,hQ,List.drop_drop,show 136*k+136=136*(k+1) by omega] at hb;have hBl:=blockF_len s Q hs;have hfin:permF (eatF s Q 136)=blockF s Q:=by rw[blockF]
  refine runW (And.intro hPm hlt2) ?_
  refine loop ⟨[3,4,5,6],[4],[],[]⟩ (fun i:Nat=>i<=136) (fun i=>136-i)
   (fun i=>⟨83,[(3,.v (bys P)),(4,.p 4 0),(5,.v (vi ((136*k:Nat):Int))),(6,.v (vi i))],[(4,.var (wds (eatF s Q i)))],[]⟩) 0 (Nat.zero_le _) ?_
  intro i hi;have hl:(eatF s Q i).length=25:=(eatF_len s Q i).trans hs;by_cases hilt:i<136
  ·obtain ⟨b,hb1,-,-⟩:=drop_at (l:=Q) (k:=i) (by omega);have hg:Q.getD i 0=b:=by rw[List.getD_eq_getElem?_getD,hb1]; rfl
   have hx:P[136*k+i]? = some b:=by rw[<- hQg i hilt,hb1]
   have q0:((136*k:Nat):Int)+(i:Int)=((136*k+i:Nat):Int):=by omega
   have q1:((i:Nat):Int).tdiv 8=((i / 8:Nat):Int):=tdiv_nat i 8;have q2:((i:Nat):Int).tmod 8=((i % 8:Nat):Int):=tmod_nat i 8;have d1:=wds_drop (l:=eatF s Q i) (k:=i / 8) (by omega)
   have s1:(wds (eatF s Q i)).take (i / 8)++[vu (bitF .xor .u64 (atU (eatF s Q i) (i / 8)) (shF true .u64 (b.toNat:Int) (8*((i % 8:Nat):Int))))]++(wds (eatF s Q i)).drop (i / 8+1)=wds (eatF s Q (i+1)):=by
    rw[eatF_succ,hg];exact wds_set (by omega) _
   refine runW (And.intro q0 (And.intro hx (And.intro q1 (And.intro q2 (And.intro d1 (And.intro s1 (byte64 b))))))) ?_;exact round (i+1) hilt (by omega)
  ·have hi:i=136:=by omega
   subst hi;have hPr:=den_PermuteR (T:=T) (eatF s Q 136) hl;rw[hfin] at hPr;have q0:((136*k:Nat):Int)+136=((136*(k+1):Nat):Int):=by omega
   refine runW (tk25 hl) ?_;refine call hPr ?_;refine runW (And.intro hBl (And.intro (wds_drop25 hl) q0)) ?_;exact round (k+1,blockF s Q) ⟨hlt,hBl,hb⟩ (by simp only; omega)
 have hkn:k=n:=by omega
 subst hkn;have hlt2:(((136*k:Nat):Int)<(P.length:Int))=False:=eq_false (by omega);rw[Nat.sub_self,blksF] at hb;rw[<- hb] at hsum;rw[hsum];refine runW (And.intro hPm hlt2) ?_
 refine loop ⟨[4,7,8],[4],[7],[]⟩ (fun i:Nat=>i<=32) (fun i=>32-i)
  (fun i=>⟨83,[(4,.p 4 0),(7,.v (bys (digF s i))),(8,.v (vi i))],[(4,.var (wds s))],[(5,[7])]⟩) 0 (Nat.zero_le _) ?_
 intro i hi;by_cases hilt:i<32
 ·have q1:((i:Nat):Int).tdiv 8=((i / 8:Nat):Int):=tdiv_nat i 8;have q2:((i:Nat):Int).tmod 8=((i % 8:Nat):Int):=tmod_nat i 8;have d1:=wds_drop (l:=s) (k:=i / 8) (by omega)
  have hap:(digF s i).map Cby++[[vb8 (IntKind.u8.wrap (shF false .u64 (atU s (i / 8)) (8*((i % 8:Nat):Int))))]]=(digF s (i+1)).map Cby:=by
   rw[digF_succ,List.map_append,List.map_singleton];simp only[Cby,vb8,byte_back]
  have hdl:(digF s i).length=i:=by unfold digF; rw[List.length_map,List.length_range]
  refine runW (And.intro q1 (And.intro q2 (And.intro d1 hap))) ?_;exact round (i+1) hilt (by omega)
 ·have hi:i=32:=by omega
  subst hi;have hby:=byL_cs (digF s 32);rw[<- bys_flat] at hby;refine runW hby ?_;exact fin rfl
end Go.Arc
