/- A part of this claim. -/
import Derived.Test.YtagljlfkpofdnaaGreatDoorBaG
set_option maxRecDepth 100000
namespace Go.Arc
open Go.Ab Go.RowKit Go.Proofs
variable {T : Lay}
theorem srtI_sort (l:List Int):srtI (sortI l)=true:=by
 rw[srtI_iff];intro i x y hx hy;obtain ⟨h1,rfl⟩:=List.getElem?_eq_some_iff.1 hx;obtain ⟨h2,rfl⟩:=List.getElem?_eq_some_iff.1 hy;have hp:(sortI l).Pairwise fun a b=>decide (a<=b)=true:=List.pairwise_mergeSort (fun a b c h1 h2=>by simp only[decide_eq_true_eq] at *; omega) (fun a b=>by simp only[Bool.or_eq_true,decide_eq_true_eq]; omega) l;have:=List.pairwise_iff_getElem.1 hp i (i+1) h1 h2 (by omega);exact of_decide_eq_true this
theorem few_fls {r:Rgs} (h:fewG r=true) (hk:OkG r):r.fls.length<=10:=by
 have hz:=hk.fls;unfold checkF at hz;split at hz
 ·cases hz
 have h1:=(chk_zero hz).1;unfold fewG fewG0 at h;simp only[Bool.and_eq_true] at h;have h2:=h.1.1.1.1.1.1.1.2;unfold fewF at h2;simp only[Bool.and_eq_true,Bool.not_eq_true',Bool.or_eq_false_iff,Bool.and_eq_false_iff,decide_eq_false_iff_not] at h2;omega
end Go.Arc
set_option maxRecDepth 100000
namespace Go.Arc
open Go.Ab Go.RowKit Go.Proofs
variable {T : Lay}
theorem den_strC (L:LibC T) (r:Rgs) (h:r.Fit) (d:Int) (a i:Nat) (p:Plan) (c:Cls) (ha:r.pls[a]? = some p) (hi:p.cls[i]? = some c) (f:Fil) (hf:f.Fit):
  Den Tryz.prog T 64 [.agg f.cs,.row r.cs,.row [vi d],.row [vi a],.row [vi i]] (vb (!((classR r.pls f d).1 == c.code))):=by
 refine den_of_body follows (fun args w=>Tryz.call64 args w) Tryz.func64 rfl 29 rfl ?_;refine run ?_;refine call (den_Class L r.pls f d h.pls hf) ?_;refine runW (And.intro ha hi) ?_;exact fin rfl
theorem codA_ok {r:Rgs} {d:Int} {a:Nat} (h:atL r.pls d=a) (hg:goodL r.pls=true):∃p,r.pls[a]? = some p/\codA r d=p.cls.map (·.code):=by
 have hi:idx r.pls d=a:=by rw[<- h]; unfold atL; rw[if_pos hg]
 rcases ix_fnd (fun p:Plan=>inS p.frm p.til d) r.pls with ⟨h1,-⟩ | ⟨k,q,h1,hk,hx,-,-⟩
 ·exfalso;have:idx r.pls d= -1:=h1;omega
 ·have:idx r.pls d=(k:Int):=h1;have hka:k=a:=by omega
  subst hka;refine ⟨q,hx,?_⟩;unfold codA;rw[h,if_neg (by omega),Int.toNat_natCast];unfold pl;rw[List.getD_eq_getElem?_getD,hx];rfl
theorem aw_meet14 {P:Program} {G:Prop} {c:Code} {Q:AX->St->Prop} (k:Kp) (S:St) (h:(∀st,keepS k st=some S->aw P T c st Q)->G) (h2:aw P T c S Q):G:=h fun _ hk=>aw_keep k hk h2
abbrev fsV (p:List Fil):List V:=[fils p]
set_option maxHeartbeats 4000000 in
theorem den_Strata (L:LibT T) (r:Rgs) (h:r.Fit) (cls:Str) (hc:cls.length<=1048576) (sd:Str) (hsd:sd.length<=1000000) (n d:Int) (hfew:candE r cls d=0->(candL r cls d).length<20/\(codA r d).length<20)
  (hQ:strE r cls sd n d=0->∀(i:Nat) (q:Int) (p:List Fil),(quoR n (cntS (prtsS r d (candL r cls d))))[i]? = some q->(prtsS r d (candL r cls d))[i]? = some p->0<=q/\q<=p.length):
  Den Tryz.prog T 25 [.agg r.cs,.str cls,.str sd,vi n,vi d] (.tup [ints (strR r cls sd n d),vi (strE r cls sd n d)]):=by
 have hE:∀e,strE r cls sd n d=e->e≠0->strR r cls sd n d=[]:=fun e he h0=>by unfold strR; rw[if_pos (by rw[he]; exact h0)]
 have hpl:=h.pls;refine den_of_body follows (fun args w=>Tryz.call25 args w) Tryz.func25 rfl 102 rfl ?_;refine run ?_;refine call (den_Name (libC L) sd (by omega)) ?_;cases hn:name sd
 ·have e:strE r cls sd n d=4:=by unfold strE; rw[if_pos hn]
  rw[hE 4 e (by decide),e];refine run ?_;exact finW (wk_t13 (.nil 1))
 refine run ?_;refine call (den_candidates (libC L) r h cls hc d) ?_;by_cases h2:candE r cls d=0
 case neg=>
  have e:strE r cls sd n d=candE r cls d:=by unfold strE; rw[if_neg (by rw[hn]; decide),if_pos h2]
  rw[hE _ e h2,e];refine runW h2 ?_;exact finW (wk_t13 (.nil 1))
 have hk:=candR_ok h2;obtain ⟨hNl,hCl⟩:=hfew h2;rw[candR_0 h2];refine runW h2 ?_
 have hSE:strE r cls sd n d=if decide (0<=n/\n<=(candL r cls d).length)=false then 2 else quoE n (cntS (prtsS r d (candL r cls d))):=by
  unfold strE; rw[if_neg (by rw[hn]; decide),if_neg (fun e=>e h2)]
 have hSR:strE r cls sd n d=0->strR r cls sd n d=sortI (idsF (outS sd (prtsS r d (candL r cls d)) (quoR n (cntS (prtsS r d (candL r cls d)))))):=fun e=>by
  unfold strR; rw[if_neg (fun x=>x e)]
 have hNid:∀f∈candL r cls d,(0<=f.id/\f.id<=1073741824)/\f.Fit:=fun f hf=>⟨fil_id hk (cand_mem hf).1,h.fls.2 f (cand_mem hf).1⟩;obtain ⟨N,hN⟩:∃N,candL r cls d=N:=⟨_,rfl⟩;rw[hN] at hNl hSE hSR hQ hNid ⊢;refine call (den_inside13 n 0 N.length) ?_;cases hb:decide (0<=n/\n<=(N.length:Int))
 ·rw[hb,if_pos rfl] at hSE;rw[hE _ hSE (by decide),hSE];refine run ?_;exact finW (wk_t13 (.nil 1))
 rw[hb,if_neg (by decide)] at hSE;refine run ?_;refine call (den_AtL (libC L) r.pls d hpl) ?_;obtain ⟨A,hA⟩:∃A,atL r.pls d=A:=⟨_,rfl⟩;rw[hA];refine run ?_;obtain ⟨Q,hP⟩:∃Q,prtsS r d N=Q:=⟨_,rfl⟩;rw[hP] at hSE hSR hQ;have hPl:Q.length=(codA r d).length:=by rw[<- hP]; unfold prtsS; rw[List.length_map]
 have hQ20:Q.length<20:=by omega
 refine aw_frz 5 ?_;refine aw_frz 9 ?_;refine aw_frz 14 ?_
 refine loop ⟨[2,3,5,9,12,14,15,16,17],[5,9,14,17],[15,16],[(15,24,1),(16,3,1)]⟩ (fun i:Nat=>i<=Q.length) (fun i=>Q.length-i)
  (fun i=>⟨102,[(2,.v (.str sd)),(3,.v (vi n)),(5,.p 5 0),(9,.p 9 0),(12,.v (fils N)),(14,.p 14 0),(15,.v (.slice 1 ((Q.take i).map fsV))),(16,.v (ints (cntS (Q.take i)))),(17,.p 17 0)],
   [(5,.con r.cs),(9,.con [vi d]),(14,.con [vi A]),(17,.var [vi i])],[(24,[15]),(3,[16])]⟩) 0 (Nat.zero_le _) ?_
 intro i hi;by_cases hlt:i<Q.length
 ·have hA0:¬A<0:=fun e=>by
   have:codA r d=[]:=by unfold codA; rw[if_pos (by rw[hA]; exact e)]
   rw[this] at hPl;have h0:Q.length=0:=hPl;omega
  obtain ⟨a,rfl⟩:∃a:Nat,A=a:=⟨A.toNat,by omega⟩;obtain ⟨p,hp,hcod⟩:=codA_ok hA hk.goodL;rw[hcod,List.length_map] at hPl;obtain ⟨c,hcx,-,-⟩:=drop_at (l:=p.cls) (k:=i) (by omega);have hQi:Q[i]? = some (prtS r d N c.code):=by rw[<- hP]; unfold prtsS; rw[hcod,List.getElem?_map,List.getElem?_map,hcx]; rfl
  have hfil:(N.filter fun e=> !(!((classR r.pls e d).1 == c.code)))=prtS r d N c.code:=by
   unfold prtS;congr 1
   funext e
   rw[Bool.not_not]
  have hil:((i:Int)<(p.cls.length:Int))=True:=eq_true (by omega);refine runW (And.intro hp hil) ?_;obtain ⟨W,hW⟩:∃W,prtS r d N c.code=W:=⟨_,rfl⟩;rw[hW] at hQi hfil
  apply aw_meet14 ⟨[2,3,5,9,12,14,15,16,17,18],[5,9,14,17],[15,16],[]⟩ ⟨102,[(2,.v (.str sd)),(3,.v (vi n)),(5,.p 5 0),(9,.p 9 0),(12,.v (fils N)),(14,.p 14 0),(15,.v (.slice 1 ((Q.take i).map fsV))),(16,.v (ints (cntS (Q.take i)))),(17,.p 17 0),(18,.v (fils W))],
   [(5,.con r.cs),(9,.con [vi d]),(14,.con [vi a]),(17,.con [vi i])],[(24,[15]),(3,[16])]⟩
  ·intro tail;refine callN (denN_cloneFil N (by omega)) (fun hz=> ?_) (fun hz=> ?_)
   ·have hz':N=[]:=by simpa using hz
    have hW0:W=[]:=by rw[<- hW,hz']; rfl
    refine run ?_;refine call (den_delFil0 _ _) ?_;refine runTo (stopAt 15) trivial ?_;refine tail _ ?_;rw[hW0];rfl
   ·have hz':N≠[]:=fun e=>hz (by rw[e]; rfl);have hlen:(N.map Fil.cs).length=N.length:=by simp
    rw[show (N.map Fil.cs).flatten=cellsF N from rfl];refine runW hlen ?_;have hD:=denM_delFil (T:=T) N 64 [.row r.cs,.row [vi d],.row [vi a],.row [vi i]] (fun f=> !((classR r.pls f d).1 == c.code)) (by omega) hz' fun f hf=>den_strC (libC L) r h d a i p c hp hcx f (hNid f hf).2;rw[hfil] at hD;refine callM 61 hD ?_;by_cases hne:W=[]
    ·rw[if_pos hne];refine runTo (stopAt 15) trivial ?_;refine tail _ ?_;rw[hne];rfl
    ·rw[if_neg hne];refine runTo (stopAt 15) trivial ?_;refine aw_frzt 18 ?_;rw[frzt1_s (id:=61) (off:=0) (n:=W.length) (size:=8) (cs:=cellsF W) rfl rfl (by rw[cellsF_len]; omega),cellsF_chunk];refine tail _ ?_;rfl
  have e1:(Q.take i).map fsV++[[fils W]]=(Q.take (i+1)).map fsV:=by
   obtain ⟨h1,h2⟩:=List.getElem?_eq_some_iff.1 hQi;rw[List.take_succ_eq_append_getElem h1,List.map_append,h2]; rfl
  have e2:(cntS (Q.take i)).map Cint++[[vi W.length]]=(cntS (Q.take (i+1))).map Cint:=by
   obtain ⟨h1,h2⟩:=List.getElem?_eq_some_iff.1 hQi;unfold cntS;rw[List.take_succ_eq_append_getElem h1,List.map_append,List.map_append,h2]; rfl
  have hQl:(Q.take i).length=i:=by rw[List.length_take]; omega
  have hcl:(cntS (Q.take i)).length=i:=by unfold cntS; rw[List.length_map,hQl]
  refine runW (And.intro e1 (And.intro e2 (And.intro hQl hcl))) ?_;exact round (i+1) hlt (by omega)
 ·have hiq:i=Q.length:=by omega
  subst hiq;rw[List.take_length];have hcl:(cntS Q).length<20:=by unfold cntS; rw[List.length_map]; exact hQ20
  apply aw_meet14 ⟨[2,3,15,16],[],[],[]⟩ ⟨102,[(2,.v (.str sd)),(3,.v (vi n)),(15,.v (.slice 1 (Q.map fsV))),(16,.v (ints (cntS Q)))],[],[]⟩
  ·intro tail;by_cases hA0:A<0
   ·have hA1:((0:Int)<=A)=False:=eq_false (by omega);refine runTo (stopAt 18) hA1 ?_;refine tail _ ?_;rfl
   ·obtain ⟨a,rfl⟩:∃a:Nat,A=a:=⟨A.toNat,by omega⟩;obtain ⟨p,hp,hcod⟩:=codA_ok hA hk.goodL;rw[hcod,List.length_map] at hPl;have hil:((Q.length:Int)<(p.cls.length:Int))=False:=eq_false (by omega);refine runTo (stopAt 18) (And.intro hp hil) ?_;refine tail _ ?_;rfl
  refine run ?_;refine call (den_Quotas n (cntS Q) hcl) ?_;by_cases hqe:quoE n (cntS Q)=0
  case neg=>
   rw[hE _ hSE hqe,hSE];refine runW hqe ?_;exact finW (wk_t13 (.nil 1))
  rw[hqe] at hSE;rw[hSR hSE,hSE]
  replace hQ:=hQ hSE
  rw[hqe]
  have hol:∀(Q':List (List Fil)) (X':List Int),(∀x∈Q',x∈Q)->(outS sd Q' X').length<=Q'.length*20:=fun Q' X' hx=>outS_len20 sd Q' X' fun p hp=>by
   have hm:=hx p hp;rw[<- hP] at hm;unfold prtsS at hm;obtain ⟨c,-,e⟩:=List.mem_map.1 hm;have:p.length<=N.length:=by rw[<- e]; unfold prtS; exact List.length_filter_le _ _
   omega
  have hXl:(quoR n (cntS Q)).length=Q.length:=by rw[quoR_len hqe]; unfold cntS; rw[List.length_map]
  obtain ⟨X,hX⟩:∃X,quoR n (cntS Q)=X:=⟨_,rfl⟩;rw[hX] at hQ hXl ⊢;refine run ?_
  refine loop ⟨[2,15,20,83,84,85],[],[20],[(20,53,8)]⟩ (fun k:Nat=>k<=X.length) (fun k=>X.length-k)
   (fun k=>⟨102,[(2,.v (.str sd)),(15,.v (.slice 1 (Q.map fsV))),(20,.v (fils (outS sd (Q.take k) (X.take k)))),(83,.v (ints X)),(84,.v (vi X.length)),(85,.v (vi k))],[],[(53,[20])]⟩) 0 (Nat.zero_le _) ?_
  intro k hk';by_cases hlt':k<X.length
  ·obtain ⟨q,hq,-⟩:=drop_at (l:=X) (k:=k) hlt';obtain ⟨P,hP',-⟩:=drop_at (l:=Q) (k:=k) (by omega);obtain ⟨hq0,hqP⟩:=hQ k q P hq hP';obtain ⟨m,rfl⟩:∃m:Nat,q=m:=⟨q.toNat,by omega⟩
   have hPN:∃c,P=prtS r d N c:=by
    have hm:=List.mem_of_getElem? hP';rw[<- hP] at hm;unfold prtsS at hm;obtain ⟨c,-,e⟩:=List.mem_map.1 hm;exact ⟨c,e.symm⟩
   obtain ⟨c,hPc⟩:=hPN
   have hPl':P.length<20:=by
    have:P.length<=N.length:=by rw[hPc]; unfold prtS; exact List.length_filter_le _ _
    omega
   have hPid:∀f∈P,0<=f.id/\f.id<=1073741824:=fun f hf=>(hNid f (by rw[hPc] at hf; unfold prtS at hf; exact (List.mem_filter.1 hf).1)).1;have hlX:((k:Int)<(X.length:Int))=True:=eq_true (by omega);have hqx:(X.map Cint)[k]? = some [vi (m:Int)]:=by rw[List.getElem?_map,hq]; rfl
   have hQx:(Q.map fsV)[k]? = some [fils P]:=by rw[List.getElem?_map,hP']; rfl
   refine runW (And.intro hqx (And.intro hQx hlX)) ?_;refine call (den_least L sd hsd P m (by omega) hPl' hPid) ?_;have e3:(outS sd (Q.take k) (X.take k)).map Fil.cs++(leaF sd P m).map Fil.cs=(outS sd (Q.take (k+1)) (X.take (k+1))).map Fil.cs:=by rw[outS_take hP' hq,Int.toNat_natCast,List.map_append]
   have hl1:(outS sd (Q.take k) (X.take k)).length<=400:=by
    have:=hol (Q.take k) (X.take k) (fun x hx=>List.mem_of_mem_take hx);have:(Q.take k).length<=Q.length:=by rw[List.length_take]; omega
    omega
   have hl2:(leaF sd P m).length<=20:=by unfold leaF; rw[List.length_take,srtS_len]; omega
   refine runW e3 ?_;exact round (k+1) hlt' (by omega)
  ·have hlX:((k:Int)<(X.length:Int))=False:=eq_false (by omega);have hkk:k=X.length:=by omega
   subst hkk;rw[List.take_length,hXl,List.take_length]
   have hol':(outS sd Q X).length<=1048576:=by
    have:=hol Q X (fun x hx=>hx);omega
   refine runW hlX ?_;refine call (den_ids (outS sd Q X) hol') ?_;refine run ?_;exact fin rfl
end Go.Arc
