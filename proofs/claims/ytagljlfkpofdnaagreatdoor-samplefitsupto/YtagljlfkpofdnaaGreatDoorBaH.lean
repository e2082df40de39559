/- A part of this claim. -/
import Derived.Test.YtagljlfkpofdnaaGreatDoorBaG
set_option maxRecDepth 100000
namespace Go.Arc
open Go.Ab Go.RowKit Go.Proofs
variable {T : Lay}
theorem denS_ixBy (l:Str) (x:UInt8) (kk:Option (TypeId×Nat×Nat)) (hl:l.length<=1048576) (h0:0<l.length):
  DenS Tryz.prog T 60 [(999000,.var (byteCs l) none kk)] [] [.s 999000 0 l.length 1,.v (vb8 x.toNat)] [(999000,.var (byteCs l) none kk)] [] (.v (vi (ix (fun y=>decide (x=y)) l))):=by
 refine denS_of_body follows (fun args w=>Tryz.call60 args w) Tryz.func60 rfl 19 rfl rfl ?_;refine run ?_
 refine loop ⟨[0,1,7,8],[999000],[],[]⟩ (fun k:Nat=>k<=l.length/\∀n∈l.take k,decide (x=n)=false) (fun k=>l.length-k)
  (fun k=>⟨19,[(0,.s 999000 0 l.length 1),(1,.v (vb8 x.toNat)),(7,.v (vi l.length)),(8,.v (vi k))],[(999000,.var (byteCs l) none kk)],[]⟩) 0 ⟨by omega,by simp⟩ ?_
 rintro k ⟨hk,hall⟩;by_cases hlt:k<l.length
 ·obtain ⟨y,hy,hd,-⟩:=drop_at hlt;have hd':=bcs_drop hy;have hcl:=byteCs_len l;generalize byteCs l=C at hd' hcl ⊢;by_cases hxy:x=y
  ·subst hxy;refine runW hd' ?_;exact finS1 (.v (.of (vi_eq (ix_at (p:=fun n=>decide (x=n)) hall hy (by simp)))))
  ·have hne:((x.toNat:Int)=(y.toNat:Int))=False:=eq_false (fun e=>hxy (UInt8.toNat_inj.1 (by omega)));refine runW (And.intro hd' hne) ?_;exact round (k+1) ⟨by omega,take_snoc (q:=fun n:UInt8=>decide (x=n)=false) hall hy (by simp[hxy])⟩ (by omega)
 ·refine run ?_;exact finS1 (.v (.of (vi_eq (ix_none (p:=fun n=>decide (x=n)) hall hlt))))
theorem denS_hasBy (l:Str) (x:UInt8) (kk:Option (TypeId×Nat×Nat)) (hl:l.length<=1048576) (h0:0<l.length):
  DenS Tryz.prog T 22 [(999000,.var (byteCs l) none kk)] [] [.s 999000 0 l.length 1,.v (vb8 x.toNat)] [(999000,.var (byteCs l) none kk)] [] (.v (vb (l.any fun y=>decide (x=y)))):=by
 refine denS_of_body follows (fun args w=>Tryz.call22 args w) Tryz.func22 rfl 9 rfl rfl ?_;refine run ?_;refine callS [(999000,999000)] (denS_ixBy l x kk hl h0) (.cons (.s rfl) (.cons (.v _) .nil)) ?_ ?_
 ·intro x hx;simp only[List.mem_singleton] at hx;subst hx;exact ⟨999000,_,rfl,rfl,rfl,.inl rfl,rfl⟩
 refine run ?_;exact finS1 (.v (.of (vb_eq (ix_ge _ l))))
theorem srtI_rise {l:List Int} (h:l.Pairwise (· < ·)):srtI l=true:=by
  rw[srtI_iff];intro i x y hx hy;obtain ⟨h1,rfl⟩:=List.getElem?_eq_some_iff.1 hx;obtain ⟨h2,rfl⟩:=List.getElem?_eq_some_iff.1 hy;have:=List.pairwise_iff_getElem.1 h i (i+1) h1 h2 (by omega);omega
theorem srtI_sort (l:List Int):srtI (sortI l)=true:=by
 rw[srtI_iff];intro i x y hx hy;obtain ⟨h1,rfl⟩:=List.getElem?_eq_some_iff.1 hx;obtain ⟨h2,rfl⟩:=List.getElem?_eq_some_iff.1 hy;have hp:(sortI l).Pairwise fun a b=>decide (a<=b)=true:=List.pairwise_mergeSort (fun a b c h1 h2=>by simp only[decide_eq_true_eq] at *; omega) (fun a b=>by simp only[Bool.or_eq_true,decide_eq_true_eq]; omega) l;have:=List.pairwise_iff_getElem.1 hp i (i+1) h1 h2 (by omega);exact of_decide_eq_true this
theorem den_fit1 (l:List Int) (hl:l.length<=1048576) (x:Int):Den Tryz.prog T 24 [vi x,.row [ints l]] (vb (!(l.any fun y=>decide (x=y)))):=by
 refine den_of_body follows (fun args w=>Tryz.call24 args w) Tryz.func24 rfl 8 rfl ?_;refine run ?_;refine call (den_hasInt l x hl) ?_;refine run ?_;exact fin rfl
theorem slcR_len (r:Rgs) (s:Smp) (d:Int):(slcR r s d).length<=r.fls.length:=by
 unfold slcR;split
 ·unfold idsF;rw[sortI_len,List.length_map];have:=chs_len s (candL r s.cls d);have:=candE_len r s.cls d;omega
 ·exact Nat.zero_le _
theorem up_nat (c:UInt8):((upB c).toNat:Int)=if 97<=(c.toNat:Int)/\(c.toNat:Int)<=122 then (c.toNat:Int)-32 else c.toNat:=by
 unfold upB;by_cases h:97<=c.toNat/\c.toNat<=122
 ·rw[if_pos h,if_pos (by omega),UInt8.toNat_sub_of_le _ _ (by rw[UInt8.le_iff_toNat_le]; show 32<=c.toNat; omega)]
  show ((c.toNat-32:Nat):Int)=_
  omega
 ·rw[if_neg h,if_neg (by omega)]
theorem aw_meet13 {P:Program} {G:Prop} {c:Code} {Q:AX->St->Prop} (k:Kp) (S:St) (h:(∀st,keepS k st=some S->aw P T c st Q)->G) (h2:aw P T c S Q):G:=h fun _ hk=>aw_keep k hk h2
theorem few_fls {r:Rgs} (h:fewG r=true) (hk:OkG r):r.fls.length<=10:=by
 have hz:=hk.fls;unfold checkF at hz;split at hz
 ·cases hz
 have h1:=(chk_zero hz).1;unfold fewG fewG0 at h;simp only[Bool.and_eq_true] at h;have h2:=h.1.1.1.1.1.1.1.2;unfold fewF at h2;simp only[Bool.and_eq_true,Bool.not_eq_true',Bool.or_eq_false_iff,Bool.and_eq_false_iff,decide_eq_false_iff_not] at h2;omega
set_option maxHeartbeats 4000000 in
theorem den_SampleFits (L:LibT T) (r:Rgs) (s:Smp) (d:Int) (h:r.Fit) (hs:s.cls.length<=1048576/\s.seed.length<=1048576):
  Den Tryz.prog T 4 [.agg r.cs,.agg s.cs,vi d] (vb true):=by
 have hfl:=h.fls.1;have hsl:=slcR_len r s d;refine den_of_body follows (fun args w=>Tryz.call4 args w) Tryz.func4 rfl 186 rfl ?_;refine run ?_;refine call (den_awake13 L) ?_;refine run ?_;refine call (den_FewG r h) ?_;cases hfg:fewG r
 ·refine run ?_;exact fin rfl
 by_cases c1:100<(s.cls.length:Int)
 ·refine runW (eq_true c1) ?_;exact fin rfl
 by_cases c2:100<(s.seed.length:Int)
 ·refine runW (And.intro (eq_false c1) (eq_true c2)) ?_;exact fin rfl
 have hfw:∀hk:OkG r,r.fls.length<=10:=fun hk=>few_fls hfg hk
 have hS:=den_Select L r h s hs.1 (by omega) d (fun _ he=>by
  have:=hfw (candR_ok (slcE_cand he).2);have:=candE_len r s.cls d
  omega)
 refine runW (And.intro (eq_false c1) (eq_false c2)) ?_;refine call hS ?_;refine run ?_;refine call (den_Candidates (libC L) r h s.cls hs.1 d) ?_;by_cases he:slcE r s d=0
 case neg=>
  rw[slcR_e he];refine runW he ?_;exact fin rfl
 obtain ⟨hse,hce⟩:=slcE_cand he;have hk:=candR_ok hce;have hcan:canR r s.cls d=idsF (candL r s.cls d):=by rw[canR_eq hk,candR_0 hce]
 have hmem:∀n∈slcR r s d,(canR r s.cls d).any (fun y=>decide (n=y))=true:=fun n hn=>List.any_eq_true.2 ⟨n,slcR_mem he hn,decide_eq_true rfl⟩;have hpick:=fun (hm:s.mth≠2) (h1:s.mth=1->1<=s.n) (i:Nat) (f:Fil) (hf:(candL r s.cls d)[i]? = some f)=>slcR_pick he hm h1 hf;rw[hcan] at hmem;rw[he,hce,hcan];obtain ⟨S,hSS⟩:∃S,slcR r s d=S:=⟨_,rfl⟩;rw[hSS] at hsl hmem hpick ⊢;have hSsrt:srtI S=true:=by rw[<- hSS]; unfold slcR; rw[if_pos he]; exact srtI_sort _
 have hcm:=fun f hf=>cand_mem (r:=r) (cls:=s.cls) (d:=d) (f:=f) hf;obtain ⟨N,hN⟩:∃N,candL r s.cls d=N:=⟨_,rfl⟩;have hNl:N.length<=r.fls.length:=by rw[<- hN]; exact candE_len r s.cls d
 have hNs:=srtI_rise (ids_pair (cand_pair hk s.cls d));rw[hN] at hNs hmem hpick hcm ⊢;have hil:(idsF N).length=N.length:=by unfold idsF; rw[List.length_map]
 refine run ?_;refine call (den_sortedI (idsF N) (by omega)) ?_;rw[hNs];refine run ?_;refine call (den_CheckSmp (libC L) s hs.1 hs.2) ?_;rw[hse];obtain ⟨hm4,hnum,hsed⟩:=smp_zero hse;obtain ⟨i,m,n,k0,cl,sd⟩:=s;simp only at hs c1 c2 hm4 hcm hpick;refine run ?_
 refine loop ⟨[2,3,4,7,9,72,73,74],[3,4,9],[],[]⟩ (fun k:Nat=>k<=N.length) (fun k=>N.length-k)
  (fun k=>⟨186,[(2,.v (vi d)),(3,.p 3 0),(4,.p 4 0),(7,.v (ints S)),(9,.p 9 0),(72,.v (ints (idsF N))),(73,.v (vi N.length)),(74,.v (vi k))],[(3,.var r.cs),(4,.var (Smp.cs ⟨i,m,n,k0,cl,sd⟩)),(9,.var [ints (idsF N)])],[]⟩) 0 (Nat.zero_le _) ?_ ?_
 ·intro k hk2;by_cases hlt:k<N.length
  ·obtain ⟨f,hf,-,hfm⟩:=drop_at hlt;have hix:(idsF N)[k]? = some f.id:=by unfold idsF; rw[List.getElem?_map,hf]; rfl
   obtain ⟨hfr,hst,hcz,hwi⟩:=hcm f hfm;obtain ⟨kk,hfi,hkl,hxx⟩:=find_atF hk hfr;have hff:=h.fls.2 f hfr;have hcl:=classR_len h.pls hff d;obtain ⟨hasc,htn⟩:=name_ascii (title_ok hk hfr)
   obtain ⟨c,tl,ht⟩:∃c tl,f.title=c::tl:=by
    cases e:f.title with
    | nil=>exact absurd e htn
    | cons a b=>exact ⟨a,b,rfl⟩
   have hne:((c::tl == []):Bool)=false:=rfl;have hpk:=fun hm h1=>hpick hm h1 k f hf;have hFd:=den_FindF (T:=T) r.fls f.id hfl;rw[hfi] at hFd;have hWi:=den_WithinRef (T:=T) (classR r.pls f d).1 cl hcl hs.1;rw[hwi] at hWi;refine runW hix ?_;refine call hFd ?_;refine runW hxx ?_;refine call (den_Class (libC L) r.pls f d h.pls hff) ?_;refine runW hcz ?_;refine call (den_State f d) ?_;refine runW (And.intro hcz hst) ?_;refine call hWi ?_;refine runW (And.intro ht hne) ?_;refine call (den_hasInt S f.id (by omega)) ?_;obtain ⟨B,hB⟩:∃B,(S.any fun x=>decide (f.id=x))=B:=⟨_,rfl⟩;rw[hB] at hpk ⊢;have hm4':m=1\/m=2\/m=3\/m=4:=by omega
   have hu:∃u:UInt8,upB c=u/\((97<=(c.toNat:Int))=True/\((c.toNat:Int)<=122)=True/\(c.toNat:Int)-32=(u.toNat:Int)\/(97<=(c.toNat:Int))=False/\u=c\/(97<=(c.toNat:Int))=True/\((c.toNat:Int)<=122)=False/\u=c):=by
    refine ⟨_,rfl,?_⟩;have hn:=up_nat c;by_cases g1:97<=(c.toNat:Int)
    ·by_cases g2:(c.toNat:Int)<=122
     ·rw[if_pos ⟨g1,g2⟩] at hn;exact .inl ⟨eq_true g1,eq_true g2,hn.symm⟩
     ·refine .inr (.inr ⟨eq_true g1,eq_false g2,?_⟩);unfold upB;rw[if_neg (by omega)]
    ·refine .inr (.inl ⟨eq_false g1,?_⟩);unfold upB;rw[if_neg (by omega)]
   obtain ⟨u,hup,hu⟩:=hu;have hub:u.toNat<=255:=by have:=u.toNat_lt; omega
   apply aw_meet13 ⟨[2,3,4,7,9,11,14,17,18,72,73,74],[3,4,9,14],[],[]⟩ ⟨186,[(2,.v (vi d)),(3,.p 3 0),(4,.p 4 0),(7,.v (ints S)),(9,.p 9 0),(11,.v (vi k)),(14,.p 14 0),(17,.v (vb B)),(18,.v (vb8 u.toNat)),(72,.v (ints (idsF N))),(73,.v (vi N.length)),(74,.v (vi k))],
    [(3,.var r.cs),(4,.var (Smp.cs ⟨i,m,n,k0,cl,sd⟩)),(9,.var [ints (idsF N)]),(14,.var [vi f.id,vi f.ofc,vi f.opn,vi f.cld,.str f.cls,.str (c::tl),vi f.pts,ntss f.nts])],[]⟩
   ·intro tail;rcases hu with ⟨g1,g2,g3⟩ | ⟨g1,g2⟩ | ⟨g1,g2,g3⟩
    ·refine runTo (stopAt 25) (And.intro ht (And.intro g1 (And.intro g2 g3))) ?_;refine tail _ ?_;rfl
    ·subst g2;refine runTo (stopAt 25) (And.intro ht g1) ?_;refine tail _ ?_;rfl
    ·subst g3;refine runTo (stopAt 25) (And.intro ht (And.intro g1 g2)) ?_;refine tail _ ?_;rfl
   rcases hm4' with rfl | rfl | rfl | rfl
   ·have hnum':(decide (1<=n/\n<=256) && decide (0<=k0/\k0<=n-1))=true:=hnum;rw[Bool.and_eq_true,decide_eq_true_eq,decide_eq_true_eq] at hnum';have hb:=hpk (by decide) (fun _=>hnum'.1.1);clear hpk hpick hS he hse hce hcan hSS hN hsed hnum hB hmem;obtain ⟨n',rfl⟩:∃x:Nat,n=x:=⟨n.toNat,by omega⟩;obtain ⟨k',rfl⟩:∃x:Nat,k0=x:=⟨k0.toNat,by omega⟩
    have e:pickB ⟨i,1,n',k',cl,sd⟩ k f=decide (k'<=k/\(k-k') % n'=0):=by
     unfold pickB;rw[if_pos rfl];simp only[Int.toNat_natCast]
    rw[e] at hb;subst hb;have hn0:((n':Int)=0)=False:=eq_false (by omega);by_cases q1:k'<=k
    ·have q1':((k':Int)<=(k:Int))=True:=eq_true (by omega);obtain ⟨M,hM⟩:∃M,(k-k') % n'=M:=⟨_,rfl⟩
     have hM2:((k:Int)-(k':Int)).tmod (n':Int)=(M:Int):=by
      rw[show (k:Int)-(k':Int)=((k-k':Nat):Int) by omega,Int.tmod_eq_emod_of_nonneg (by omega),<- hM];rfl
     rw[hM];by_cases q2:M=0
     ·rw[decide_eq_true (show k'<=k/\M=0 from ⟨q1,q2⟩)];have q2':((M:Int)=0)=True:=eq_true (by omega);refine runW (And.intro q1' (And.intro hn0 (And.intro hM2 q2'))) ?_;exact round (k+1) hlt (by omega)
     ·rw[decide_eq_false (show ¬(k'<=k/\M=0) from fun e=>q2 e.2)];have q2':((M:Int)=0)=False:=eq_false (by omega);refine runW (And.intro q1' (And.intro hn0 (And.intro hM2 q2'))) ?_;exact round (k+1) hlt (by omega)
    ·rw[decide_eq_false (show ¬(k'<=k/\(k-k') % n'=0) from fun e=>q1 e.1)];have q1':((k':Int)<=(k:Int))=False:=eq_false (by omega);refine runW q1' ?_;exact round (k+1) hlt (by omega)
   ·refine run ?_;exact round (k+1) hlt (by omega)
   ·have hb:=hpk (by decide) (fun e=>absurd e (by decide));have hsd:letB sd=true:=hsed;have hsn:sd≠[]:=((letB_iff sd).1 hsd).2.2;have hsl2:0<sd.length:=List.length_pos_iff.2 hsn
    have e:pickB ⟨i,3,n,k0,cl,sd⟩ k f=sd.any fun y=>decide (u=y):=by
     unfold pickB;rw[if_neg (show ¬(3:Int)=1 by decide),if_pos rfl];unfold lettB;rw[ht]
     show (sd.any fun b=>decide (b=upB c))=_
     rw[hup];congr 1
     funext y
     exact decide_eq_decide.2 eq_comm
    rw[e] at hb;refine run ?_;unfold bytK;intro rr cap hnm g1 g2;refine run ?_;refine callX (callS [(999000,164)] (denS_hasBy sd u (some (5,1,cap)) (by omega) hsl2) (.cons (.sn rfl rfl g1 g2 hsl2) (.cons (.v _) .nil)) ?_ ?_)
    ·intro x hx;simp only[List.mem_singleton] at hx;subst hx;exact ⟨164,_,rfl,rfl,rfl,.inl rfl,rfl⟩
    rw[<- hb];cases B
    ·refine run ?_;exact round (k+1) hlt (by omega)
    ·refine run ?_;exact round (k+1) hlt (by omega)
   ·have hb:=hpk (by decide) (fun e=>absurd e (by decide))
    have e:pickB ⟨i,4,n,k0,cl,sd⟩ k f=decide (n<=f.pts):=by
     unfold pickB;rw[if_neg (show ¬(4:Int)=1 by decide),if_neg (show ¬(4:Int)=3 by decide)];rfl
    rw[e] at hb;subst hb;by_cases q1:n<=f.pts
    ·rw[decide_eq_true q1];refine runW (eq_true q1) ?_;exact round (k+1) hlt (by omega)
    ·rw[decide_eq_false q1];refine runW (eq_false q1) ?_;exact round (k+1) hlt (by omega)
  ·clear hpick;refine run ?_;have hany:(S.any fun x=> !((idsF N).any fun y=>decide (x=y)))=false:=List.any_eq_false.2 fun x hx=>by rw[hmem x hx]; decide
   refine call (den_anyInt S _ _ (fun x=> !((idsF N).any fun y=>decide (x=y))) (by omega) fun x _=>den_fit1 (idsF N) (by omega) x) ?_;rw[hany];refine run ?_;refine call (den_sortedI S (by omega)) ?_;rw[hSsrt];refine run ?_;exact fin rfl
 ·rw[hil];rfl
end Go.Arc
