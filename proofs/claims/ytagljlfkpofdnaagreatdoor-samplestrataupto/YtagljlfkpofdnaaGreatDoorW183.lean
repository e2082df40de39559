/- A part of this claim. -/
import Derived.Test.YtagljlfkpofdnaaGreatDoorBaH
set_option maxRecDepth 100000
namespace Go.Arc
open Go.Ab Go.RowKit Go.Proofs
variable {T : Lay}
theorem codA_few {r:Rgs} (h:fewG r=true) (hk:OkG r) (d:Int):(codA r d).length<20:=by
 unfold codA;split
 ·decide
 ·rename_i hn;unfold atL at hn ⊢;rw[if_pos hk.goodL] at hn ⊢;obtain ⟨k,hk2,hkl⟩:=idx_some (l:=r.pls) (d:=d) (by omega);rw[hk2,Int.toNat_natCast,List.length_map];unfold fewG fewG0 at h;simp only[Bool.and_eq_true] at h;have h2:=h.1.1.1.1.1.1.1.1.2;unfold few at h2;rw[Bool.and_eq_true] at h2;have h3:=List.all_eq_true.1 h2.2 (pl r.pls k) (List.mem_of_getElem? (pl_some hkl));unfold fewP at h3;simp only[Bool.and_eq_true,Bool.not_eq_true',Bool.or_eq_false_iff,Bool.and_eq_false_iff,decide_eq_false_iff_not,Bool.not_eq_false',decide_eq_true_eq] at h3;have h4:=(good_all hk.goodL).2 k hkl;unfold faultAt at h4;rw[pl_some hkl] at h4;have h5:=(fault_zero h4).2.2.2.1;omega
structure GpOk (r:Rgs) (d:Int) (l:List Fil) (gs:List Gp):Prop where
 nd:(gs.map (·.c)).Nodup
 at':∀g∈gs,g.ids=idsF (prtS r d l g.c)/\g.ids≠[]/\g.ids.length<=g.cap/\g.cap<=maxLen
 all:∀f∈l,∃g∈gs,g.c=(classR r.pls f d).1
 len:gs.length<=l.length
theorem gpOk_nil (r:Rgs) (d:Int):GpOk r d [] []:=⟨List.nodup_nil,by simp,by simp,Nat.le_refl _⟩
theorem gp_case (gs:List Gp) (c:Str):(∃(i:Nat) (g:Gp),gs[i]? = some g/\g.c=c)\/∀g∈gs,g.c≠c:=by
 by_cases h:∃g∈gs,g.c=c
 ·obtain ⟨g,hg,hc⟩:=h;obtain ⟨i,hi⟩:=List.getElem?_of_mem hg;exact .inl ⟨i,g,hi,hc⟩
 ·exact .inr fun g hg e=>h ⟨g,hg,e⟩
theorem prt_snoc (r:Rgs) (d:Int) (l:List Fil) (f:Fil) (c:Str):prtS r d (l++[f]) c=prtS r d l c++if (classR r.pls f d).1=c then [f] else []:=by
 unfold prtS;rw[List.filter_append];congr 1;rw[List.filter_cons];by_cases h:(classR r.pls f d).1=c
 ·rw[if_pos (by rw[h]; exact beq_self_eq_true c),if_pos h]; rfl
 ·rw[if_neg (by rw[beq_iff_eq]; exact h),if_neg h]; rfl
theorem GpOk.at {r:Rgs} {d:Int} {l:List Fil} {gs:List Gp} (h:GpOk r d l gs) {f:Fil} {i:Nat} {g:Gp} (hi:gs[i]? = some g) (hc:(classR r.pls f d).1=g.c) {b cap:Nat} (h1:g.ids.length+1<=cap) (h2:cap<=maxLen):
  GpOk r d (l++[f]) (gs.set i ⟨g.c,g.ids++[f.id],b,cap⟩):=by
 have hil:=(List.getElem?_eq_some_iff.1 hi).1;have hgm:=List.mem_of_getElem? hi
 have hmap:(gs.set i ⟨g.c,g.ids++[f.id],b,cap⟩).map (·.c)=gs.map (·.c):=by
  rw[List.map_set];refine List.ext_getElem? fun k=> ?_;rw[List.getElem?_set];split
  ·rename_i e;subst e;rw[List.getElem?_map,hi,if_pos (by simpa using hil)]; rfl
  ·rfl
 refine ⟨by rw[hmap]; exact h.nd,fun x hx=> ?_,fun y hy=> ?_,by have:=h.len; rw[List.length_set,List.length_append]; omega⟩
 ·obtain ⟨k,hkx⟩:=List.getElem?_of_mem hx;rw[List.getElem?_set] at hkx;rw[prt_snoc];split at hkx
  ·cases hkx;obtain ⟨a1,a2,-,-⟩:=h.at' g hgm;refine ⟨?_,by simp,by simpa using h1,h2⟩
   show g.ids++[f.id]=_
   rw[if_pos hc,a1];unfold idsF; rw[List.map_append]; rfl
  ·rename_i hne;obtain ⟨a1,a2,a3,a4⟩:=h.at' x (List.mem_of_getElem? hkx);rw[if_neg,List.append_nil]
   ·exact ⟨a1,a2,a3,a4⟩
   ·rw[hc];intro e;refine hne ((List.getElem?_inj (l:=gs.map (·.c)) (by simpa using hil) h.nd).1 ?_);rw[List.getElem?_map,List.getElem?_map,hi,hkx]
    show some g.c=some x.c
    rw[e]
 ·rcases List.mem_append.1 hy with hy | hy
  ·obtain ⟨x,hx,he⟩:=h.all y hy;have:x.c∈(gs.set i ⟨g.c,g.ids++[f.id],b,cap⟩).map (·.c):=by rw[hmap]; exact List.mem_map.2 ⟨x,hx,rfl⟩
   obtain ⟨z,hz,hzc⟩:=List.mem_map.1 this;exact ⟨z,hz,hzc.trans he⟩
  ·rw[List.mem_singleton] at hy;subst hy;exact ⟨⟨g.c,g.ids++[y.id],b,cap⟩,List.mem_of_getElem? (i:=i) (by rw[List.getElem?_set,if_pos rfl,if_pos hil]),hc.symm⟩
theorem GpOk.new {r:Rgs} {d:Int} {l:List Fil} {gs:List Gp} (h:GpOk r d l gs) {f:Fil} {c:Str} (hno:∀g∈gs,g.c≠c) (hc:(classR r.pls f d).1=c) {b cap:Nat} (h1:1<=cap) (h2:cap<=maxLen):
  GpOk r d (l++[f]) (gs++[⟨c,[f.id],b,cap⟩]):=by
 have hnil:prtS r d l c=[]:=List.filter_eq_nil_iff.2 fun y hy e=>by
  obtain ⟨g,hg,he⟩:=h.all y hy;rw[beq_iff_eq] at e;exact hno g hg (he.trans e)
 refine ⟨?_,fun x hx=> ?_,fun y hy=> ?_,by have:=h.len; rw[List.length_append,List.length_append]; simp only[List.length_cons,List.length_nil]; omega⟩
 ·rw[List.map_append,List.nodup_append];refine ⟨h.nd,by simp,fun a ha b hb e=> ?_⟩;obtain ⟨g,hg,hga⟩:=List.mem_map.1 ha;simp only[List.map_cons,List.map_nil,List.mem_singleton] at hb;exact hno g hg (hga.trans (e.trans hb))
 ·rw[prt_snoc];rcases List.mem_append.1 hx with hx | hx
  ·rw[if_neg (fun e=>hno x hx (e.symm.trans hc)),List.append_nil];exact h.at' x hx
  ·rw[List.mem_singleton] at hx;subst hx;rw[if_pos hc,hnil];exact ⟨rfl,by simp,h1,h2⟩
 ·rcases List.mem_append.1 hy with hy | hy
  ·obtain ⟨x,hx,he⟩:=h.all y hy;exact ⟨x,List.mem_append_left _ hx,he⟩
  ·rw[List.mem_singleton] at hy;subst hy;exact ⟨_,List.mem_append_right _ (.head _),hc.symm⟩
theorem scr_ok {r:Rgs} {sd:Str} (hn:name sd=true) (hk:OkG r) {f:Fil} (hf:f∈r.fls):scrR sd f.id=(scrD sd f.id,0):=by
 obtain ⟨i,hi⟩:=List.mem_iff_getElem?.1 hf;have hb:=(faultF_zero hi (fil_fault hk hi)).1;unfold badF at hb;unfold scrR idB;rw[if_neg (by rw[hn]; decide),if_neg];rw[decide_eq_false_iff_not];omega
theorem look_gp3 {id a b c:Nat} {A B C k:Blk} {h:List (Nat×Blk)} (e:Ab.look id [(a,A),(b,B),(c,C)]=some k) (h1:Ab.look a h=some A:=by rfl) (h2:Ab.look b h=some B:=by rfl) (h3:Ab.look c h=some C:=by rfl):Ab.look id h=some k:=by
 rw[look_cons,look_cons,look_cons,look_nil] at e;split at e
 ·rename_i q; subst q; rw[h1]; exact e
 split at e
 ·rename_i q; subst q; rw[h2]; exact e
 split at e
 ·rename_i q; subst q; rw[h3]; exact e
 cases e
set_option maxHeartbeats 4000000 in
theorem den_SampleStrata (L:LibT T) (r:Rgs) (cls sd:Str) (n d:Int) (h:r.Fit) (hc:cls.length<=1048576) (hsd:sd.length<=1048576) (hn:0<=n/\n<256):
  Den Tryz.prog T 5 [.agg r.cs,.str cls,.str sd,.val (.int .u8 n),vi d] (vb true):=by
 obtain ⟨n,rfl⟩:∃m:Nat,n=m:=⟨n.toNat,by omega⟩;obtain ⟨-,hn⟩:=hn;have hn:n<256:=by omega
 have hfl:=h.fls.1;refine den_of_body follows (fun args w=>Tryz.call5 args w) Tryz.func5 rfl 227 rfl ?_;refine run ?_;refine call (den_awake13 L) ?_;refine run ?_;refine call (den_FewG r h) ?_;cases hfg:fewG r
 ·refine run ?_;exact fin rfl
 by_cases c1:100<(cls.length:Int)
 ·refine runW (eq_true c1) ?_;exact fin rfl
 by_cases c2:100<(sd.length:Int)
 ·refine runW (And.intro (eq_false c1) (eq_true c2)) ?_;exact fin rfl
 refine runW (And.intro (eq_false c1) (eq_false c2)) ?_;refine call (den_Candidates (libC L) r h cls hc d) ?_
 have hlen:(canR r cls d).length<=1048576:=by
  unfold canR idsF candR;rw[sortI_len,List.length_map];split
  ·have:=candE_len r cls d;omega
  ·exact Nat.zero_le _
 obtain ⟨C,hC⟩:∃C,canR r cls d=C:=⟨_,rfl⟩;rw[hC] at hlen ⊢
 obtain ⟨K,hK,hKl⟩:∃K:Nat,K=(if 0<C.length then n % (C.length+1) else 0)/\K<=C.length:=by
  refine ⟨_,rfl,?_⟩;split
  ·have:=Nat.mod_lt n (show 0<C.length+1 by omega);omega
  ·exact Nat.zero_le _
 apply aw_meet14 ⟨[1,2,4,5,11,12,13],[5],[],[]⟩ ⟨227,[(1,.v (.str cls)),(2,.v (.str sd)),(4,.v (vi d)),(5,.p 5 0),(11,.v (ints C)),(12,.v (vi (candE r cls d))),(13,.v (vi K))],[(5,.var r.cs)],[]⟩
 ·intro tail;by_cases h0:0<C.length
  ·rw[if_pos h0] at hK;have e0:(0<(C.length:Int))=True:=eq_true (by omega);have e1:((C.length:Int)+1=0)=False:=eq_false (by omega)
   have e2:(n:Int).tmod ((C.length:Int)+1)=(K:Int):=by
    rw[Int.tmod_eq_emod_of_nonneg (by omega),hK];rfl
   refine runTo (stopAt 9) (And.intro e0 (And.intro e1 e2)) ?_;refine tail _ ?_;rfl
  ·have e0:(0<(C.length:Int))=False:=eq_false (by omega);rw[if_neg h0] at hK;refine runTo (stopAt 9) e0 ?_;refine tail _ ?_;rw[hK];rfl
 refine run ?_
 refine call (den_Strata L r h cls hc sd (by omega) K d (fun he=>⟨by
  have:=few_fls hfg (candR_ok he);have:=candE_len r cls d
  omega,codA_few hfg (candR_ok he) d⟩) (fun hs i q p h1 h2=>str_quo hs i q p h1 h2)) ?_
 by_cases hs:strE r cls sd K d=0
 case neg=>
  rw[str_nil hs];by_cases he:candE r cls d=0
  ·refine runW (And.intro he hs) ?_;exact fin rfl
  ·refine runW (And.intro he hs) ?_;exact fin rfl
 obtain ⟨hnm,he,-⟩:=strE_ok hs;have hk:=candR_ok he;have hSl:=str_len hs;have hpart:=fun c hP=>str_part hs (c:=c) hP;have hSsrt:srtI (strR r cls sd K d)=true:=by unfold strR; rw[if_neg (fun e=>e hs)]; exact srtI_sort _
 have hcan:canR r cls d=idsF (candL r cls d):=by rw[canR_eq hk,candR_0 he]
 have hchs:∀f,strB r cls sd K d f=(strR r cls sd K d).any fun x=>decide (f.id=x):=fun f=>rfl;have hcm:=fun f hf=>cand_mem (r:=r) (cls:=cls) (d:=d) (f:=f) hf
 have hNl:(candL r cls d).length<=10:=by
  have:=few_fls hfg hk;have:=candE_len r cls d;omega
 rw[hs,he];obtain ⟨S,hS⟩:∃S,strR r cls sd K d=S:=⟨_,rfl⟩;obtain ⟨B,hB⟩:∃B,strB r cls sd K d=B:=⟨_,rfl⟩;obtain ⟨N,hN⟩:∃N,candL r cls d=N:=⟨_,rfl⟩;rw[hS] at hSl hSsrt;rw[hB,hS] at hchs;rw[hB,hN] at hpart;rw[hN] at hcm hNl hcan;rw[hC] at hcan;subst hcan;have hil:(idsF N).length=N.length:=by unfold idsF; rw[List.length_map]
 rw[hil] at hKl;have hSl':S.length=K:=by omega
 rw[hS];refine runW hSl' ?_;refine call (den_sortedI S (by omega)) ?_;rw[hSsrt];refine run ?_
 refine loopV (fun y:Nat×List Gp=>⟨[2,4,5,11,13,14,16,97,98,99],96::5::labs 1000 y.2,[],[]⟩) (fun y=>y.1<=N.length/\GpOk r d (N.take y.1) y.2) (fun y=>N.length-y.1)
  (fun y=>⟨227,[(2,.v (.str sd)),(4,.v (vi d)),(5,.p 5 0),(11,.v (ints (idsF N))),(13,.v (vi K)),(14,.v (ints S)),(16,.m 96),(97,.v (ints (idsF N))),(98,.v (vi N.length)),(99,.v (vi y.1))],
   (96,.map (gpE y.2))::(5,.var r.cs)::gpH 3 1000 y.2,[]⟩) (0,[]) ⟨Nat.zero_le _,gpOk_nil r d⟩ (by rw[<- hil]; rfl) ?_
 rintro ⟨j,gs⟩ ⟨hj,hG⟩;simp only at hj hG;by_cases hlt:j<N.length
 ·obtain ⟨f,hf,-,hfm⟩:=drop_at hlt;have hix:(idsF N)[j]? = some f.id:=by unfold idsF; rw[List.getElem?_map,hf]; rfl
  obtain ⟨hfr,-,hcz,-⟩:=hcm f hfm;obtain ⟨kk,hfi,hkl,hxx⟩:=find_atF hk hfr;have hff:=h.fls.2 f hfr;have hcl:=classR_len h.pls hff d;have hFd:=den_FindF (T:=T) r.fls f.id hfl;rw[hfi] at hFd;have hcls:∀c,(classR r.pls f d).1=c->GpOk r d (N.take j) gs->True:=fun _ _ _=>trivial;obtain ⟨c,hce⟩:∃c,(classR r.pls f d).1=c:=⟨_,rfl⟩;have hz:zeroV Tryz.prog 39=some (.slice none 0 0):=by kernel_rfl
  have hofv:ofVal (Value.slice none 0 0)=V.val (.slice none 0 0):=rfl;have hokz:okVal (Value.slice none 0 0)=true:=rfl
  have hgl9:gs.length<900000:=by
   have:=hG.len;rw[List.length_take] at this;omega
  have htk:N.take (j+1)=N.take j++[f]:=by
   obtain ⟨h1,rfl⟩:=List.getElem?_eq_some_iff.1 hf;exact List.take_succ_eq_append_getElem h1
  rcases gp_case gs c with ⟨i,g,hgi,hgc⟩ | hno
  ·subst hgc;have hgm:=List.mem_of_getElem? hgi;have hil':=(List.getElem?_eq_some_iff.1 hgi).1;obtain ⟨-,-,gc1,gc2⟩:=hG.at' g hgm;have hfind:=gp_find hgi hG.nd;have hfind':findV (.str g.c) (gpE gs)=some (some (.val (.slice (some ⟨g.b,0,none⟩) g.ids.length g.cap))):=hfind
   have hups:∀(r2 cap2:Nat),upsert (.str g.c) (.val (.slice (some ⟨r2,0,none⟩) (g.ids.length+1) cap2)) (gpE gs)=some (gpE (gs.set i ⟨g.c,g.ids++[f.id],r2,cap2⟩)):=fun r2 cap2=>by
    have:=gp_ups ⟨g.c,g.ids++[f.id],r2,cap2⟩ gs;rw[gpPut_at (g':=⟨g.c,g.ids++[f.id],r2,cap2⟩) hgi rfl hG.nd] at this;rw[<- this];unfold Gp.v;rw[List.length_append]; rfl
   have hgid:g.ids.length<=10:=by
    rw[(hG.at' g hgm).1];unfold idsF prtS;rw[List.length_map];have:=List.length_filter_le (fun f=>(classR r.pls f d).1 == g.c) (N.take j);rw[List.length_take] at this;omega
   have hpre:∀(id:Nat),500<=id->Ab.look id [(96,Blk.map (gpE gs)),(5,Blk.var r.cs)]=none:=fun id hid=>by rw[look_cons,if_neg (by omega),look_cons,if_neg (by omega),look_nil]
   refine aw_sem .nm (fun x:Nat×Nat=>g.ids.length+1<=x.2/\x.2<=maxLen)
    (fun x=>⟨227,[(2,.v (.str sd)),(4,.v (vi d)),(5,.p 5 0),(11,.v (ints (idsF N))),(13,.v (vi K)),(14,.v (ints S)),(16,.m 96),(97,.v (ints (idsF N))),(98,.v (vi N.length)),(99,.v (vi (j+1:Nat)))],
     ([(96,.map (gpE (gs.set i ⟨g.c,g.ids++[f.id],x.1,x.2⟩))),(5,.var r.cs)]++[(137,Gp.k 3 ⟨g.c,g.ids++[f.id],x.1,x.2⟩)])++(gpH 3 1000 (gs.take i)++gpH 3 (1001+i) (gs.drop (i+1))),[]⟩)
    (fun x=>⟨227,[(2,.v (.str sd)),(4,.v (vi d)),(5,.p 5 0),(11,.v (ints (idsF N))),(13,.v (vi K)),(14,.v (ints S)),(16,.m 96),(97,.v (ints (idsF N))),(98,.v (vi N.length)),(99,.v (vi (j+1:Nat)))],
     [(96,.map (gpE (gs.set i ⟨g.c,g.ids++[f.id],x.1,x.2⟩))),(5,.var r.cs)]++gpH 3 1000 (gs.set i ⟨g.c,g.ids++[f.id],x.1,x.2⟩),[]⟩) ?_ ?_ ?_
   ·intro E hE;refine aw_via (st2:=⟨227,[(2,.v (.str sd)),(4,.v (vi d)),(5,.p 5 0),(11,.v (ints (idsF N))),(13,.v (vi K)),(14,.v (ints S)),(16,.m 96),(97,.v (ints (idsF N))),(98,.v (vi N.length)),(99,.v (vi j))],([(96,.map (gpE gs)),(5,.var r.cs)]++[(500,g.k 3)])++(gpH 3 1000 (gs.take i)++gpH 3 (1001+i) (gs.drop (i+1))),[]⟩) (fun M F0 w0 F ρ a w X=> ?_) ?_
    ·obtain ⟨ρ',X'⟩:=gp_pre (H:=[(96,Blk.map (gpE gs)),(5,Blk.var r.cs)]) hgi hpre rfl X;exact ⟨F,ρ',X'⟩
    ·have hfrom:∀x∈labs 1000 (gs.take i)++labs (1001+i) (gs.drop (i+1)),1000<=x:=fun x hx=>by
      rcases List.mem_append.1 hx with hx | hx
      ·exact ((labs_mem _ _ _).1 hx).1
      ·have:=((labs_mem _ _ _).1 hx).1; omega
     refine aw_frx (e0:= .nm) (h1:=[(96,.map (gpE gs)),(5,.var r.cs),(500,.var (gpI g.ids) (some g.b) (some (3,1,g.cap)))]) (ids:=labs 1000 (gs.take i)++labs (1001+i) (gs.drop (i+1))) (φ:=fun x:Nat×Nat=>g.ids.length+1<=x.2/\x.2<=maxLen) (S:=fun x=>⟨227,[(2,.v (.str sd)),(4,.v (vi d)),(5,.p 5 0),(11,.v (ints (idsF N))),(13,.v (vi K)),(14,.v (ints S)),(16,.m 96),(97,.v (ints (idsF N))),(98,.v (vi N.length)),(99,.v (vi (j+1:Nat)))],
      [(96,.map (gpE (gs.set i ⟨g.c,g.ids++[f.id],x.1,x.2⟩))),(5,.var r.cs),(137,Gp.k 3 ⟨g.c,g.ids++[f.id],x.1,x.2⟩)],[]⟩) (ids_app (gpH_ids _ _) (gpH_ids _ _)) ?_ ?_ ?_ ?_
     ·intro E' hE';refine runW hix ?_;refine call hFd ?_;refine runW hxx ?_;refine call (den_Class (libC L) r.pls f d h.pls hff) ?_;refine runW (And.intro hcz (And.intro hce hfind')) ?_;simp only[hz,hokz,if_true];refine appO_r ?_;unfold appR;refine run ?_;refine ⟨.inr trivial,?_⟩;unfold growK;intro r2 cap2 hnm2 g1 g2;have e1:gpI g.ids++[[V.val (Value.int IntKind.i64 f.id)]].flatten=gpI (g.ids++[f.id]):=by simp
      have e2:g.ids.length+[[V.val (Value.int IntKind.i64 f.id)]].length=g.ids.length+1:=rfl;rw[e1,e2];rw[e2] at g1;refine runW (hups r2 cap2) ?_;refine hE' (r2,cap2) _ ⟨g1,g2⟩ ?_;refine sub_of [96,5,137] [2,4,5,11,13,14,16,97,98,99] rfl rfl rfl (fun id k e=> ?_) rfl;exact look_gp3 e
     ·exact fun x hx=>hE x _ hx (fun _ _ _ _ _ _ _ X=>X)
     ·refine fun x=>List.all_eq_true.2 fun y hy=> ?_;have:=hfrom y hy;rw[look_cons,if_neg (by omega),look_cons,if_neg (by omega),look_cons,if_neg (by omega),look_nil]; rfl
     ·refine List.all_eq_true.2 fun y hy=> ?_;have:=hfrom y hy
      show (Ab.look y [(96,Blk.map (gpE gs)),(5,Blk.var r.cs),(500,g.k 3)]).isNone=true
      rw[look_cons,if_neg (by omega),look_cons,if_neg (by omega),look_cons,if_neg (by omega),look_nil]; rfl
   ·intro x hx M F0 w0 F ρ a w X;obtain ⟨ρ',X'⟩:=gp_post (H:=[(96,.map (gpE (gs.set i ⟨g.c,g.ids++[f.id],x.1,x.2⟩))),(5,.var r.cs)]) hil' (show 137<500 by decide) rfl (fun id hid=>by rw[look_cons,if_neg (by omega),look_cons,if_neg (by omega),look_nil]) rfl X (by omega);exact ⟨F,ρ',X'⟩
   ·intro x hx;refine ⟨(j+1,gs.set i ⟨g.c,g.ids++[f.id],x.1,x.2⟩),⟨hlt,?_⟩,by show N.length-(j+1)<N.length-j; omega,?_⟩
    ·show GpOk r d (N.take (j+1)) _
     rw[htk];exact hG.at hgi hce hx.1 hx.2
    ·exact gp_keepS _ (by decide) (by decide) (by decide) rfl
  ·have hfind':findV (.str c) (gpE gs)=some none:=gp_find0 hno
   have hups:∀(r2 cap2:Nat),upsert (.str c) (.val (.slice (some ⟨r2,0,none⟩) 1 cap2)) (gpE gs)=some (gpE (gs++[⟨c,[f.id],r2,cap2⟩])):=fun r2 cap2=>by
    have:=gp_ups ⟨c,[f.id],r2,cap2⟩ gs;rw[gpPut_new (g':=⟨c,[f.id],r2,cap2⟩) hno] at this;exact this
   have hpre:∀(M:Blk) (id:Nat),500<=id->Ab.look id [(96,M),(5,Blk.var r.cs)]=none:=fun M id hid=>by rw[look_cons,if_neg (by omega),look_cons,if_neg (by omega),look_nil]
   refine aw_sem .nm (fun x:Nat×Nat=>1<=x.2/\x.2<=maxLen)
    (fun x=>⟨227,[(2,.v (.str sd)),(4,.v (vi d)),(5,.p 5 0),(11,.v (ints (idsF N))),(13,.v (vi K)),(14,.v (ints S)),(16,.m 96),(97,.v (ints (idsF N))),(98,.v (vi N.length)),(99,.v (vi (j+1:Nat)))],
     ([(96,.map (gpE (gs++[⟨c,[f.id],x.1,x.2⟩]))),(5,.var r.cs)]++[(137,Gp.k 3 ⟨c,[f.id],x.1,x.2⟩)])++gpH 3 1000 gs,[]⟩)
    (fun x=>⟨227,[(2,.v (.str sd)),(4,.v (vi d)),(5,.p 5 0),(11,.v (ints (idsF N))),(13,.v (vi K)),(14,.v (ints S)),(16,.m 96),(97,.v (ints (idsF N))),(98,.v (vi N.length)),(99,.v (vi (j+1:Nat)))],
     [(96,.map (gpE (gs++[⟨c,[f.id],x.1,x.2⟩]))),(5,.var r.cs)]++gpH 3 1000 (gs++[⟨c,[f.id],x.1,x.2⟩]),[]⟩) ?_ ?_ ?_
   ·intro E hE
    refine aw_frx (e0:= .nm) (h1:=[(96,.map (gpE gs)),(5,.var r.cs)]) (hr:=gpH 3 1000 gs) (ids:=labs 1000 gs) (φ:=fun x:Nat×Nat=>1<=x.2/\x.2<=maxLen) (S:=fun x=>⟨227,[(2,.v (.str sd)),(4,.v (vi d)),(5,.p 5 0),(11,.v (ints (idsF N))),(13,.v (vi K)),(14,.v (ints S)),(16,.m 96),(97,.v (ints (idsF N))),(98,.v (vi N.length)),(99,.v (vi (j+1:Nat)))],
      [(96,.map (gpE (gs++[⟨c,[f.id],x.1,x.2⟩]))),(5,.var r.cs),(137,Gp.k 3 ⟨c,[f.id],x.1,x.2⟩)],[]⟩) (gpH_ids _ _) ?_ ?_ ?_ ?_
    ·intro E' hE';refine runW hix ?_;refine call hFd ?_;refine runW hxx ?_;refine call (den_Class (libC L) r.pls f d h.pls hff) ?_;refine runW (And.intro hcz (And.intro hce hfind')) ?_;simp only[hz,hokz,if_true,hofv];refine appO_r ?_;unfold appR;refine run ?_;unfold growK;intro r2 cap2 hnm2 g1 g2;refine runW (hups r2 cap2) ?_;refine hE' (r2,cap2) _ ⟨g1,g2⟩ ?_;refine sub_of [96,5,137] [2,4,5,11,13,14,16,97,98,99] rfl rfl rfl (fun id k e=> ?_) rfl;exact look_gp3 e
    ·exact fun x hx=>hE x _ hx (fun _ _ _ _ _ _ _ X=>X)
    ·refine fun x=>List.all_eq_true.2 fun y hy=> ?_;have:=((labs_mem _ _ _).1 hy).1;rw[look_cons,if_neg (by omega),look_cons,if_neg (by omega),look_cons,if_neg (by omega),look_nil]; rfl
    ·refine List.all_eq_true.2 fun y hy=> ?_;have:=((labs_mem _ _ _).1 hy).1;rw[hpre _ y (by omega)]; rfl
   ·intro x hx M F0 w0 F ρ a w X;obtain ⟨ρ',X'⟩:=gp_new (H:=[(96,.map (gpE (gs++[⟨c,[f.id],x.1,x.2⟩]))),(5,.var r.cs)]) (show 137<500 by decide) rfl (hpre _) rfl X hgl9;exact ⟨F,ρ',X'⟩
   ·intro x hx;refine ⟨(j+1,gs++[⟨c,[f.id],x.1,x.2⟩]),⟨hlt,?_⟩,by show N.length-(j+1)<N.length-j; omega,?_⟩
    ·show GpOk r d (N.take (j+1)) _
     rw[htk];exact hG.new hno hce hx.1 hx.2
    ·exact gp_keepS _ (by decide) (by decide) (by decide) rfl
 ·have hjN:j=N.length:=by omega
  subst hjN;rw[List.take_length] at hG;have hids:∀f∈N,scrR sd f.id=(scrD sd f.id,0):=fun f hf=>scr_ok hnm hk (hcm f hf).1;refine aw_via (st2:=⟨227,[(2,.v (.str sd)),(4,.v (vi d)),(5,.p 5 0),(11,.v (ints (idsF N))),(13,.v (vi K)),(14,.v (ints S)),(16,.m 96),(97,.v (ints (idsF N))),(98,.v (vi N.length)),(99,.v (vi N.length))],[(96,.map (gs.map Gp.f)),(5,.var r.cs)],[]⟩) (fun M F0 w0 F ρ a w X=> ?_) ?_
  ·obtain ⟨F',X'⟩:=gp_frz (H:=[(5,.var r.cs)]) (m:=96) (by decide) (fun id hid=>by rw[look_cons,if_neg (by omega),look_nil]) rfl gs 1000 [] F (Nat.le_refl _) (fun g hg=>⟨(hG.at' g hg).2.2.1,(hG.at' g hg).2.2.2⟩) rfl X;exact ⟨F',ρ,X'⟩
  have hR0:∀kv∈gs.map Gp.f,∃c,kv.2=ints (idsF (prtS r d N c))/\prtS r d N c≠[]:=fun kv hkv=>by
   obtain ⟨g,hg,rfl⟩:=List.mem_map.1 hkv;obtain ⟨a1,a2,-,-⟩:=hG.at' g hg;refine ⟨g.c,?_,fun e=>a2 (by rw[a1,e]; rfl)⟩
   show V.slice 1 (chunk 0 g.ids.length 1 (gpI g.ids))=_
   rw[show gpI g.ids=g.ids.map vint from rfl,ints_chunk11,<- a1]
  have hu:Tryz.prog.underlying 64=some (.map 9 39):=by kernel_rfl
  refine run ?_
  refine loop ⟨[2,11,13,14,140],[140],[],[]⟩ (fun y:List (V×V)×Option (V×V)=>∀kv∈y.1,∃c,kv.2=ints (idsF (prtS r d N c))/\prtS r d N c≠[]) (fun y=>y.1.length)
   (fun y=>⟨227,[(2,.v (.str sd)),(11,.v (ints (idsF N))),(13,.v (vi K)),(14,.v (ints S)),(140,.p 140 0)],[(140,.itr y.1 y.2)],[]⟩) (gs.map Gp.f,none) hR0 ?_
  rintro ⟨es,cur⟩ hE;simp only at hE;refine run ?_;refine ⟨fun he=> ?_,fun i k v hi=> ?_⟩
  ·refine run ?_;exact fin rfl
  ·obtain ⟨c,hv,hne⟩:=hE (k,v) (List.mem_of_getElem? hi);simp only at hv;subst hv;have hil2:=(List.getElem?_eq_some_iff.1 hi).1;obtain ⟨p1,p2,p3⟩:=hpart c hne;have hPN:∀f∈prtS r d N c,f∈N:=fun f hf=>(List.mem_filter.1 hf).1;have hPl:(prtS r d N c).length<=N.length:=List.length_filter_le _ _;obtain ⟨Q,hQ⟩:∃Q,prtS r d N c=Q:=⟨_,rfl⟩;rw[hQ] at p1 p2 p3 hPN hPl ⊢;have hql:(idsF Q).length=Q.length:=by unfold idsF; rw[List.length_map]
   refine run ?_
   refine loop ⟨[2,11,13,14,23,24,25,140,145,146,147],[140],[],[]⟩ (fun y:Nat×Str=>y.1<=Q.length/\(y.2=[]\/∃g∈Q,B g=true/\y.2=scrD sd g.id)) (fun y=>Q.length-y.1)
    (fun y=>⟨227,[(2,.v (.str sd)),(11,.v (ints (idsF N))),(13,.v (vi K)),(14,.v (ints S)),(23,.v (ints (idsF Q))),(24,.v (vi ((Q.take y.1).countP B:Nat))),(25,.v (.str y.2)),(140,.p 140 0),(145,.v (ints (idsF Q))),(146,.v (vi Q.length)),(147,.v (vi y.1))],
     [(140,.itr (es.eraseIdx i) (some (k,ints (idsF Q))))],[]⟩) (0,[]) ⟨Nat.zero_le _,.inl rfl⟩ ?_ (by rw[<- hql]; rfl)
   rintro ⟨j,w⟩ ⟨hj2,hw⟩;simp only at hj2 hw;by_cases hlt2:j<Q.length
   ·obtain ⟨f,hf,-,hfm⟩:=drop_at hlt2;have hix:(idsF Q)[j]? = some f.id:=by unfold idsF; rw[List.getElem?_map,hf]; rfl
    have hcn:(Q.take (j+1)).countP B=(Q.take j).countP B+if B f=true then 1 else 0:=by
     obtain ⟨h1,rfl⟩:=List.getElem?_eq_some_iff.1 hf;rw[List.take_succ_eq_append_getElem h1,List.countP_append,List.countP_singleton]
    have hcl2:(Q.take j).countP B<=10:=by
     have:=List.countP_le_length (p:=B) (l:=Q.take j);rw[List.length_take] at this;omega
    have hS10:S.length<=1048576:=by omega
    have hlx:((j:Int)<(Q.length:Int))=True:=eq_true (by omega);refine runW (And.intro hix hlx) ?_;refine call (den_hasInt S f.id hS10) ?_;rw[<- hchs f];obtain ⟨X,hX⟩:∃X,(Q.take j).countP B=X:=⟨_,rfl⟩;rw[hX] at hcn hcl2 ⊢;cases hb:B f
    ·rw[hb,if_neg (by decide),Nat.add_zero] at hcn;refine run ?_;refine round (j+1,w) ⟨hlt2,hw⟩ (by simp only; omega) ?_;simp only[hcn];rfl
    ·rw[hb,if_pos rfl] at hcn;refine run ?_;have hSc:=den_Score (T:=T) L sd f.id (by omega);rw[hids f (hPN f hfm)] at hSc;refine call hSc ?_;obtain ⟨D,hD⟩:∃D,scrD sd f.id=D:=⟨_,rfl⟩;rw[hD];cases hgt:(Op.bytesLess D w || D == w)
     ·refine runW hgt ?_;refine round (j+1,D) ⟨hlt2,.inr ⟨f,hfm,hb,hD.symm⟩⟩ (by simp only; omega) ?_;simp only[hcn];rfl
     ·refine runW hgt ?_;refine round (j+1,w) ⟨hlt2,hw⟩ (by simp only; omega) ?_;simp only[hcn];rfl
   ·have hjQ:j=Q.length:=by omega
    subst hjQ;rw[List.take_length];have hcl2:Q.countP B<=Q.length:=List.countP_le_length;obtain ⟨X,hX⟩:∃X,Q.countP B=X:=⟨_,rfl⟩;rw[hX] at p1 p2 hcl2 ⊢;obtain ⟨m1,hm1⟩:∃m1:Nat,X*N.length=m1:=⟨_,rfl⟩;obtain ⟨m2,hm2⟩:∃m2:Nat,K*Q.length=m2:=⟨_,rfl⟩;have hm1l:m1<=100:=by rw[<- hm1]; exact Nat.mul_le_mul (show X<=10 by omega) hNl
    have hm2l:m2<=100:=by rw[<- hm2]; exact Nat.mul_le_mul (show K<=10 by omega) (show Q.length<=10 by omega)
    have hM1:(X:Int)*(N.length:Int)=(m1:Int):=by rw[<- hm1]; exact (Int.natCast_mul _ _).symm
    have hM2:(K:Int)*(Q.length:Int)=(m2:Int):=by rw[<- hm2]; exact (Int.natCast_mul _ _).symm
    rw[hM1,hM2] at p1 p2;have q1:((m2:Int)+(N.length:Int)-1<(m1:Int))=False:=eq_false (by omega);have q2:((m1:Int)<(m2:Int)-(N.length:Int)+1)=False:=eq_false (by omega);have hlx:((Q.length:Int)<(Q.length:Int))=False:=eq_false (by omega);refine runW (And.intro hM1 (And.intro hM2 (And.intro q1 (And.intro q2 (And.intro hil hql))))) ?_
    refine loop ⟨[2,11,13,14,24,25,140,197,198,199],[140],[],[]⟩ (fun y:Nat=>y<=Q.length) (fun y=>Q.length-y)
     (fun y=>⟨227,[(2,.v (.str sd)),(11,.v (ints (idsF N))),(13,.v (vi K)),(14,.v (ints S)),(24,.v (vi X)),(25,.v (.str w)),(140,.p 140 0),(197,.v (ints (idsF Q))),(198,.v (vi Q.length)),(199,.v (vi y))],
      [(140,.itr (es.eraseIdx i) (some (k,ints (idsF Q))))],[]⟩) 0 (Nat.zero_le _) ?_ (by first | rfl | (rw[<- hql]; rfl))
    intro z hz3;by_cases hlt3:z<Q.length
    ·obtain ⟨f,hf,-,hfm⟩:=drop_at hlt3;have hix:(idsF Q)[z]? = some f.id:=by unfold idsF; rw[List.getElem?_map,hf]; rfl
     have hlx3:((z:Int)<(Q.length:Int))=True:=eq_true (by omega);have hS10:S.length<=1048576:=by omega
     have hSc:=den_Score (T:=T) L sd f.id (by omega);rw[hids f (hPN f hfm)] at hSc
     have hnl:B f=false->Op.bytesLess (scrD sd f.id) w=false:=fun hb=>by
      rcases hw with rfl | ⟨g,hg,hbg,rfl⟩
      ·exact scr_no
      ·exact p3 f hfm g hg hb hbg
     refine runW (And.intro hix hlx3) ?_;refine call hSc ?_;refine run ?_;refine call (den_hasInt S f.id hS10) ?_;rw[<- hchs f];cases hb:B f
     ·have hnl':=hnl hb;by_cases hX0:0<(X:Int)
      ·refine runW (And.intro hnl' (eq_true hX0)) ?_;exact round (z+1) hlt3 (by omega)
      ·refine runW (And.intro hnl' (eq_false hX0)) ?_;exact round (z+1) hlt3 (by omega)
     ·refine run ?_;exact round (z+1) hlt3 (by omega)
    ·have hlx3:((z:Int)<(Q.length:Int))=False:=eq_false (by omega);refine runW hlx3 ?_;refine round (es.eraseIdx i,some (k,ints (idsF Q))) (fun kv hkv=>hE kv (List.mem_of_mem_eraseIdx hkv)) ?_
     show (es.eraseIdx i).length<es.length
     rw[List.length_eraseIdx_of_lt hil2];omega
end Go.Arc
