/- A part of this claim. -/
import Derived.Test.YtdljpbdmcgmalaaGreatDoorBaY
set_option maxRecDepth 100000
namespace Go.Arc
open Go.Ab Go.RowKit Go.Proofs Tryz
variable {T : Lay}
theorem flat_int:∀l:List Int,(l.map Cint).flatten=l.map vint
 | []=>rfl
 | x::r=>by rw[List.map_cons,List.flatten_cons,flat_int r]; rfl
set_option maxHeartbeats 4000000 in
theorem denS_elements (r:Rgs) (h:r.Fit) (l:List Elm) (hl:l.length<=1048576) (hl2:∀x∈l,x.fls.length<=1048576) (pre:List Elm) (ps:List (Int×Bool)) (hps:∀n,getG ps n=jaj pre n) (b:Nat):
   DenS prog T 90 (gBlk ps b) [] [.v (.agg r.cs),.v (elms l),.m 999000] (gBlk (if 1024<l.length then ps else elsM r.fls pre none ps l) b) [] (.v (vi (jb7 r.fls pre l))):=by
  refine jes follows (fun args w=>call90 args w) func90 rfl 101 rfl rfl ?_;unfold jb7;by_cases hbig:1024<l.length
  · rw[if_pos hbig,if_pos hbig];refine runW (ai (one_map' (some b)) (eq_true hbig)) ?_;exact z7
  rw[if_neg hbig,if_neg hbig];refine runW (ai (one_map' (some b)) (eq_false hbig)) ?_;refine jhi 3 ?_;refine jhi 5 ?_
  have hstep:∀k x,l[k]? = some x->elsE r.fls pre none l=elsE r.fls (pre++l.take k) (jay l k) (l.drop k)->elsM r.fls pre none ps l=elsM r.fls (pre++l.take k) (jay l k) (psAt ps l k) (l.drop k)->
      (∀n,elmE r.fls (pre++l.take k) (jay l k) x=n->n≠0->elsE r.fls pre none l=n/\elsM r.fls pre none ps l=psAt ps l k)/\
      (elmE r.fls (pre++l.take k) (jay l k) x=0->elsE r.fls pre none l=elsE r.fls (pre++l.take (k+1)) (jay l (k+1)) (l.drop (k+1))/\elsM r.fls pre none ps l=elsM r.fls (pre++l.take (k+1)) (jay l (k+1)) (psAt ps l (k+1)) (l.drop (k+1))):=fun k x hx h1 h2=>by
    have e1:=elsE_step (fs:=r.fls) hx (pre++l.take k) (jay l k);have e2:=elsM_step (fs:=r.fls) hx (pre++l.take k) (jay l k) (psAt ps l k);refine ⟨fun n hn h0=> ?_,fun h0=> ?_⟩
    · subst hn;rw[if_pos h0] at e1 e2;exact ⟨h1.trans e1,h2.trans e2⟩
    · rw[if_neg (by rw[h0]; decide)] at e1 e2;rw[List.append_assoc,<- jm6 hx] at e1 e2;rw[<- jpe ps hx] at e2;rw[jrc hx];exact ⟨h1.trans e1,h2.trans e2⟩
  refine loop ⟨[1,3,5,15,16,17],[3,5,999000],[],[]⟩ (fun k:Nat=>k<=l.length/\elsE r.fls pre none l=elsE r.fls (pre++l.take k) (jay l k) (l.drop k)/\elsM r.fls pre none ps l=elsM r.fls (pre++l.take k) (jay l k) (psAt ps l k) (l.drop k)/\∀n,getG (psAt ps l k) n=jaj (pre++l.take k) n) (fun k=>l.length-k)
    (fun k=>⟨101,[(1,.v (elms l)),(3,.p 3 0),(5,.p 5 0),(15,.v (elms l)),(16,.v (vi l.length)),(17,.v (vi k))],[(3,.con r.cs),(5,.con [.val (.map (some b))]),(999000,.map (mapG (psAt ps l k)) (some b))],[]⟩) 0
    ⟨Nat.zero_le _,by rw[List.take_zero,List.append_nil]; rfl,by rw[List.take_zero,List.append_nil]; rfl,fun n=>by rw[List.take_zero,List.append_nil]; exact hps n⟩ ?_
  rintro k ⟨hk,h1,h2,hg⟩;by_cases hlt:k<l.length
  · obtain ⟨x,hx,-,hm⟩:=ja1 hlt;have hxf:=hl2 x hm;obtain ⟨hbad,hnext⟩:=hstep k x hx h1 h2;have hgn:=get_gone hg x;rw[<- jpe ps hx,List.append_assoc,<- jm6 hx] at hgn;have hps1:=jpe ps hx;obtain ⟨qs,hqs⟩:∃qs,psAt ps l k=qs:=⟨_,rfl⟩;rw[hqs] at hbad hg hps1 ⊢;refine runD hx ?_;refine jat [⟨[ff,ff,ff,ff,ff,ff,ff,ff,ff,ff,ff,ff,ff,ff,ff],15,.one 0 0⟩,⟨[tt,ff,ff,ff,ff,ff,ff,ff,ff,ff,ff,ff,ff,ff,ff],14,.alt [(1,0)]⟩,⟨[tt,tt,ff,ff,ff,ff,ff,ff,ff,ff,ff,ff,ff,ff,ff],13,.alt [(2,0)]⟩,⟨[tt,tt,tt,ff,ff,ff,ff,ff,ff,ff,ff,ff,ff,ff,ff],12,.one 3 0⟩,⟨[tt,tt,tt,tt,ff,ff,ff,ff,ff,ff,ff,ff,ff,ff,ff],11,.alt [(4,0),(9,1)]⟩,⟨[tt,tt,tt,tt,tt,ff,ff,ff,ff,ff,ff,ff,ff,ff,ff],10,.alt [(5,1),(9,3)]⟩,⟨[tt,tt,tt,tt,ff,ff,ff,ff,ff,tt,ff,ff,ff,ff,ff],10,.alt [(4,2),(10,1)]⟩,⟨[tt,tt,tt,tt,tt,tt,ff,ff,ff,ff,ff,ff,ff,ff,ff],9,.alt [(6,3),(9,2)]⟩,⟨[tt,tt,tt,tt,ff,ff,ff,ff,ff,tt,tt,ff,ff,ff,ff],9,.alt [(4,3),(11,4)]⟩,⟨[tt,tt,tt,tt,tt,ff,ff,ff,ff,tt,ff,ff,ff,ff,ff],9,.alt [(5,0),(10,2)]⟩,⟨[tt,tt,tt,tt,tt,tt,ff,ff,ff,tt,ff,ff,ff,ff,ff],8,.alt [(6,3),(10,4)]⟩,⟨[tt,tt,tt,tt,tt,tt,tt,ff,ff,ff,ff,ff,ff,ff,ff],8,.alt [(7,4),(9,2)]⟩,⟨[tt,tt,tt,tt,tt,ff,ff,ff,ff,tt,tt,ff,ff,ff,ff],8,.alt [(5,2),(11,4)]⟩,⟨[tt,tt,tt,tt,ff,ff,ff,ff,ff,tt,tt,tt,ff,ff,ff],8,.alt [(4,3)]⟩,⟨[tt,tt,tt,tt,tt,tt,tt,ff,ff,tt,ff,ff,ff,ff,ff],7,.alt [(7,5),(10,4)]⟩,⟨[tt,tt,tt,tt,tt,tt,ff,ff,ff,tt,tt,ff,ff,ff,ff],7,.alt [(6,3),(11,5)]⟩,⟨[tt,tt,tt,tt,tt,tt,tt,tt,ff,ff,ff,ff,ff,ff,ff],7,.alt [(8,1),(9,3)]⟩,⟨[tt,tt,tt,tt,tt,ff,ff,ff,ff,tt,tt,tt,ff,ff,ff],7,.alt [(5,3)]⟩,⟨[tt,tt,tt,tt,tt,tt,tt,tt,tt,ff,ff,ff,ff,ff,ff],6,.alt [(9,3)]⟩,⟨[tt,tt,tt,tt,tt,tt,tt,ff,ff,tt,tt,ff,ff,ff,ff],6,.alt [(7,4),(11,3)]⟩,⟨[tt,tt,tt,tt,tt,tt,tt,tt,ff,tt,ff,ff,ff,ff,ff],6,.alt [(8,1),(10,3)]⟩,⟨[tt,tt,tt,tt,tt,tt,ff,ff,ff,tt,tt,tt,ff,ff,ff],6,.alt [(6,1)]⟩,⟨[tt,tt,tt,tt,tt,tt,tt,tt,tt,tt,ff,ff,ff,ff,ff],5,.alt [(10,3)]⟩,⟨[tt,tt,tt,tt,tt,tt,tt,ff,ff,tt,tt,tt,ff,ff,ff],5,.alt [(7,1)]⟩,⟨[tt,tt,tt,tt,tt,tt,tt,tt,ff,tt,tt,ff,ff,ff,ff],5,.alt [(8,1),(11,0)]⟩,⟨[tt,tt,tt,tt,tt,tt,tt,tt,ff,tt,tt,tt,ff,ff,ff],4,.alt [(8,1)]⟩,⟨[tt,tt,tt,tt,tt,tt,tt,tt,tt,tt,tt,ff,ff,ff,ff],4,.alt [(11,0)]⟩,⟨[tt,tt,tt,tt,tt,tt,tt,tt,tt,tt,tt,tt,ff,ff,ff],3,.alt [(12,0)]⟩,⟨[tt,tt,tt,tt,tt,tt,tt,tt,tt,tt,tt,tt,tt,ff,ff],2,.alt [(13,0)]⟩,⟨[tt,tt,tt,tt,tt,tt,tt,tt,tt,tt,tt,tt,tt,tt,ff],1,.alt [(14,0)]⟩,⟨[tt,tt,tt,tt,tt,tt,tt,tt,tt,tt,tt,tt,tt,tt,tt],0,.fin⟩] ?_
    refine jea (fun _:Unit=>True) ⟨[1,3,5,7,8,9,15,16,17],[3,5,8,999000],[],[]⟩ (fun _=>⟨101,[(1,.v (elms l)),(3,.p 3 0),(5,.p 5 0),(7,.v (vi k)),(8,.p 8 0),(9,.v (vb (risI x.fls))),(15,.v (elms l)),(16,.v (vi l.length)),(17,.v (vi k))],
      [(3,.con r.cs),(5,.con [.val (.map (some b))]),(8,.var [vi x.id,vi x.day,ints x.fls,vb x.gone]),(999000,.map (mapG qs) (some b))],[]⟩) (fun st st' hk h=>jbx _ hk h) (fun _ _=> ?_) (fun K' hK=> ?_)
    · obtain ⟨φ,hφ⟩:∃ φ:Prop,φ↔elmE r.fls (pre++l.take k) (jay l k) x=0:=⟨_,Iff.rfl⟩
      refine aw_mid ⟨[1,3,5,8,15,16,17],[3,5,8,999000],[],[]⟩ φ ⟨101,[(1,.v (elms l)),(3,.p 3 0),(5,.p 5 0),(8,.p 8 0),(15,.v (elms l)),(16,.v (vi l.length)),(17,.v (vi k))],
        [(3,.con r.cs),(5,.con [.val (.map (some b))]),(8,.var [vi x.id,vi x.day,ints x.fls,vb x.gone]),(999000,.map (mapG qs) (some b))],[]⟩ ?_ (fun h0=> ?_)
      · have hmr:=mid_rt
        have hE2:∀n,(idB x.id=false\/dayG x.day=false)->n=2->elsE r.fls pre none l=n/\elsM r.fls pre none ps l=qs:=fun n hn h2=>by
          subst h2;refine hbad 2 ?_ dc;unfold elmE;rw[if_pos hn]
        by_cases g1:x.id<1
        · obtain ⟨e1,e2⟩:=hE2 2 (.inl (by unfold idB; exact decide_eq_false om)) rfl;rw[e1,e2];refine runW (ai hmr (eq_true g1)) ?_;exact z7
        by_cases g2:1073741824<x.id
        · obtain ⟨e1,e2⟩:=hE2 2 (.inl (by unfold idB; exact decide_eq_false om)) rfl;rw[e1,e2];refine runW (ai hmr (ai (eq_false g1) (eq_true g2))) ?_;exact z7
        refine rcW (ai (eq_false g1) (eq_false g2)) (jrl x.day) ?_;cases g3:dayG x.day
        · obtain ⟨e1,e2⟩:=hE2 2 (.inr g3) rfl;exact zb3
        have hok:¬(idB x.id=false\/dayG x.day=false):=by
          rintro (e | e)
          · unfold idB at e;have:=of_decide_eq_false e;omega
          · rw[g3] at e; cases e
        clear hE2;refine rc (jkl x.fls _ _ (fun f=> !hasF r.fls f) hxf fun f _=>den_elements1 r h f) ?_;rw[any_notF];cases g4:x.fls.all (hasF r.fls)
        · obtain ⟨e1,e2⟩:=hbad 7 (by unfold elmE; rw[if_neg hok,if_pos g4]) dc;exact zb3
        have h7:¬x.fls.all (hasF r.fls)=false:=by rw[g4]; decide
        have hr5:elmE r.fls (pre++l.take k) (jay l k) x=if risI x.fls=false\/(match jay l k with | some q=>decide (x.day<q.day) | none=>false)=true then 5 else if x.gone=true/\x.fls.any (jaj (pre++l.take k))=true then 6 else 0:=by
          unfold elmE;rw[if_neg hok,if_neg h7];rfl
        cases g5:risI x.fls
        · rw[if_pos (.inl g5)] at hr5;obtain ⟨e1,e2⟩:=hbad 5 hr5 dc;exact zb3
        have hany:x.fls.any (getG qs)=x.fls.any (jaj (pre++l.take k)):=any_eqI _ _ _ fun n _=>hg n;by_cases hk0:k=0
        · subst hk0;rw[if_neg (show ¬(risI x.fls=false\/(match jay l 0 with | some q=>decide (x.day<q.day) | none=>false)=true) by rw[g5]; rintro (e | e) <;> cases e)] at hr5;cases g7:x.gone
          · rw[g7,if_neg (fun e=>by cases e.1)] at hr5;refine runW (ai hmr hx) ?_;exact midK (hφ.mpr hr5)
          · refine runW (ai hmr hx) ?_;refine jdv (callS [(999000,999000)] (jrv x.fls _ _ (getG qs) qs b hxf fun f _=>jqk qs b f) (.cons (.v _) (.cons (.v _) .nil)) ?_ ?_)
            · exact zg
            rw[hany];cases g8:x.fls.any (jaj (pre++l.take 0))
            · exact zdk
            · exact zea
        · obtain ⟨y,hy,-,-⟩:=ja1 (l:=l) (k:=k-1) om;have hpos:(0:Int)<k:=om
          have hla:jay l k=some y:=by unfold jay; rw[if_neg hk0,hy]
          by_cases hlt2:x.day<y.day
          · rw[if_pos (show risI x.fls=false\/(match jay l k with | some q=>decide (x.day<q.day) | none=>false)=true from .inr (by rw[hla]; exact decide_eq_true hlt2))] at hr5;obtain ⟨e1,e2⟩:=hbad 5 hr5 dc;rw[e1,e2];refine runW (ai hmr (ai hx (ai hy (ai (eq_true hpos) (eq_true hlt2))))) ?_;exact z7
          rw[if_neg (show ¬(risI x.fls=false\/(match jay l k with | some q=>decide (x.day<q.day) | none=>false)=true) by
            rw[g5,hla];rintro (e | e)
            · cases e
            · exact hlt2 (of_decide_eq_true e))] at hr5
          cases g7:x.gone
          · rw[g7,if_neg (fun e=>by cases e.1)] at hr5;refine runW (ai hmr (ai hx (ai hy (ai (eq_true hpos) (eq_false hlt2))))) ?_;exact midK (hφ.mpr hr5)
          · refine runW (ai hmr (ai hx (ai hy (ai (eq_true hpos) (eq_false hlt2))))) ?_;refine jdv (callS [(999000,999000)] (jrv x.fls _ _ (getG qs) qs b hxf fun f _=>jqk qs b f) (.cons (.v _) (.cons (.v _) .nil)) ?_ ?_)
            · exact zg
            rw[hany];cases g8:x.fls.any (jaj (pre++l.take k))
            · exact zdk
            · exact zea
      · obtain ⟨n1,n2⟩:=hnext (hφ.mp h0);refine run ?_
        refine loop ⟨[1,3,5,8,15,16,17,84,85,86],[3,5,8,999000],[],[]⟩ (fun j:Nat=>j<=x.fls.length) (fun j=>x.fls.length-j)
          (fun j=>⟨101,[(1,.v (elms l)),(3,.p 3 0),(5,.p 5 0),(8,.p 8 0),(15,.v (elms l)),(16,.v (vi l.length)),(17,.v (vi k)),(84,.v (ints x.fls)),(85,.v (vi x.fls.length)),(86,.v (vi j))],
            [(3,.con r.cs),(5,.con [.val (.map (some b))]),(8,.var [vi x.id,vi x.day,ints x.fls,vb x.gone]),(999000,.map (mapG (addG qs (x.fls.take j) x.gone)) (some b))],[]⟩) 0 (Nat.zero_le _) ?_
        intro j hj;by_cases hjl:j<x.fls.length
        · obtain ⟨f,hf,-,-⟩:=ja1 hjl;have hsn:=add_snoc qs x.gone hf;obtain ⟨zs,hzs⟩:∃zs,addG qs (x.fls.take j) x.gone=zs:=⟨_,rfl⟩;rw[hzs] at hsn ⊢;have f1:=jpr f zs;have f2:=findG_get zs f;have f3:=jr5 f (getG zs f || x.gone) zs;cases g9:getG zs f
          · rw[g9] at f2 f3 hsn;rw[Bool.false_or] at f3 hsn;exact zds
          · rw[g9] at f2 f3 hsn;rw[Bool.true_or] at f3 hsn;exact zds
        · have hjl:j=x.fls.length:=om
          subst hjl;rw[List.take_length,<- hps1];refine run ?_;exact round (k+1) ⟨hlt,n1,n2,hgn⟩ om
    · have hr:=rise_eq x.fls;refine jab trivial ?_;refine call (den_sortedI x.fls hxf) ?_;cases hs:srtI x.fls
      · rw[hs,Bool.false_and] at hr;rw[<- hr] at hK;exact zdt
      · rw[hs,Bool.true_and] at hr;refine jab trivial ?_;rw[<- hr] at hK;by_cases hz:x.fls=[]
        · rw[hz] at hK ⊢
          repeat' (with_reducible refine ai ?_ ?_)
          all_goals
            refine callN (jqr [] dc) (fun _=> ?_) (fun h=>absurd rfl h);refine jab trivial ?_
            repeat' (with_reducible refine ai ?_ ?_)
            all_goals
              refine call den_compact0 ?_;exact zdt
        · repeat' (with_reducible refine ai ?_ ?_)
          all_goals
            refine callN (jqr x.fls hxf) (fun h=>absurd (List.map_eq_nil_iff.1 h) hz) (fun _=> ?_);refine jab (flat_int x.fls) ?_
            repeat' (with_reducible refine ai ?_ ?_)
            all_goals
              refine callM 28 (denM_compact x.fls hxf hz) ?_;exact zdt
  · have hkl:k=l.length:=om
    subst hkl;rw[List.drop_length] at h1 h2;rw[h1,h2];refine run ?_;exact z7
end Go.Arc
