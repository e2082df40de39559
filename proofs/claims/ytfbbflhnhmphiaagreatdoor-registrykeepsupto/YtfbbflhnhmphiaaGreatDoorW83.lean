/- A part of this claim. -/
import Derived.Test.YtfbbflhnhmphiaaGreatDoorBaY
set_option maxHeartbeats 4000000
set_option maxRecDepth 100000
namespace Go.Arc
open Go.Ab Go.RowKit Go.Proofs Tryz
variable {T : Lay}
theorem jza:∀l:List Int,(l.map Cint).flatten=l.map vint
 |[]=>rfl
 |x::r=>by rw[vy,List.flatten_cons,jza r];rfl
theorem qg2(r:Rgs)(h:r.Fit)(l:List Elm)(hl:l.length<=1048576)(hl2:∀x∈l,x.fls.length<=1048576)(pre:List Elm)(ps:List (Int×Bool))(hps:∀n,getG ps n=cj pre n)(b:Nat):
   DenS prog T 114 (gBlk ps b) [] [.v (.agg r.cs),.v (elms l),.m 999000] (gBlk (if 1024<l.length then ps else elsM r.fls pre none ps l) b) [] (.v (vi (eg r.fls pre l))):=by
  refine bx follows (fun args w=>call114 args w) func114 rfl 101 rfl rfl ?_;unfold eg;by_cases hbig:1024<l.length
  . rw[ve hbig,ve hbig];refine runW (ai (jys (some b)) (vg hbig)) ?_;exact z7
  rw[vd hbig,vd hbig];refine runW (ai (jys (some b)) (vf hbig)) ?_;refine jco 3 ?_;refine jco 5 ?_
  have hstep:∀k x,l[k]?=some x->elsE r.fls pre none l=elsE r.fls (pre++l.take k) (fk l k) (l.drop k)->elsM r.fls pre none ps l=elsM r.fls (pre++l.take k) (fk l k) (psAt ps l k) (l.drop k)->
      (∀n,elmE r.fls (pre++l.take k) (fk l k) x=n->n≠0->elsE r.fls pre none l=n/\elsM r.fls pre none ps l=psAt ps l k)/\
      (elmE r.fls (pre++l.take k) (fk l k) x=0->elsE r.fls pre none l=elsE r.fls (pre++l.take (k+1)) (fk l (k+1)) (l.drop (k+1))/\elsM r.fls pre none ps l=elsM r.fls (pre++l.take (k+1)) (fk l (k+1)) (psAt ps l (k+1)) (l.drop (k+1))):=fun k x hx h1 h2=>by
    have e1:=qnp (fs:=r.fls) hx (pre++l.take k) (fk l k);have e2:=qno (fs:=r.fls) hx (pre++l.take k) (fk l k) (psAt ps l k);refine⟨fun n hn h0=>?_,fun h0=>?_⟩
    . subst hn;rw[ve h0] at e1 e2;exact⟨h1.trans e1,h2.trans e2⟩
    rw[vd (by rw[h0];decide)] at e1 e2;rw[xb,<- jkd hx] at e1 e2;rw[<- jlo ps hx] at e2;rw[qhl hx];exact⟨h1.trans e1,h2.trans e2⟩
  refine loop ⟨[1,3,5,15,16,17],[3,5,999000],[],[]⟩ (fun k:Nat=>k<=l.length/\elsE r.fls pre none l=elsE r.fls (pre++l.take k) (fk l k) (l.drop k)/\elsM r.fls pre none ps l=elsM r.fls (pre++l.take k) (fk l k) (psAt ps l k) (l.drop k)/\∀n,getG (psAt ps l k) n=cj (pre++l.take k) n) (fun k=>l.length-k)
    (fun k=>⟨101,[(1,.v (elms l)),(3,.p 3 0),(5,.p 5 0),(15,.v (elms l)),(16,.v (vi l.length)),(17,.v (vi k))],[(3,.con r.cs),(5,.con [.val (.map (some b))]),(999000,.map (mapG (psAt ps l k)) (some b))],[]⟩) 0
    ⟨vj _,by rw[List.take_zero,xd];rfl,by rw[List.take_zero,xd];rfl,fun n=>by rw[List.take_zero,xd];exact hps n⟩ ?_
  rintro k ⟨hk,h1,h2,hg⟩;by_cases hlt:k<l.length
  . obtain⟨x,hx,-,hm⟩:=af hlt;have hxf:=hl2 x hm;obtain⟨hbad,hnext⟩:=hstep k x hx h1 h2;have hgn:=jz7 hg x;rw[<- jlo ps hx,xb,<- jkd hx] at hgn;have hps1:=jlo ps hx;obtain⟨qs,hqs⟩:∃qs,psAt ps l k=qs:=⟨_,rfl⟩;rw[hqs] at hbad hg hps1 ⊢;refine runD hx ?_;refine aq [⟨[ff,ff,ff,ff,ff,ff,ff,ff,ff,ff,ff,ff,ff,ff,ff],15,.one 0 0⟩,⟨[tt,ff,ff,ff,ff,ff,ff,ff,ff,ff,ff,ff,ff,ff,ff],14,.alt [(1,0)]⟩,⟨[tt,tt,ff,ff,ff,ff,ff,ff,ff,ff,ff,ff,ff,ff,ff],13,.alt [(2,0)]⟩,⟨[tt,tt,tt,ff,ff,ff,ff,ff,ff,ff,ff,ff,ff,ff,ff],12,.one 3 0⟩,⟨[tt,tt,tt,tt,ff,ff,ff,ff,ff,ff,ff,ff,ff,ff,ff],11,.alt [(4,0),(9,1)]⟩,⟨[tt,tt,tt,tt,tt,ff,ff,ff,ff,ff,ff,ff,ff,ff,ff],10,.alt [(5,1),(9,3)]⟩,⟨[tt,tt,tt,tt,ff,ff,ff,ff,ff,tt,ff,ff,ff,ff,ff],10,.alt [(4,2),(10,1)]⟩,⟨[tt,tt,tt,tt,tt,tt,ff,ff,ff,ff,ff,ff,ff,ff,ff],9,.alt [(6,3),(9,2)]⟩,⟨[tt,tt,tt,tt,ff,ff,ff,ff,ff,tt,tt,ff,ff,ff,ff],9,.alt [(4,3),(11,4)]⟩,⟨[tt,tt,tt,tt,tt,ff,ff,ff,ff,tt,ff,ff,ff,ff,ff],9,.alt [(5,0),(10,2)]⟩,⟨[tt,tt,tt,tt,tt,tt,ff,ff,ff,tt,ff,ff,ff,ff,ff],8,.alt [(6,3),(10,4)]⟩,⟨[tt,tt,tt,tt,tt,tt,tt,ff,ff,ff,ff,ff,ff,ff,ff],8,.alt [(7,4),(9,2)]⟩,⟨[tt,tt,tt,tt,tt,ff,ff,ff,ff,tt,tt,ff,ff,ff,ff],8,.alt [(5,2),(11,4)]⟩,⟨[tt,tt,tt,tt,ff,ff,ff,ff,ff,tt,tt,tt,ff,ff,ff],8,.alt [(4,3)]⟩,⟨[tt,tt,tt,tt,tt,tt,tt,ff,ff,tt,ff,ff,ff,ff,ff],7,.alt [(7,5),(10,4)]⟩,⟨[tt,tt,tt,tt,tt,tt,ff,ff,ff,tt,tt,ff,ff,ff,ff],7,.alt [(6,3),(11,5)]⟩,⟨[tt,tt,tt,tt,tt,tt,tt,tt,ff,ff,ff,ff,ff,ff,ff],7,.alt [(8,1),(9,3)]⟩,⟨[tt,tt,tt,tt,tt,ff,ff,ff,ff,tt,tt,tt,ff,ff,ff],7,.alt [(5,3)]⟩,⟨[tt,tt,tt,tt,tt,tt,tt,tt,tt,ff,ff,ff,ff,ff,ff],6,.alt [(9,3)]⟩,⟨[tt,tt,tt,tt,tt,tt,tt,ff,ff,tt,tt,ff,ff,ff,ff],6,.alt [(7,4),(11,3)]⟩,⟨[tt,tt,tt,tt,tt,tt,tt,tt,ff,tt,ff,ff,ff,ff,ff],6,.alt [(8,1),(10,3)]⟩,⟨[tt,tt,tt,tt,tt,tt,ff,ff,ff,tt,tt,tt,ff,ff,ff],6,.alt [(6,1)]⟩,⟨[tt,tt,tt,tt,tt,tt,tt,tt,tt,tt,ff,ff,ff,ff,ff],5,.alt [(10,3)]⟩,⟨[tt,tt,tt,tt,tt,tt,tt,ff,ff,tt,tt,tt,ff,ff,ff],5,.alt [(7,1)]⟩,⟨[tt,tt,tt,tt,tt,tt,tt,tt,ff,tt,tt,ff,ff,ff,ff],5,.alt [(8,1),(11,0)]⟩,⟨[tt,tt,tt,tt,tt,tt,tt,tt,ff,tt,tt,tt,ff,ff,ff],4,.alt [(8,1)]⟩,⟨[tt,tt,tt,tt,tt,tt,tt,tt,tt,tt,tt,ff,ff,ff,ff],4,.alt [(11,0)]⟩,⟨[tt,tt,tt,tt,tt,tt,tt,tt,tt,tt,tt,tt,ff,ff,ff],3,.alt [(12,0)]⟩,⟨[tt,tt,tt,tt,tt,tt,tt,tt,tt,tt,tt,tt,tt,ff,ff],2,.alt [(13,0)]⟩,⟨[tt,tt,tt,tt,tt,tt,tt,tt,tt,tt,tt,tt,tt,tt,ff],1,.alt [(14,0)]⟩,⟨[tt,tt,tt,tt,tt,tt,tt,tt,tt,tt,tt,tt,tt,tt,tt],0,.fin⟩] ?_
    refine tz (fun _:Unit=>True) ⟨[1,3,5,7,8,9,15,16,17],[3,5,8,999000],[],[]⟩ (fun _=>⟨101,[(1,.v (elms l)),(3,.p 3 0),(5,.p 5 0),(7,.v (vi k)),(8,.p 8 0),(9,.v (vb (risI x.fls))),(15,.v (elms l)),(16,.v (vi l.length)),(17,.v (vi k))],
      [(3,.con r.cs),(5,.con [.val (.map (some b))]),(8,.var [vi x.id,vi x.day,ints x.fls,vb x.gone]),(999000,.map (mapG qs) (some b))],[]⟩) (fun st st' hk h=>fj _ hk h) (fun _ _=>?_) (fun K' hK=>?_)
    . obtain⟨φ,hφ⟩:∃ φ:Prop,φ↔elmE r.fls (pre++l.take k) (fk l k) x=0:=⟨_,Iff.rfl⟩
      refine xab ⟨[1,3,5,8,15,16,17],[3,5,8,999000],[],[]⟩ φ ⟨101,[(1,.v (elms l)),(3,.p 3 0),(5,.p 5 0),(8,.p 8 0),(15,.v (elms l)),(16,.v (vi l.length)),(17,.v (vi k))],
        [(3,.con r.cs),(5,.con [.val (.map (some b))]),(8,.var [vi x.id,vi x.day,ints x.fls,vb x.gone]),(999000,.map (mapG qs) (some b))],[]⟩ ?_ (fun h0=>?_)
      . have hmr:=qz5
        have hE2:∀n,(idB x.id=false\/dayG x.day=false)->n=2->elsE r.fls pre none l=n/\elsM r.fls pre none ps l=qs:=fun n hn h2=>by
          subst h2;refine hbad 2 ?_ dcq;unfold elmE;rw[ve hn]
        by_cases g1:x.id<1
        . obtain⟨e1,e2⟩:=hE2 2 (.inl (by unfold idB;exact vw omq)) rfl;rw[e1,e2];refine runW (ai hmr (vg g1)) ?_;exact z7
        by_cases g2:1073741824<x.id
        . obtain⟨e1,e2⟩:=hE2 2 (.inl (by unfold idB;exact vw omq)) rfl;rw[e1,e2];refine runW (ai hmr (ai (vf g1) (vg g2))) ?_;exact z7
        refine rcW (ai (vf g1) (vf g2)) (jtr x.day) ?_;cases g3:dayG x.day
        . obtain⟨e1,e2⟩:=hE2 2 (.inr g3) rfl;exact zb8
        have hok:¬(idB x.id=false\/dayG x.day=false):=by
          rintro (e|e)
          . unfold idB at e;have:=of_decide_eq_false e;omega
          rw[g3] at e;cases e
        clear hE2;refine rc (jdu x.fls _ _ (fun f=> !hasF r.fls f) hxf fun f _=>qfe r h f) ?_;rw[quu];cases g4:x.fls.all (hasF r.fls)
        . obtain⟨e1,e2⟩:=hbad 7 (by unfold elmE;rw[vd hok,ve g4]) dcq;exact zb8
        have h7:¬x.fls.all (hasF r.fls)=false:=by rw[g4];decide
        have hr5:elmE r.fls (pre++l.take k) (fk l k) x=if risI x.fls=false\/(match fk l k with|some q=>decide (x.day<q.day)|none=>false)=true then 5 else if x.gone=true/\x.fls.any (cj (pre++l.take k))=true then 6 else 0:=by
          unfold elmE;rw[vd hok,vd h7];rfl
        cases g5:risI x.fls
        . rw[ve (.inl g5)] at hr5;obtain⟨e1,e2⟩:=hbad 5 hr5 dcq;exact zb8
        have hany:x.fls.any (getG qs)=x.fls.any (cj (pre++l.take k)):=qyn _ _ _ fun n _=>hg n;by_cases hk0:k=0
        . subst hk0;rw[vd (show ¬(risI x.fls=false\/(match fk l 0 with|some q=>decide (x.day<q.day)|none=>false)=true) by rw[g5];rintro (e|e)<;>cases e)] at hr5;cases g7:x.gone
          . rw[g7,vd (fun e=>by cases e.1)] at hr5;refine runW (ai hmr hx) ?_;exact midK (hφ.mpr hr5)
          refine runW (ai hmr hx) ?_;refine fg (gh [(999000,999000)] (ju0 x.fls _ _ (getG qs) qs b hxf fun f _=>jsv qs b f) (.cons (.v _) (.cons (.v _) .nil)) ?_ ?_)
          . exact zg
          rw[hany];cases g8:x.fls.any (cj (pre++l.take 0))
          . exact zdl
          exact zee
        obtain⟨y,hy,-,-⟩:=af (l:=l) (k:=k-1) omq;have hpos:(0:Int)<k:=omq;have hla:fk l k=some y:=by unfold fk;rw[vd hk0,hy]
        by_cases hlt2:x.day<y.day
        . rw[ve (show risI x.fls=false\/(match fk l k with|some q=>decide (x.day<q.day)|none=>false)=true from .inr (by rw[hla];exact vl hlt2))] at hr5;obtain⟨e1,e2⟩:=hbad 5 hr5 dcq;rw[e1,e2];refine runW (ai hmr (ai hx (ai hy (ai (vg hpos) (vg hlt2))))) ?_;exact z7
        rw[vd (show ¬(risI x.fls=false\/(match fk l k with|some q=>decide (x.day<q.day)|none=>false)=true) by
          rw[g5,hla];rintro (e|e)
          . cases e
          . exact hlt2 (xj e))] at hr5
        cases g7:x.gone
        . rw[g7,vd (fun e=>by cases e.1)] at hr5;refine runW (ai hmr (ai hx (ai hy (ai (vg hpos) (vf hlt2))))) ?_;exact midK (hφ.mpr hr5)
        refine runW (ai hmr (ai hx (ai hy (ai (vg hpos) (vf hlt2))))) ?_;refine fg (gh [(999000,999000)] (ju0 x.fls _ _ (getG qs) qs b hxf fun f _=>jsv qs b f) (.cons (.v _) (.cons (.v _) .nil)) ?_ ?_)
        . exact zg
        rw[hany];cases g8:x.fls.any (cj (pre++l.take k))
        . exact zdl
        exact zee
      obtain⟨n1,n2⟩:=hnext (hφ.mp h0);refine run ?_
      refine loop ⟨[1,3,5,8,15,16,17,84,85,86],[3,5,8,999000],[],[]⟩ (fun j:Nat=>j<=x.fls.length) (fun j=>x.fls.length-j)
        (fun j=>⟨101,[(1,.v (elms l)),(3,.p 3 0),(5,.p 5 0),(8,.p 8 0),(15,.v (elms l)),(16,.v (vi l.length)),(17,.v (vi k)),(84,.v (ints x.fls)),(85,.v (vi x.fls.length)),(86,.v (vi j))],
          [(3,.con r.cs),(5,.con [.val (.map (some b))]),(8,.var [vi x.id,vi x.day,ints x.fls,vb x.gone]),(999000,.map (mapG (addG qs (x.fls.take j) x.gone)) (some b))],[]⟩) 0 (vj _) ?_
      intro j hj;by_cases hjl:j<x.fls.length
      . obtain⟨f,hf,-,-⟩:=af hjl;have hsn:=quw qs x.gone hf;obtain⟨zs,hzs⟩:∃zs,addG qs (x.fls.take j) x.gone=zs:=⟨_,rfl⟩;rw[hzs] at hsn ⊢;have f1:=jm3 f zs;have f2:=jx7 zs f;have f3:=jtc f (getG zs f || x.gone) zs;cases g9:getG zs f
        . rw[g9] at f2 f3 hsn;rw[xav] at f3 hsn;exact zds
        rw[g9] at f2 f3 hsn;rw[xam] at f3 hsn;exact zds
      have hjl:j=x.fls.length:=omq;subst hjl;rw[yk,<- hps1];refine run ?_;exact round (k+1) ⟨hlt,n1,n2,hgn⟩ omq
    have hr:=qvf x.fls;refine ax trivial ?_;refine call (qhu x.fls hxf) ?_;cases hs:srtI x.fls
    . rw[hs,xau] at hr;rw[<- hr] at hK;exact zd1
    rw[hs,xar] at hr;refine ax trivial ?_;rw[<- hr] at hK;by_cases hz:x.fls=[]
    . rw[hz] at hK ⊢
      repeat' (with_reducible refine ai ?_ ?_)
      all_goals
        refine pu (jsz [] dcq) (fun _=>?_) (fun h=>absurd rfl h);refine ax trivial ?_
        repeat' (with_reducible refine ai ?_ ?_)
        all_goals
          refine call qgo ?_;exact zd1
    repeat' (with_reducible refine ai ?_ ?_)
    all_goals
      refine pu (jsz x.fls hxf) (fun h=>absurd (List.map_eq_nil_iff.1 h) hz) (fun _=>?_);refine ax (jza x.fls) ?_
      repeat' (with_reducible refine ai ?_ ?_)
      all_goals
        refine dx 28 (qh5 x.fls hxf hz) ?_;exact zd1
  have hkl:k=l.length:=omq;subst hkl;rw[List.drop_length] at h1 h2;rw[h1,h2];refine run ?_;exact z7
end Go.Arc
