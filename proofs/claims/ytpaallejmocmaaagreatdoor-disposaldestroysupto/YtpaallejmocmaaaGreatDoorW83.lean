/- A part of this claim. -/
import Derived.Test.YtpaallejmocmaaaGreatDoorBaY
set_option maxHeartbeats 4000000
set_option maxRecDepth 100000
namespace Go.Arc
open Go.Ab Go.RowKit Go.Proofs Tryz
variable {T : Lay}
theorem jyj:∀l:List Int,(l.map Cint).flatten=l.map vint
 |[]=>rfl
 |x::r=>by rw[vl,List.flatten_cons,jyj r];rfl
theorem qf5(r:Rgs)(h:r.Fit)(l:List Elm)(hl:l.length<=1048576)(hl2:∀x∈l,x.fls.length<=1048576)(pre:List Elm)(ps:List (Int×Bool))(hps:∀n,getG ps n=ax pre n)(b:Nat):
   DenS prog T 99 (gBlk ps b) [] [.v (.agg r.cs),.v (elms l),.m 999000] (gBlk (if 1024<l.length then ps else elsM r.fls pre none ps l) b) [] (.v (vi (cm r.fls pre l))):=by
  refine lc follows (fun args w=>call99 args w) func99 rfl 101 rfl rfl ?_;unfold cm;by_cases hbig:1024<l.length
  . rw[um hbig,um hbig];refine runW (ai (jy5 (some b)) (uo hbig)) ?_;exact zbc
  rw[ul hbig,ul hbig];refine runW (ai (jy5 (some b)) (un hbig)) ?_;refine pe 3 ?_;refine pe 5 ?_
  have hstep:∀k x,l[k]?=some x->elsE r.fls pre none l=elsE r.fls (pre++l.take k) (ca l k) (l.drop k)->elsM r.fls pre none ps l=elsM r.fls (pre++l.take k) (ca l k) (psAt ps l k) (l.drop k)->
      (∀n,elmE r.fls (pre++l.take k) (ca l k) x=n->n≠0->elsE r.fls pre none l=n/\elsM r.fls pre none ps l=psAt ps l k)/\
      (elmE r.fls (pre++l.take k) (ca l k) x=0->elsE r.fls pre none l=elsE r.fls (pre++l.take (k+1)) (ca l (k+1)) (l.drop (k+1))/\elsM r.fls pre none ps l=elsM r.fls (pre++l.take (k+1)) (ca l (k+1)) (psAt ps l (k+1)) (l.drop (k+1))):=fun k x hx h1 h2=>by
    have e1:=jwn (fs:=r.fls) hx (pre++l.take k) (ca l k);have e2:=qlv (fs:=r.fls) hx (pre++l.take k) (ca l k) (psAt ps l k);refine⟨fun n hn h0=>?_,fun h0=>?_⟩
    . subst hn;rw[um h0] at e1 e2;exact⟨h1.trans e1,h2.trans e2⟩
    rw[ul (by rw[h0];decide)] at e1 e2;rw[vt,<- jg0 hx] at e1 e2;rw[<- jkq ps hx] at e2;rw[jso hx];exact⟨h1.trans e1,h2.trans e2⟩
  refine loop ⟨[1,3,5,15,16,17],[3,5,999000],[],[]⟩ (fun k:Nat=>k<=l.length/\elsE r.fls pre none l=elsE r.fls (pre++l.take k) (ca l k) (l.drop k)/\elsM r.fls pre none ps l=elsM r.fls (pre++l.take k) (ca l k) (psAt ps l k) (l.drop k)/\∀n,getG (psAt ps l k) n=ax (pre++l.take k) n) (fun k=>l.length-k)
    (fun k=>⟨101,[(1,.v (elms l)),(3,.p 3 0),(5,.p 5 0),(15,.v (elms l)),(16,.v (vi l.length)),(17,.v (vi k))],[(3,.con r.cs),(5,.con [.val (.map (some b))]),(999000,.map (mapG (psAt ps l k)) (some b))],[]⟩) 0
    ⟨uq _,by rw[List.take_zero,vw];rfl,by rw[List.take_zero,vw];rfl,fun n=>by rw[List.take_zero,vw];exact hps n⟩ ?_
  rintro k ⟨hk,h1,h2,hg⟩;by_cases hlt:k<l.length
  . obtain⟨x,hx,-,hm⟩:=ac hlt;have hxf:=hl2 x hm;obtain⟨hbad,hnext⟩:=hstep k x hx h1 h2;have hgn:=jyf hg x;rw[<- jkq ps hx,vt,<- jg0 hx] at hgn;have hps1:=jkq ps hx;obtain⟨qs,hqs⟩:∃qs,psAt ps l k=qs:=⟨_,rfl⟩;rw[hqs] at hbad hg hps1 ⊢;refine runD hx ?_;refine bt [⟨[ff,ff,ff,ff,ff,ff,ff,ff,ff,ff,ff,ff,ff,ff,ff],15,.one 0 0⟩,⟨[tt,ff,ff,ff,ff,ff,ff,ff,ff,ff,ff,ff,ff,ff,ff],14,.alt [(1,0)]⟩,⟨[tt,tt,ff,ff,ff,ff,ff,ff,ff,ff,ff,ff,ff,ff,ff],13,.alt [(2,0)]⟩,⟨[tt,tt,tt,ff,ff,ff,ff,ff,ff,ff,ff,ff,ff,ff,ff],12,.one 3 0⟩,⟨[tt,tt,tt,tt,ff,ff,ff,ff,ff,ff,ff,ff,ff,ff,ff],11,.alt [(4,0),(9,1)]⟩,⟨[tt,tt,tt,tt,tt,ff,ff,ff,ff,ff,ff,ff,ff,ff,ff],10,.alt [(5,1),(9,3)]⟩,⟨[tt,tt,tt,tt,ff,ff,ff,ff,ff,tt,ff,ff,ff,ff,ff],10,.alt [(4,2),(10,1)]⟩,⟨[tt,tt,tt,tt,tt,tt,ff,ff,ff,ff,ff,ff,ff,ff,ff],9,.alt [(6,3),(9,2)]⟩,⟨[tt,tt,tt,tt,ff,ff,ff,ff,ff,tt,tt,ff,ff,ff,ff],9,.alt [(4,3),(11,4)]⟩,⟨[tt,tt,tt,tt,tt,ff,ff,ff,ff,tt,ff,ff,ff,ff,ff],9,.alt [(5,0),(10,2)]⟩,⟨[tt,tt,tt,tt,tt,tt,ff,ff,ff,tt,ff,ff,ff,ff,ff],8,.alt [(6,3),(10,4)]⟩,⟨[tt,tt,tt,tt,tt,tt,tt,ff,ff,ff,ff,ff,ff,ff,ff],8,.alt [(7,4),(9,2)]⟩,⟨[tt,tt,tt,tt,tt,ff,ff,ff,ff,tt,tt,ff,ff,ff,ff],8,.alt [(5,2),(11,4)]⟩,⟨[tt,tt,tt,tt,ff,ff,ff,ff,ff,tt,tt,tt,ff,ff,ff],8,.alt [(4,3)]⟩,⟨[tt,tt,tt,tt,tt,tt,tt,ff,ff,tt,ff,ff,ff,ff,ff],7,.alt [(7,5),(10,4)]⟩,⟨[tt,tt,tt,tt,tt,tt,ff,ff,ff,tt,tt,ff,ff,ff,ff],7,.alt [(6,3),(11,5)]⟩,⟨[tt,tt,tt,tt,tt,tt,tt,tt,ff,ff,ff,ff,ff,ff,ff],7,.alt [(8,1),(9,3)]⟩,⟨[tt,tt,tt,tt,tt,ff,ff,ff,ff,tt,tt,tt,ff,ff,ff],7,.alt [(5,3)]⟩,⟨[tt,tt,tt,tt,tt,tt,tt,tt,tt,ff,ff,ff,ff,ff,ff],6,.alt [(9,3)]⟩,⟨[tt,tt,tt,tt,tt,tt,tt,ff,ff,tt,tt,ff,ff,ff,ff],6,.alt [(7,4),(11,3)]⟩,⟨[tt,tt,tt,tt,tt,tt,tt,tt,ff,tt,ff,ff,ff,ff,ff],6,.alt [(8,1),(10,3)]⟩,⟨[tt,tt,tt,tt,tt,tt,ff,ff,ff,tt,tt,tt,ff,ff,ff],6,.alt [(6,1)]⟩,⟨[tt,tt,tt,tt,tt,tt,tt,tt,tt,tt,ff,ff,ff,ff,ff],5,.alt [(10,3)]⟩,⟨[tt,tt,tt,tt,tt,tt,tt,ff,ff,tt,tt,tt,ff,ff,ff],5,.alt [(7,1)]⟩,⟨[tt,tt,tt,tt,tt,tt,tt,tt,ff,tt,tt,ff,ff,ff,ff],5,.alt [(8,1),(11,0)]⟩,⟨[tt,tt,tt,tt,tt,tt,tt,tt,ff,tt,tt,tt,ff,ff,ff],4,.alt [(8,1)]⟩,⟨[tt,tt,tt,tt,tt,tt,tt,tt,tt,tt,tt,ff,ff,ff,ff],4,.alt [(11,0)]⟩,⟨[tt,tt,tt,tt,tt,tt,tt,tt,tt,tt,tt,tt,ff,ff,ff],3,.alt [(12,0)]⟩,⟨[tt,tt,tt,tt,tt,tt,tt,tt,tt,tt,tt,tt,tt,ff,ff],2,.alt [(13,0)]⟩,⟨[tt,tt,tt,tt,tt,tt,tt,tt,tt,tt,tt,tt,tt,tt,ff],1,.alt [(14,0)]⟩,⟨[tt,tt,tt,tt,tt,tt,tt,tt,tt,tt,tt,tt,tt,tt,tt],0,.fin⟩] ?_
    refine il (fun _:Unit=>True) ⟨[1,3,5,7,8,9,15,16,17],[3,5,8,999000],[],[]⟩ (fun _=>⟨101,[(1,.v (elms l)),(3,.p 3 0),(5,.p 5 0),(7,.v (vi k)),(8,.p 8 0),(9,.v (vb (risI x.fls))),(15,.v (elms l)),(16,.v (vi l.length)),(17,.v (vi k))],
      [(3,.con r.cs),(5,.con [.val (.map (some b))]),(8,.var [vi x.id,vi x.day,ints x.fls,vb x.gone]),(999000,.map (mapG qs) (some b))],[]⟩) (fun st st' hk h=>ci _ hk h) (fun _ _=>?_) (fun K' hK=>?_)
    . obtain⟨φ,hφ⟩:∃ φ:Prop,φ↔elmE r.fls (pre++l.take k) (ca l k) x=0:=⟨_,Iff.rfl⟩
      refine quu ⟨[1,3,5,8,15,16,17],[3,5,8,999000],[],[]⟩ φ ⟨101,[(1,.v (elms l)),(3,.p 3 0),(5,.p 5 0),(8,.p 8 0),(15,.v (elms l)),(16,.v (vi l.length)),(17,.v (vi k))],
        [(3,.con r.cs),(5,.con [.val (.map (some b))]),(8,.var [vi x.id,vi x.day,ints x.fls,vb x.gone]),(999000,.map (mapG qs) (some b))],[]⟩ ?_ (fun h0=>?_)
      . have hmr:=qtw
        have hE2:∀n,(idB x.id=false\/dayG x.day=false)->n=2->elsE r.fls pre none l=n/\elsM r.fls pre none ps l=qs:=fun n hn h2=>by
          subst h2;refine hbad 2 ?_ dcq;unfold elmE;rw[um hn]
        by_cases g1:x.id<1
        . obtain⟨e1,e2⟩:=hE2 2 (.inl (by unfold idB;exact ux omq)) rfl;rw[e1,e2];refine runW (ai hmr (uo g1)) ?_;exact zbc
        by_cases g2:1073741824<x.id
        . obtain⟨e1,e2⟩:=hE2 2 (.inl (by unfold idB;exact ux omq)) rfl;rw[e1,e2];refine runW (ai hmr (ai (un g1) (uo g2))) ?_;exact zbc
        refine rcW (ai (un g1) (un g2)) (jsy x.day) ?_;cases g3:dayG x.day
        . obtain⟨e1,e2⟩:=hE2 2 (.inr g3) rfl;exact zce
        have hok:¬(idB x.id=false\/dayG x.day=false):=by
          rintro (e|e)
          . unfold idB at e;have:=of_decide_eq_false e;omega
          rw[g3] at e;cases e
        clear hE2;refine rc (jdd x.fls _ _ (fun f=> !hasF r.fls f) hxf fun f _=>qeh r h f) ?_;rw[qr8];cases g4:x.fls.all (hasF r.fls)
        . obtain⟨e1,e2⟩:=hbad 7 (by unfold elmE;rw[ul hok,um g4]) dcq;exact zce
        have h7:¬x.fls.all (hasF r.fls)=false:=by rw[g4];decide
        have hr5:elmE r.fls (pre++l.take k) (ca l k) x=if risI x.fls=false\/(match ca l k with|some q=>decide (x.day<q.day)|none=>false)=true then 5 else if x.gone=true/\x.fls.any (ax (pre++l.take k))=true then 6 else 0:=by
          unfold elmE;rw[ul hok,ul h7];rfl
        cases g5:risI x.fls
        . rw[um (.inl g5)] at hr5;obtain⟨e1,e2⟩:=hbad 5 hr5 dcq;exact zce
        have hany:x.fls.any (getG qs)=x.fls.any (ax (pre++l.take k)):=qti _ _ _ fun n _=>hg n;by_cases hk0:k=0
        . subst hk0;rw[ul (show ¬(risI x.fls=false\/(match ca l 0 with|some q=>decide (x.day<q.day)|none=>false)=true) by rw[g5];rintro (e|e)<;>cases e)] at hr5;cases g7:x.gone
          . rw[g7,ul (fun e=>by cases e.1)] at hr5;refine runW (ai hmr hx) ?_;exact midK (hφ.mpr hr5)
          refine runW (ai hmr hx) ?_;refine mo (rl [(999000,999000)] (jtc x.fls _ _ (getG qs) qs b hxf fun f _=>jrq qs b f) (.cons (.v _) (.cons (.v _) .nil)) ?_ ?_)
          . exact zi
          rw[hany];cases g8:x.fls.any (ax (pre++l.take 0))
          . exact zdy
          exact zep
        obtain⟨y,hy,-,-⟩:=ac (l:=l) (k:=k-1) omq;have hpos:(0:Int)<k:=omq;have hla:ca l k=some y:=by unfold ca;rw[ul hk0,hy]
        by_cases hlt2:x.day<y.day
        . rw[um (show risI x.fls=false\/(match ca l k with|some q=>decide (x.day<q.day)|none=>false)=true from .inr (by rw[hla];exact ur hlt2))] at hr5;obtain⟨e1,e2⟩:=hbad 5 hr5 dcq;rw[e1,e2];refine runW (ai hmr (ai hx (ai hy (ai (uo hpos) (uo hlt2))))) ?_;exact zbc
        rw[ul (show ¬(risI x.fls=false\/(match ca l k with|some q=>decide (x.day<q.day)|none=>false)=true) by
          rw[g5,hla];rintro (e|e)
          . cases e
          . exact hlt2 (xp e))] at hr5
        cases g7:x.gone
        . rw[g7,ul (fun e=>by cases e.1)] at hr5;refine runW (ai hmr (ai hx (ai hy (ai (uo hpos) (un hlt2))))) ?_;exact midK (hφ.mpr hr5)
        refine runW (ai hmr (ai hx (ai hy (ai (uo hpos) (un hlt2))))) ?_;refine mo (rl [(999000,999000)] (jtc x.fls _ _ (getG qs) qs b hxf fun f _=>jrq qs b f) (.cons (.v _) (.cons (.v _) .nil)) ?_ ?_)
        . exact zi
        rw[hany];cases g8:x.fls.any (ax (pre++l.take k))
        . exact zdy
        exact zep
      obtain⟨n1,n2⟩:=hnext (hφ.mp h0);refine run ?_
      refine loop ⟨[1,3,5,8,15,16,17,84,85,86],[3,5,8,999000],[],[]⟩ (fun j:Nat=>j<=x.fls.length) (fun j=>x.fls.length-j)
        (fun j=>⟨101,[(1,.v (elms l)),(3,.p 3 0),(5,.p 5 0),(8,.p 8 0),(15,.v (elms l)),(16,.v (vi l.length)),(17,.v (vi k)),(84,.v (ints x.fls)),(85,.v (vi x.fls.length)),(86,.v (vi j))],
          [(3,.con r.cs),(5,.con [.val (.map (some b))]),(8,.var [vi x.id,vi x.day,ints x.fls,vb x.gone]),(999000,.map (mapG (addG qs (x.fls.take j) x.gone)) (some b))],[]⟩) 0 (uq _) ?_
      intro j hj;by_cases hjl:j<x.fls.length
      . obtain⟨f,hf,-,-⟩:=ac hjl;have hsn:=qra qs x.gone hf;obtain⟨zs,hzs⟩:∃zs,addG qs (x.fls.take j) x.gone=zs:=⟨_,rfl⟩;rw[hzs] at hsn ⊢;have f1:=jl3 f zs;have f2:=jwe zs f;have f3:=jsf f (getG zs f || x.gone) zs;cases g9:getG zs f
        . rw[g9] at f2 f3 hsn;rw[yb] at f3 hsn;exact zd4
        rw[g9] at f2 f3 hsn;rw[yj] at f3 hsn;exact zd4
      have hjl:j=x.fls.length:=omq;subst hjl;rw[vk,<- hps1];refine run ?_;exact round (k+1) ⟨hlt,n1,n2,hgn⟩ omq
    have hr:=qro x.fls;refine am trivial ?_;refine call (qge x.fls hxf) ?_;cases hs:srtI x.fls
    . rw[hs,qvg] at hr;rw[<- hr] at hK;exact zed
    rw[hs,yc] at hr;refine am trivial ?_;rw[<- hr] at hK;by_cases hz:x.fls=[]
    . rw[hz] at hK ⊢
      repeat' (with_reducible refine ai ?_ ?_)
      all_goals
        refine jip (jrw [] dcq) (fun _=>?_) (fun h=>absurd rfl h);refine am trivial ?_
        repeat' (with_reducible refine ai ?_ ?_)
        all_goals
          refine call qfm ?_;exact zed
    repeat' (with_reducible refine ai ?_ ?_)
    all_goals
      refine jip (jrw x.fls hxf) (fun h=>absurd (List.map_eq_nil_iff.1 h) hz) (fun _=>?_);refine am (jyj x.fls) ?_
      repeat' (with_reducible refine ai ?_ ?_)
      all_goals
        refine jfb 28 (qg2 x.fls hxf hz) ?_;exact zed
  have hkl:k=l.length:=omq;subst hkl;rw[List.drop_length] at h1 h2;rw[h1,h2];refine run ?_;exact zbc
end Go.Arc
