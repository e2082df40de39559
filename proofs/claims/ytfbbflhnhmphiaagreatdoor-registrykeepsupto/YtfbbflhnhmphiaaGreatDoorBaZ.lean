/- A part of this claim. -/
import Derived.Test.YtfbbflhnhmphiaaGreatDoorW83
import Derived.Shelf.Sort.Plain
set_option maxHeartbeats 4000000
set_option maxRecDepth 100000
namespace Go.Arc
open Go.Ab Go.RowKit Go.Proofs Tryz
variable {T : Lay}
theorem qv0{l m:List V}(h:Wks l m):Wk (.tup l) (.tup m):=.tup h.len fun j v u e1 e2=>by
 obtain⟨v',h1,h2⟩:=h.get e2;rw[e1] at h1;cases h1;exact h2
theorem jwz(x:Int)(r:List Int):fstE (x::r)=if x≠0 then x else fstE r:=rfl
theorem jz8:∀a b:List Int,fstE (a++b)=if fstE a≠0 then fstE a else fstE b
 |[],b=>by rw[List.nil_append,vd (fun e=>e rfl)]
 |x::a,b=>by
  have ih:=jz8 a b;rw[List.cons_append,jwz,jwz];by_cases h:x≠0
  .rw[ve h,ve h,ve h]
  rw[vd h,vd h];exact ih
def lstK(r:Rgs):Nat->List Elm
 |0=>selE r
 |1=>crtE r
 |_=>depE r
def preK(r:Rgs):Nat->List Elm
 |0=>[]
 |1=>selE r
 |_=>selE r++crtE r
def errK(r:Rgs)(k:Nat):Int×Int:=(0,eg r.fls (preK r k) (lstK r k))
def psK(r:Rgs):Nat->List (Int×Bool)
 |0=>[]
 |k+1=>if 1024<(lstK r k).length then psK r k else elsM r.fls (preK r k) none (psK r k) (lstK r k)
theorem qpn(r:Rgs):checkG r=if jfd r≠0 then jfd r else fstE ((List.range' 0 3).map fun j=>(errK r j).2):=jz8 [(fm r.ofs).2,(check r.pls).2,(jv r.ofs r.pls r.fls).2,(ia r.rls).2,(ib r.hls).2] [eg r.fls [] (selE r),eg r.fls (selE r) (crtE r),eg r.fls (selE r++crtE r) (depE r)]
theorem qrp{fs:List Fil}{pre l:List Elm}(h:eg fs pre l=0):l.length<=1024/\elsE fs pre none l=0:=by
 unfold eg at h;by_cases hb:1024<l.length
 .rw[ve hb] at h;cases h
 rw[vd hb] at h;exact⟨omq,h⟩
theorem qaw(r:Rgs):∀k,k<3->(∀j,j<k->(errK r j).2=0)->∀n,getG (psK r k) n=cj (preK r k) n
 |0,_,_=>fun n=>rfl
 |k+1,hk,h=>by
  have h0:=h k (Nat.lt_succ_self k);obtain⟨h1,h2⟩:=qrp h0;have ih:=qaw r k omq fun j hj=>h j omq;unfold psK;rw[vd omq];intro n;rw[jzj r.fls _ _ _ _ ih h2]
  match k,hk with
  |0,_=>rfl
  |1,_=>rfl
theorem qrn{r:Rgs}(h:r.Fit)(k:Nat):(lstK r k).length<=1048576/\∀x∈lstK r k,x.fls.length<=1048576:=by
 match k with
 | 0=>exact ⟨by show (selE r).length<=1048576; unfold selE; rw[vm]; exact h.sls.1,fun x hx=>by
   obtain⟨s,hs,rfl⟩:=ya.1 hx;exact h.sls.2 s hs⟩
 | 1=>exact ⟨by show (crtE r).length<=1048576; unfold crtE; rw[vm]; exact h.crs.1,fun x hx=>by
   obtain⟨s,hs,rfl⟩:=ya.1 hx;exact(h.crs.2 s hs).1⟩
 | n+2=>exact ⟨by show (depE r).length<=1048576; unfold depE; rw[vm]; exact h.dps,fun x hx=>by
   obtain⟨s,hs,rfl⟩:=ya.1 hx;show [s.fil].length<=1048576;simp⟩
theorem jl4(L:LibC T)(r:Rgs)(h:r.Fit):Den prog T 48 [.agg r.cs] (vi (checkG r)):=by
 have hs:=h.sls.1;have hc:=h.crs.1;have hd:=h.dps;rw[qpn];refine ab call48 func48 93 ?_;refine rc (qo8 L r h) ?_;by_cases h0:jfd r=0
 .rw[vd (by rw[h0];decide)];refine runW h0 ?_
  refine loop ⟨[1,4,5,6,23,24,25],[1],[4],[(4,173,4)]⟩ (fun k:Nat=>k<=r.sls.length) (fun k=>r.sls.length-k)
   (fun k=>⟨93,[(1,.p 1 0),(4,.v (elms ((r.sls.take k).map Sel.el))),(5,.v (.val (.slice none 0 0))),(6,.v (.val (.slice none 0 0))),(23,.v (sels r.sls)),(24,.v (vi r.sls.length)),(25,.v (vi k))],[(1,.var r.cs)],[(173,[4])]⟩) 0 (vj _) ?_
  intro k hk;by_cases hlt:k<r.sls.length
  .obtain⟨x,hx,-,-⟩:=af hlt
   have hts:((r.sls.take k).map Sel.el).map Elm.cs++[[vi x.smp,vi x.day,ints x.fls,vb false]]=((r.sls.take (k+1)).map Sel.el).map Elm.cs:=by
    exact z5
   refine runW (ai hx hts) ?_;exact zt
  have hkl:k=r.sls.length:=omq;subst hkl;rw[yk];obtain⟨S,hS⟩:∃S,r.sls.map Sel.el=S:=⟨_,rfl⟩;rw[hS];refine run ?_
  refine loop ⟨[1,4,5,6,41,42,43],[1],[5],[(5,173,4)]⟩ (fun k:Nat=>k<=r.crs.length) (fun k=>r.crs.length-k)
   (fun k=>⟨93,[(1,.p 1 0),(4,.v (elms S)),(5,.v (elms ((r.crs.take k).map Crt.el))),(6,.v (.val (.slice none 0 0))),(41,.v (crts r.crs)),(42,.v (vi r.crs.length)),(43,.v (vi k))],[(1,.var r.cs)],[(173,[5])]⟩) 0 (vj _) ?_
  intro k hk;by_cases hlt:k<r.crs.length
  .obtain⟨x,hx,-,-⟩:=af hlt
   have hts:((r.crs.take k).map Crt.el).map Elm.cs++[[vi x.num,vi x.day,ints x.fls,vb true]]=((r.crs.take (k+1)).map Crt.el).map Elm.cs:=by
    exact z5
   refine runW (ai hx hts) ?_;exact zt
  have hkl:k=r.crs.length:=omq;subst hkl;rw[yk];obtain⟨C,hC⟩:∃C,r.crs.map Crt.el=C:=⟨_,rfl⟩;rw[hC];refine run ?_
  refine loop ⟨[1,4,5,6,59,60,61],[1],[6],[(6,173,4)]⟩ (fun k:Nat=>k<=r.dps.length) (fun k=>r.dps.length-k)
   (fun k=>⟨93,[(1,.p 1 0),(4,.v (elms S)),(5,.v (elms C)),(6,.v (elms ((r.dps.take k).map Dep.el))),(59,.v (deps r.dps)),(60,.v (vi r.dps.length)),(61,.v (vi k))],[(1,.var r.cs)],[(173,[6])]⟩) 0 (vj _) ?_
  intro k hk;by_cases hlt:k<r.dps.length
  .obtain⟨x,hx,-,-⟩:=af hlt
   have hts:((r.dps.take k).map Dep.el).map Elm.cs++[[vi 1,vi x.day,.slice 1 [[vi x.fil]],vb true]]=((r.dps.take (k+1)).map Dep.el).map Elm.cs:=by
    exact z5
   refine runW (ai hx hts) ?_;exact zt
  have hkl:k=r.dps.length:=omq;subst hkl;rw[yk];obtain⟨D,hD⟩:∃D,r.dps.map Dep.el=D:=⟨_,rfl⟩;rw[hD]
  have hrow:∀k,k<3->[[elms S],[elms C],[elms D]][k]?=some [elms (lstK r k)]:=fun k hk=>by
   rw[<- hS,<- hC,<- hD]
   match k,hk with
   |0,_=>rfl
   |1,_=>rfl
   |2,_=>rfl
  refine run ?_;refine jit 75 ?_;intro b hb;clear hb;obtain⟨R,hR⟩:∃R,[[elms S],[elms C],[elms D]]=R:=⟨_,rfl⟩;have hRl:R.length=3:=by rw[<- hR];rfl
  rw[hR] at hrow
  refine loop ⟨[1,13,79,80,81],[1,75],[],[]⟩ (fun k:Nat=>k<=3/\∀j,j<k->(errK r j).2=0) (fun k=>3-k)
   (fun k=>⟨93,[(1,.p 1 0),(13,.m 75),(79,.v (.slice 1 R)),(80,.v (vi 3)),(81,.v (vi k))],[(1,.var r.cs),(75,.map (mapG (psK r k)) (some b))],[]⟩) 0 ⟨dcq,fun j hj=>absurd hj (xba j)⟩ ?_ (by rw[<- hR];rfl)
  rintro k ⟨hk,hall⟩;by_cases hlt:k<3
  .have hkR:k<R.length:=omq;have hg:=hrow k hlt;have hfit:=qrn h k;have hps:=qaw r k hlt hall;refine runW hg ?_;have hden:=qg2 (T:=T) r h (lstK r k) hfit.1 hfit.2 (preK r k) (psK r k) hps b;rw[show (if 1024<(lstK r k).length then psK r k else elsM r.fls (preK r k) none (psK r k) (lstK r k))=psK r (k+1) from rfl,show eg r.fls (preK r k) (lstK r k)=(errK r k).2 from rfl] at hden;refine gh [(999000,75)] hden (.cons (.v _) (.cons (.v _) (.cons (.m rfl) .nil))) ?_ ?_
   .intro y hy;simp only[xn] at hy;subst hy;exact⟨75,_,rfl,rfl,rfl,.inr rfl,rfl⟩
   by_cases hz:(errK r k).2=0
   .refine runW hz ?_;refine round (k+1) ⟨hlt,fun j hj=>?_⟩ omq;by_cases hjk:j=k
    .subst hjk;exact hz
    exact hall j omq
   refine runW hz ?_;refine fin (bc ?_);have:=jra (errK r) 3 k 0 hlt (fun j hj=>by rw[xl];exact hall j hj) (by rw[xl];exact hz);rw[this,xl]
  refine run ?_;refine fin (bc ?_);exact(jpi (errK r) 3 0 fun j hj=>by rw[xl];exact hall j omq).symm
 rw[ve h0];refine runW h0 ?_;exact fin rfl
abbrev filZ:List V:=[vi 0,vi 0,vi 0,vi 0,.str [],.str [],vi 0,.val (.slice none 0 0)]
theorem qkl(L:LibC T)(r:Rgs)(h:r.Fit)(id:Int):Den prog T 30 [.agg r.cs,vi id] (if askE r id=0 then .tup [.agg (filA r id).cs,vi 0] else .tup [.agg filZ,vi (askE r id)]):=by
 have hf:=h.fls.1;refine ab call30 func30 23 ?_;refine rc (jl4 L r h) ?_;by_cases h1:checkG r=0
 .refine rcW h1 (tq r.fls id hf) ?_;by_cases h2:az r.fls id<0
  .rw[xad h1 h2,vd dcq];refine runW (vg h2) ?_;exact fin rfl
  obtain⟨k,hk,hlt,hx,-,-⟩:=jeo h2;rw[qds h1 h2,ve rfl];have h2':¬((k:Int)<0):=omq;rw[hk];refine runW (ai hx (vf h2')) ?_;exact fin rfl
 rw[xae h1,vd dcq];refine runW h1 ?_;exact fin rfl
theorem qai(e:Int):Wk (.tup [.agg (vcs 0 0 0 0 0 (.val (.slice none 0 0))),vi e]) (.tup [.agg vdtZ.cs,vi e]):=qv0 (.cons (sm 0 0 0 0 0) (.cons (.refl _) .nil))
theorem qx7(L:LibC T)(r:Rgs)(f:Fil)(d:Int)(hr:r.Fit)(hf:f.Fit):Den prog T 33 [.agg (jb1 r f d).cs] (.agg (vdt r f d).cs):=by
 rw[<- vdt_L];exact qkn L (jb1 r f d) hr hf (xc (juk r f d) hr.rls.1)
theorem jau(L:LibC T)(r:Rgs)(h:r.Fit)(id d:Int):Den prog T 14 [.agg r.cs,vi id,vi d] (.tup [.agg (onV r id d).cs,vi (onE r id d)]):=by
 refine ab call14 func14 29 ?_;refine rc (qkl L r h id) ?_;unfold onV;by_cases h0:askE r id=0
 .rw[ve h0];obtain⟨h1,h2⟩:=qdr h0;have hfit:=qs7 h h2;have hg:=(jj1 h1).goodR;refine rc (jtr d) ?_;cases hd:dayG d
  .have he:onE r id d=2:=by unfold onE;rw[vd (fun e=>e h0),ve hd]
   rw[he,vd dcq];refine run ?_;exact finW (qai 2)
  have he:onE r id d=0:=by unfold onE;rw[vd (fun e=>e h0),vd (by rw[hd];decide)]
  rw[he,ve rfl];refine rc (qhx L r (filA r id) d h hfit hg) ?_;refine rc (qx7 L r (filA r id) d h hfit) ?_;exact za
 have he:onE r id d=askE r id:=by unfold onE;rw[ve h0]
 rw[vd h0,he,vd h0];refine runW h0 ?_;exact finW (qai _)
inductive WkR (size:Nat):List (List V)->List (List V)->Prop
 |nil:WkR size [] []
 |cons {a b:List V} {l m:List (List V)} (h:Wks a b) (hs:b.length=size) (ho:(b.all fun v=>v.one)=true) (t:WkR size l m):WkR size (a::l) (b::m)
def jfo(a b:Vdt):Bool:=decide (a.kind=b.kind) && decide (a.fil=b.fil) && decide (a.day=b.day) && decide (a.rule=b.rule) && decide (a.due=b.due) && decide (a.hls=b.hls)
theorem qmi(a b:Vdt):jfo a b=true↔a=b:=by
 unfold jfo;cases a;cases b;simp[and_assoc]
theorem qix(a:Vdt):jfo a a=true:=(qmi a a).2 rfl
theorem qt9(a b:Vdt)(ha:a.hls.length<=1048576):Den prog T 15 [.agg a.cs,.agg b.cs] (vb (jfo a b)):=by
 refine ab call15 func15 45 ?_;unfold jfo;by_cases e1:a.kind=b.kind
 case neg=>
  rw[vw e1];refine runW (vf e1) ?_;exact fin rfl
 by_cases e2:a.fil=b.fil
 case neg=>
  rw[vl e1,vw e2];refine runW (ai (vg e1) (vf e2)) ?_;exact fin rfl
 by_cases e3:a.day=b.day
 case neg=>
  rw[vl e1,vl e2,vw e3];refine runW (ai (vg e1) (ai (vg e2) (vf e3))) ?_;exact fin rfl
 by_cases e4:a.rule=b.rule
 case neg=>
  rw[vl e1,vl e2,vl e3,vw e4];refine runW (ai (vg e1) (ai (vg e2) (ai (vg e3) (vf e4)))) ?_;exact fin rfl
 by_cases e5:a.due=b.due
 case neg=>
  rw[vl e1,vl e2,vl e3,vl e4,vw e5];refine runW (ai (vg e1) (ai (vg e2) (ai (vg e3) (ai (vg e4) (vf e5))))) ?_;exact fin rfl
 rw[vl e1,vl e2,vl e3,vl e4,vl e5];refine rcW (ai (vg e1) (ai (vg e2) (ai (vg e3) (ai (vg e4) (vg e5))))) (jdh a.hls b.hls ha) ?_;exact za
theorem qv5(r:Rgs)(f:Fil)(d:Int):(vdt r f d).hls.length<=r.hls.length:=by
 have h:=qrz r.ofs r.pls r.hls f d;unfold vdt;simp only
 repeat' split
 all_goals first|exact h|exact vj _
theorem qvs(r:Rgs)(h:r.Fit)(id d:Int):(onV r id d).hls.length<=1048576:=by
 unfold onV;split
 .exact xc (qv5 _ _ _) h.hls.1
 exact vj _
end Go.Arc
