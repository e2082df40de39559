/- A part of this claim. -/
import Derived.Test.YtkmmdckcdgopgaaGreatDoorW83
import Derived.Test.YtkmmdckcdgopgaaGreatDoorW84
import Derived.Shelf.Sort.Plain
set_option maxRecDepth 100000
namespace Go.Arc
open Go.Ab Go.RowKit Go.Proofs
variable {T : Lay}
theorem wk_tups {l m:List V} (h:Wks l m):Wk (.tup l) (.tup m):= .tup h.len fun j v u e1 e2=>by
 obtain ⟨v',h1,h2⟩:=h.get e2
 rw[e1] at h1
 cases h1
 exact h2
theorem fstE_cons (x:Int) (r:List Int):fstE (x::r)=if x≠0 then x else fstE r:=rfl
theorem fstE_app:∀a b:List Int,fstE (a++b)=if fstE a≠0 then fstE a else fstE b
 | [],b=>by rw[List.nil_append,if_neg (fun e=>e rfl)]
 | x::a,b=>by
  have ih:=fstE_app a b
  rw[List.cons_append,fstE_cons,fstE_cons]
  by_cases h:x≠0
  ·rw[if_pos h,if_pos h,if_pos h]
  ·rw[if_neg h,if_neg h]; exact ih
def lstK (r:Rgs):Nat→List Elm
 | 0=>selE r
 | 1=>crtE r
 | _=>depE r
def preK (r:Rgs):Nat→List Elm
 | 0=>[]
 | 1=>selE r
 | _=>selE r++crtE r
def errK (r:Rgs) (k:Nat):Int×Int:=(0,listE r.fls (preK r k) (lstK r k))
def psK (r:Rgs):Nat→List (Int×Bool)
 | 0=>[]
 | k+1=>if 1024<(lstK r k).length then psK r k else elsM r.fls (preK r k) none (psK r k) (lstK r k)
theorem checkG_eq (r:Rgs):checkG r=if listsE r≠0 then listsE r else fstE ((List.range' 0 3).map fun j=>(errK r j).2):=fstE_app [(checkO r.ofs).2,(check r.pls).2,(checkF r.ofs r.pls r.fls).2,(checkR r.rls).2,(checkH r.hls).2] [listE r.fls [] (selE r),listE r.fls (selE r) (crtE r),listE r.fls (selE r++crtE r) (depE r)]
theorem listE_ok {fs:List Fil} {pre l:List Elm} (h:listE fs pre l=0):l.length≤1024∧elsE fs pre none l=0:=by
 unfold listE at h
 by_cases hb:1024<l.length
 ·rw[if_pos hb] at h; cases h
 ·rw[if_neg hb] at h; exact ⟨by omega,h⟩
theorem psK_get (r:Rgs):∀k,k<3→(∀j,j<k→(errK r j).2=0)→∀n,getG (psK r k) n=goneB (preK r k) n
 | 0,_,_=>fun n=>rfl
 | k+1,hk,h=>by
  have h0:=h k (Nat.lt_succ_self k)
  obtain ⟨h1,h2⟩:=listE_ok h0
  have ih:=psK_get r k (by omega) fun j hj=>h j (by omega)
  unfold psK
  rw[if_neg (by omega)]
  intro n
  rw[elsM_get r.fls _ _ _ _ ih h2]
  match k,hk with
  | 0,_=>rfl
  | 1,_=>rfl
theorem lstK_fit {r:Rgs} (h:r.Fit) (k:Nat):(lstK r k).length≤1048576∧∀x∈lstK r k,x.fls.length≤1048576:=by
 match k with
 | 0=>exact ⟨by show (selE r).length≤1048576; unfold selE; rw[List.length_map]; exact h.sls.1,fun x hx=>by
   obtain ⟨s,hs,rfl⟩:=List.mem_map.1 hx; exact h.sls.2 s hs⟩
 | 1=>exact ⟨by show (crtE r).length≤1048576; unfold crtE; rw[List.length_map]; exact h.crs.1,fun x hx=>by
   obtain ⟨s,hs,rfl⟩:=List.mem_map.1 hx; exact (h.crs.2 s hs).1⟩
 | n+2=>exact ⟨by show (depE r).length≤1048576; unfold depE; rw[List.length_map]; exact h.dps,fun x hx=>by
   obtain ⟨s,hs,rfl⟩:=List.mem_map.1 hx; show [s.fil].length≤1048576; simp⟩
set_option maxHeartbeats 4000000 in
theorem den_CheckG (L:LibC T) (r:Rgs) (h:r.Fit):Den Tryz.prog T 12 [.agg r.cs] (vi (checkG r)):=by
 have hs:=h.sls.1
 have hc:=h.crs.1
 have hd:=h.dps
 rw[checkG_eq]
 refine den_of_body follows (fun args w=>Tryz.call12 args w) Tryz.func12 rfl 93 rfl ?_
 refine run ?_
 refine call (den_lists L r h) ?_
 by_cases h0:listsE r=0
 ·rw[if_neg (by rw[h0]; decide)]
  refine runW h0 ?_
  refine loop ⟨[1,4,5,6,23,24,25],[1],[4],[(4,109,4)]⟩ (fun k:Nat=>k≤r.sls.length) (fun k=>r.sls.length-k)
   (fun k=>⟨93,[(1,.p 1 0),(4,.v (elms ((r.sls.take k).map Sel.el))),(5,.v (.val (.slice none 0 0))),(6,.v (.val (.slice none 0 0))),(23,.v (sels r.sls)),(24,.v (vi r.sls.length)),(25,.v (vi k))],[(1,.var r.cs)],[(109,[4])]⟩) 0 (Nat.zero_le _) ?_
  intro k hk
  by_cases hlt:k<r.sls.length
  ·obtain ⟨x,hx,-,-⟩:=drop_at hlt
   have hts:((r.sls.take k).map Sel.el).map Elm.cs++[[vi x.smp,vi x.day,ints x.fls,vb false]]=((r.sls.take (k+1)).map Sel.el).map Elm.cs:=by
    rw[List.take_succ_eq_append_getElem hlt,List.map_append,List.map_append]
    obtain ⟨_,rfl⟩:=List.getElem?_eq_some_iff.1 hx
    rfl
   refine runW (And.intro hx hts) ?_
   exact round (k+1) hlt (by omega)
  have hkl:k=r.sls.length:=by omega
  subst hkl
  rw[List.take_length]
  obtain ⟨S,hS⟩:∃S,r.sls.map Sel.el=S:=⟨_,rfl⟩
  rw[hS]
  refine run ?_
  refine loop ⟨[1,4,5,6,41,42,43],[1],[5],[(5,109,4)]⟩ (fun k:Nat=>k≤r.crs.length) (fun k=>r.crs.length-k)
   (fun k=>⟨93,[(1,.p 1 0),(4,.v (elms S)),(5,.v (elms ((r.crs.take k).map Crt.el))),(6,.v (.val (.slice none 0 0))),(41,.v (crts r.crs)),(42,.v (vi r.crs.length)),(43,.v (vi k))],[(1,.var r.cs)],[(109,[5])]⟩) 0 (Nat.zero_le _) ?_
  intro k hk
  by_cases hlt:k<r.crs.length
  ·obtain ⟨x,hx,-,-⟩:=drop_at hlt
   have hts:((r.crs.take k).map Crt.el).map Elm.cs++[[vi x.num,vi x.day,ints x.fls,vb true]]=((r.crs.take (k+1)).map Crt.el).map Elm.cs:=by
    rw[List.take_succ_eq_append_getElem hlt,List.map_append,List.map_append]
    obtain ⟨_,rfl⟩:=List.getElem?_eq_some_iff.1 hx
    rfl
   refine runW (And.intro hx hts) ?_
   exact round (k+1) hlt (by omega)
  have hkl:k=r.crs.length:=by omega
  subst hkl
  rw[List.take_length]
  obtain ⟨C,hC⟩:∃C,r.crs.map Crt.el=C:=⟨_,rfl⟩
  rw[hC]
  refine run ?_
  refine loop ⟨[1,4,5,6,59,60,61],[1],[6],[(6,109,4)]⟩ (fun k:Nat=>k≤r.dps.length) (fun k=>r.dps.length-k)
   (fun k=>⟨93,[(1,.p 1 0),(4,.v (elms S)),(5,.v (elms C)),(6,.v (elms ((r.dps.take k).map Dep.el))),(59,.v (deps r.dps)),(60,.v (vi r.dps.length)),(61,.v (vi k))],[(1,.var r.cs)],[(109,[6])]⟩) 0 (Nat.zero_le _) ?_
  intro k hk
  by_cases hlt:k<r.dps.length
  ·obtain ⟨x,hx,-,-⟩:=drop_at hlt
   have hts:((r.dps.take k).map Dep.el).map Elm.cs++[[vi 1,vi x.day,.slice 1 [[vi x.fil]],vb true]]=((r.dps.take (k+1)).map Dep.el).map Elm.cs:=by
    rw[List.take_succ_eq_append_getElem hlt,List.map_append,List.map_append]
    obtain ⟨_,rfl⟩:=List.getElem?_eq_some_iff.1 hx
    rfl
   refine runW (And.intro hx hts) ?_
   exact round (k+1) hlt (by omega)
  have hkl:k=r.dps.length:=by omega
  subst hkl
  rw[List.take_length]
  obtain ⟨D,hD⟩:∃D,r.dps.map Dep.el=D:=⟨_,rfl⟩
  rw[hD]
  have hrow:∀k,k<3→[[elms S],[elms C],[elms D]][k]? = some [elms (lstK r k)]:=fun k hk=>by
   rw[← hS,← hC,← hD]
   match k,hk with
   | 0,_=>rfl
   | 1,_=>rfl
   | 2,_=>rfl
  refine run ?_
  refine aw_name 75 ?_
  intro b hb
  clear hb
  obtain ⟨R,hR⟩:∃R,[[elms S],[elms C],[elms D]]=R:=⟨_,rfl⟩
  have hRl:R.length=3:=by rw[← hR]; rfl
  rw[hR] at hrow
  refine loop ⟨[1,13,79,80,81],[1,75],[],[]⟩ (fun k:Nat=>k≤3∧∀j,j<k→(errK r j).2=0) (fun k=>3-k)
   (fun k=>⟨93,[(1,.p 1 0),(13,.m 75),(79,.v (.slice 1 R)),(80,.v (vi 3)),(81,.v (vi k))],[(1,.var r.cs),(75,.map (mapG (psK r k)) (some b))],[]⟩) 0 ⟨by decide,fun j hj=>absurd hj (Nat.not_lt_zero j)⟩ ?_ (by rw[← hR]; rfl)
  rintro k ⟨hk,hall⟩
  by_cases hlt:k<3
  ·have hkR:k<R.length:=by omega
   have hg:=hrow k hlt
   have hfit:=lstK_fit h k
   have hps:=psK_get r k hlt hall
   refine runW hg ?_
   have hden:=denS_elements (T:=T) r h (lstK r k) hfit.1 hfit.2 (preK r k) (psK r k) hps b
   rw[show (if 1024<(lstK r k).length then psK r k else elsM r.fls (preK r k) none (psK r k) (lstK r k))=psK r (k+1) from rfl,show listE r.fls (preK r k) (lstK r k)=(errK r k).2 from rfl] at hden
   refine callS [(999000,75)] hden (.cons (.v _) (.cons (.v _) (.cons (.m rfl) .nil))) ?_ ?_
   ·intro y hy
    simp only[List.mem_singleton] at hy
    subst hy
    exact ⟨75,_,rfl,rfl,rfl,.inr rfl,rfl⟩
   by_cases hz:(errK r k).2=0
   ·refine runW hz ?_
    refine round (k+1) ⟨hlt,fun j hj=> ?_⟩ (by omega)
    by_cases hjk:j=k
    ·subst hjk; exact hz
    ·exact hall j (by omega)
   ·refine runW hz ?_
    refine fin (vi_eq ?_)
    have:=fst_at (errK r) 3 k 0 hlt (fun j hj=>by rw[Nat.zero_add]; exact hall j hj) (by rw[Nat.zero_add]; exact hz)
    rw[this,Nat.zero_add]
  ·refine run ?_
   refine fin (vi_eq ?_)
   exact (fst_end (errK r) 3 0 fun j hj=>by rw[Nat.zero_add]; exact hall j (by omega)).symm
 ·rw[if_pos h0]
  refine runW h0 ?_
  exact fin rfl
end Go.Arc
set_option maxRecDepth 100000
namespace Go.Arc
open Go.Ab Go.RowKit Go.Proofs
variable {T : Lay}
abbrev filZ:List V:=[vi 0,vi 0,vi 0,vi 0,.str [],.str [],vi 0,.val (.slice none 0 0)]
def askE (r:Rgs) (id:Int):Int:=if checkG r≠0 then 1 else if findF r.fls id<0 then 7 else 0
theorem askE_1 {r:Rgs} {id:Int} (h:checkG r≠0):askE r id=1:=if_pos h
theorem askE_7 {r:Rgs} {id:Int} (h:checkG r=0) (h2:findF r.fls id<0):askE r id=7:=by unfold askE; rw[if_neg (fun e=>e h),if_pos h2]
theorem askE_0 {r:Rgs} {id:Int} (h:checkG r=0) (h2:¬findF r.fls id<0):askE r id=0:=by unfold askE; rw[if_neg (fun e=>e h),if_neg h2]
def filA (r:Rgs) (id:Int):Fil:=match r.fls.find? (isIdF id) with
 | some f=>f
 | none=>⟨0,0,0,0,[],[],0,[]⟩
theorem find_fil {r:Rgs} {id:Int} (h:¬findF r.fls id<0):∃k:Nat,findF r.fls id=k∧k<r.fls.length∧r.fls[k]? = some (filA r id)∧filA r id∈r.fls∧(filA r id).id=id:=by
 rcases ix_fnd (isIdF id) r.fls with ⟨h1,-⟩ | ⟨k,q,h1,h2,h3,h4,h5⟩
 ·exact absurd (show findF r.fls id<0 by unfold findF; rw[h1]; decide) h
 ·have he:filA r id=q:=by unfold filA; rw[h5]
  rw[he]
  exact ⟨k,h1,h2,h3,h4,of_decide_eq_true (p:=q.id=id) (show isIdF id q=true from List.find?_some (p:=isIdF id) h5)⟩
theorem den_find11 (L:LibC T) (r:Rgs) (h:r.Fit) (id:Int):Den Tryz.prog T 59 [.agg r.cs,vi id] (if askE r id=0 then .tup [.agg (filA r id).cs,vi 0] else .tup [.agg filZ,vi (askE r id)]):=by
 have hf:=h.fls.1
 refine den_of_body follows (fun args w=>Tryz.call59 args w) Tryz.func59 rfl 23 rfl ?_
 refine run ?_
 refine call (den_CheckG L r h) ?_
 by_cases h1:checkG r=0
 ·refine runW h1 ?_
  refine call (den_FindF r.fls id hf) ?_
  by_cases h2:findF r.fls id<0
  ·rw[askE_7 h1 h2,if_neg (by decide)]
   refine runW (eq_true h2) ?_
   exact fin rfl
  ·obtain ⟨k,hk,hlt,hx,-,-⟩:=find_fil h2
   rw[askE_0 h1 h2,if_pos rfl]
   have h2':¬((k:Int)<0):=by omega
   rw[hk]
   refine runW (And.intro hx (eq_false h2')) ?_
   exact fin rfl
 ·rw[askE_1 h1,if_neg (by decide)]
  refine runW h1 ?_
  exact fin rfl
def onE (r:Rgs) (id d:Int):Int:=if askE r id≠0 then askE r id else if dayG d=false then 2 else 0
def vdtZ:Vdt:=⟨0,0,0,0,0,[]⟩
def onV (r:Rgs) (id d:Int):Vdt:=if onE r id d=0 then vdt r (filA r id) d else vdtZ
theorem filA_fit {r:Rgs} (h:r.Fit) {id:Int} (h2:¬findF r.fls id<0):(filA r id).Fit:=by
 obtain ⟨k,-,-,-,hm,-⟩:=find_fil h2
 exact h.fls.2 _ hm
theorem ask_ok {r:Rgs} {id:Int} (h:askE r id=0):checkG r=0∧¬findF r.fls id<0:=by
 unfold askE at h
 split at h
 ·cases h
 rename_i h1
 split at h
 ·cases h
 ·exact ⟨by omega,by assumption⟩
theorem wk_vdtZ (e:Int):Wk (.tup [.agg (vcs 0 0 0 0 0 (.val (.slice none 0 0))),vi e]) (.tup [.agg vdtZ.cs,vi e]):=wk_tups (.cons (wk_vcs 0 0 0 0 0) (.cons (.refl _) .nil))
theorem den_vdt (L:LibC T) (r:Rgs) (f:Fil) (d:Int) (hr:r.Fit) (hf:f.Fit):Den Tryz.prog T 62 [.agg (lokOf r f d).cs] (.agg (vdt r f d).cs):=by
 rw[← vdt_L]
 exact den_decide L (lokOf r f d) hr hf (Nat.le_trans (rulesF_len r f d) hr.rls.1)
theorem den_On (L:LibC T) (r:Rgs) (h:r.Fit) (id d:Int):Den Tryz.prog T 14 [.agg r.cs,vi id,vi d] (.tup [.agg (onV r id d).cs,vi (onE r id d)]):=by
 refine den_of_body follows (fun args w=>Tryz.call14 args w) Tryz.func14 rfl 29 rfl ?_
 refine run ?_
 refine call (den_find11 L r h id) ?_
 unfold onV
 by_cases h0:askE r id=0
 ·rw[if_pos h0]
  obtain ⟨h1,h2⟩:=ask_ok h0
  have hfit:=filA_fit h h2
  have hg:=(okG_of h1).goodR
  refine run ?_
  refine call (den_isDay11 d) ?_
  cases hd:dayG d
  ·have he:onE r id d=2:=by unfold onE; rw[if_neg (fun e=>e h0),if_pos hd]
   rw[he,if_neg (by decide)]
   refine run ?_
   exact finW (wk_vdtZ 2)
  ·have he:onE r id d=0:=by unfold onE; rw[if_neg (fun e=>e h0),if_neg (by rw[hd]; decide)]
   rw[he,if_pos rfl]
   refine run ?_
   refine call (den_newLook L r (filA r id) d h hfit hg) ?_
   refine run ?_
   refine call (den_vdt L r (filA r id) d h hfit) ?_
   refine run ?_
   exact fin rfl
 ·have he:onE r id d=askE r id:=by unfold onE; rw[if_pos h0]
  rw[if_neg h0,he,if_neg h0]
  refine runW h0 ?_
  exact finW (wk_vdtZ _)
def dueE (r:Rgs) (k d:Int):Int:=if checkG r≠0 then 1 else if k<0∨9<k∨dayG d=false then 2 else 0
def dueLs (r:Rgs) (k d:Int):List Int:=if dueE r k d=0 then (r.fls.filter fun f=>decide ((vdt r f d).kind=k)).map (·.id) else []
theorem dueF_snoc (r:Rgs) (k d:Int) {j:Nat} {f:Fil} (hf:r.fls[j]? = some f):((r.fls.take (j+1)).filter fun f=>decide ((vdt r f d).kind=k)).map (·.id)=((r.fls.take j).filter fun f=>decide ((vdt r f d).kind=k)).map (·.id)++(if (vdt r f d).kind=k then [f.id] else []):=by
 obtain ⟨hlt,rfl⟩:=List.getElem?_eq_some_iff.1 hf
 rw[List.take_succ_eq_append_getElem hlt,List.filter_append,List.map_append]
 congr 1
 by_cases h:(vdt r r.fls[j] d).kind=k
 ·rw[if_pos h,List.filter_cons,if_pos (decide_eq_true h)]; rfl
 ·rw[if_neg h,List.filter_cons,if_neg (by rw[decide_eq_true_eq]; exact h)]; rfl
theorem den_DueG (L:LibC T) (r:Rgs) (h:r.Fit) (k d:Int):Den Tryz.prog T 32 [.agg r.cs,vi k,vi d] (.tup [ints (dueLs r k d),vi (dueE r k d)]):=by
 have hf:=h.fls.1
 refine den_of_body follows (fun args w=>Tryz.call32 args w) Tryz.func32 rfl 47 rfl ?_
 refine run ?_
 refine call (den_CheckG L r h) ?_
 unfold dueLs
 by_cases h1:checkG r=0
 case neg=>
  have he:dueE r k d=1:=if_pos h1
  rw[he,if_neg (by decide)]
  refine runW h1 ?_
  exact finW (wk_tups (.cons (.nil 1) (.cons (.refl _) .nil)))
 have hg:=(okG_of h1).goodR
 by_cases g1:k<0
 ·have he:dueE r k d=2:=by unfold dueE; rw[if_neg (fun e=>e h1),if_pos (.inl g1)]
  rw[he,if_neg (by decide)]
  refine runW (And.intro h1 (eq_true g1)) ?_
  exact finW (wk_tups (.cons (.nil 1) (.cons (.refl _) .nil)))
 by_cases g2:9<k
 ·have he:dueE r k d=2:=by unfold dueE; rw[if_neg (fun e=>e h1),if_pos (.inr (.inl g2))]
  rw[he,if_neg (by decide)]
  refine runW (And.intro h1 (And.intro (eq_false g1) (eq_true g2))) ?_
  exact finW (wk_tups (.cons (.nil 1) (.cons (.refl _) .nil)))
 refine runW (And.intro h1 (And.intro (eq_false g1) (eq_false g2))) ?_
 refine call (den_isDay11 d) ?_
 cases hd:dayG d
 ·have he:dueE r k d=2:=by unfold dueE; rw[if_neg (fun e=>e h1),if_pos (.inr (.inr hd))]
  rw[he,if_neg (by decide)]
  refine run ?_
  exact finW (wk_tups (.cons (.nil 1) (.cons (.refl _) .nil)))
 have he:dueE r k d=0:=by
  unfold dueE
  rw[if_neg (fun e=>e h1),if_neg]
  rintro (e | e | e)
  ·exact g1 e
  ·exact g2 e
  ·rw[hd] at e; cases e
 rw[he,if_pos rfl]
 refine run ?_
 refine loop ⟨[1,2,3,8,26,27,28],[3],[8],[(8,3,1)]⟩ (fun y:Nat×List Int=>y.1≤r.fls.length∧y.2.length≤y.1∧y.2=((r.fls.take y.1).filter fun f=>decide ((vdt r f d).kind=k)).map (·.id)) (fun y=>r.fls.length-y.1)
  (fun y=>⟨47,[(1,.v (vi k)),(2,.v (vi d)),(3,.p 3 0),(8,.v (ints y.2)),(26,.v (fils r.fls)),(27,.v (vi r.fls.length)),(28,.v (vi y.1))],[(3,.var r.cs)],[(3,[8])]⟩) (0,[]) ⟨Nat.zero_le _,Nat.le_refl _,rfl⟩ ?_
 rintro ⟨j,out⟩ ⟨hj,hlen,ho⟩
 simp only at hj hlen ho
 by_cases hjl:j<r.fls.length
 ·obtain ⟨f,hx,-,hm⟩:=drop_at hjl
  have hsn:=dueF_snoc r k d hx
  rw[← ho] at hsn
  have hff:=h.fls.2 f hm
  refine runW hx ?_
  refine call (den_newLook L r f d h hff hg) ?_
  refine run ?_
  refine call (den_vdt L r f d h hff) ?_
  by_cases hk:(vdt r f d).kind=k
  ·rw[if_pos hk] at hsn
   have hap:out.map Cint++[[V.val (.int .i64 f.id)]]=(out++[f.id]).map Cint:=by simp
   refine runW (And.intro hk hap) ?_
   exact round (j+1,out++[f.id]) ⟨by simp only; omega,by simp; omega,by simp only; rw[hsn]⟩ (by simp only; omega)
  ·rw[if_neg hk,List.append_nil] at hsn
   refine runW (eq_false hk) ?_
   exact round (j+1,out) ⟨by simp only; omega,by simp only; omega,by simp only; rw[hsn]⟩ (by simp only; omega)
 ·refine run ?_
  refine fin ?_
  rw[ho,List.take_of_length_le (by omega)]
end Go.Arc
set_option maxRecDepth 100000
namespace Go.Arc
open Go.Ab Go.RowKit Go.Proofs
variable {T : Lay}
theorem timV_vdt {r:Rgs} {f:Fil} {d:Int} (h0:state f d≠0) (h1:gone1 r f d=false) (h2:gone2 r f d=false) (hl:rulesF r f d≠[]) (hs:state f d≠1) (hk:(rulesF r f d).find? keepB=none):vdt r f d=timV r f d (rulesF r f d):=by
 unfold vdt timV
 simp only[h0,h1,h2,hl,hs,if_false,Bool.false_eq_true,hk]
 cases (rulesF r f d).find? (waitB f d) <;> rfl
set_option maxHeartbeats 2000000 in
theorem den_DecideRef (L:LibC T) (r:Rgs) (f:Fil) (d:Int) (hr:r.Fit) (hok:OkG r) (hfm:f∈r.fls) (hd:d≤1048575):Den Tryz.prog T 91 [.agg r.cs,.agg f.cs,vi d] (.agg (vdt r f d).cs):=by
 have hf:=hr.fls.2 f hfm
 have hgo:=hok.gone f
 have hc:=hr.crs.1
 have hdp:=hr.dps
 refine den_of_body follows (fun args w=>Tryz.call91 args w) Tryz.func91 rfl 84 rfl ?_
 by_cases hop:d<f.opn
 ·have hs0:state f d=0:=if_pos hop
  have hv:vdt r f d=⟨0,f.id,d,0,0,[]⟩:=by unfold vdt; simp only[hs0,if_true]
  rw[hv]
  refine runW (eq_true hop) ?_
  exact finW (wk_vcs _ _ _ _ _)
 have hs0:state f d≠0:=by
  unfold state
  rw[if_neg hop]
  split <;> decide
 refine runW (eq_false hop) ?_
 refine call (den_Gone r hr f.id r.crs.length r.dps.length (Nat.le_refl _) (Nat.le_refl _)) ?_
 have key:∀(t by':Int),goneR r f.id r.crs.length r.dps.length=(t,by')→(by'≠0∧t≤d→vdt r f d=⟨by',f.id,d,0,0,[]⟩)∧(¬(by'≠0∧t≤d)→gone1 r f d=false∧gone2 r f d=false):=fun t by' he=>by
  rcases hgo with ⟨t1,e1,e2⟩ | ⟨t1,e1,e2⟩ | ⟨e1,e2⟩
  ·rw[he] at e1
   cases e1
   obtain ⟨a1,a2⟩:=e2 d
   refine ⟨fun h=> ?_,fun h=> ?_⟩
   ·rw[decide_eq_true h.2] at a1
    unfold vdt
    simp only[hs0,a1,if_true,if_false]
   ·have:¬t≤d:=fun e=>h ⟨by decide,e⟩
    rw[decide_eq_false this] at a1
    exact ⟨a1,a2⟩
  ·rw[he] at e1
   cases e1
   obtain ⟨a1,a2⟩:=e2 d
   refine ⟨fun h=> ?_,fun h=> ?_⟩
   ·rw[decide_eq_true h.2] at a2
    unfold vdt
    simp only[hs0,a1,a2,if_true,if_false,Bool.false_eq_true]
   ·have:¬t≤d:=fun e=>h ⟨by decide,e⟩
    rw[decide_eq_false this] at a2
    exact ⟨a1,a2⟩
  ·rw[he] at e1
   cases e1
   exact ⟨fun h=>absurd rfl h.1,fun _=>e2 d⟩
 obtain ⟨⟨t,by'⟩,he⟩:∃y,goneR r f.id r.crs.length r.dps.length=y:=⟨_,rfl⟩
 obtain ⟨k1,k2⟩:=key t by' he
 rw[he]
 by_cases hb:by'=0
 ·obtain ⟨g1,g2⟩:=k2 fun e=>e.1 hb
  refine runW hb ?_
  refine callO (den_RulesRef L r f d hr hf hok.goodR hok.goodL) ?_
  by_cases hnil:rulesF r f d=[]
  ·have hv:vdt r f d=⟨0,f.id,d,0,0,[]⟩:=by unfold vdt; simp only[hs0,g1,g2,hnil,if_true,if_false,Bool.false_eq_true]
   rw[hv,hnil]
   refine run ?_
   exact finW (wk_vcs _ _ _ _ _)
  have hlp:=List.length_pos_iff.2 hnil
  have hmem:∀q∈rulesF r f d,q∈r.rls:=fun q h=>rulesF_mem h
  have hlen:=rulesF_len r f d
  have hrb:=hr.rls.1
  by_cases hst:state f d=1
  ·have hv:vdt r f d=⟨3,f.id,d,0,0,[]⟩:=by
    unfold vdt
    simp only[g1,g2,hnil,if_false,Bool.false_eq_true]
    rw[if_neg hs0,if_pos hst]
   rw[hv]
   have hz:¬((rulesF r f d).length:Int)=0:=by omega
   obtain ⟨rs,hrs⟩:∃rs,rulesF r f d=rs:=⟨_,rfl⟩
   rw[hrs] at hz hlp ⊢
   refine runW (eq_false hz) ?_
   refine call (den_StateRef f d) ?_
   refine runW hst ?_
   exact finW (wk_vcs _ _ _ _ _)
  have htv:=fun hk=>timV_vdt (r:=r) (f:=f) (d:=d) hs0 g1 g2 hnil hst hk
  have hkv:∀q,(rulesF r f d).find? keepB=some q→vdt r f d=⟨4,f.id,d,q.id,0,[]⟩:=fun q hq=>by unfold vdt; simp only[hs0,g1,g2,hnil,hst,if_false,Bool.false_eq_true,hq]
  obtain ⟨rs,hrs⟩:∃rs,rulesF r f d=rs:=⟨_,rfl⟩
  rw[hrs] at hlp hmem hlen htv hkv hnil ⊢
  have hz:¬(rs.length:Int)=0:=by omega
  refine runW (eq_false hz) ?_
  refine call (den_StateRef f d) ?_
  refine runW (eq_false hst) ?_
  refine loop ⟨[2,3,4,6,7,10,11],[3,4,6,7],[],[]⟩ (fun k:Nat=>k≤rs.length∧∀q∈rs.take k,keepB q=false) (fun k=>rs.length-k)
   (fun k=>⟨84,[(2,.v (vi d)),(3,.p 3 0),(4,.p 4 0),(6,.p 6 0),(7,.p 7 0),(10,.v (ruls rs)),(11,.v (vi k))],[(3,.var r.cs),(4,.var f.cs),(6,.var (vcs 0 0 0 0 0 (.val (.slice none 0 0)))),(7,.var (vcs 0 f.id d 0 0 (.val (.slice none 0 0))))],[]⟩) 0 ⟨Nat.zero_le _,by simp⟩ ?_
  rintro k ⟨hk,hall⟩
  by_cases hlt:k<rs.length
  ·obtain ⟨x,hx,-,hm⟩:=drop_at hlt
   by_cases ha:x.act=3
   ·rw[hkv x (find_at' hall hx (decide_eq_true ha))]
    refine runD (And.intro hx ha) ?_
    refine aw_tree ((.one 0 (.one 1 (.one 5 (.alt 2 (.one 3 (.alt 4 (.alt 6 (.one 7 (.alt 8 .done .nil)) .nil) (.alt 6 (.alt 4 (.one 7 (.alt 8 .done .nil)) .nil) .nil))) (.alt 6 (.alt 2 (.one 3 (.alt 4 (.one 7 (.alt 8 .done .nil)) .nil)) .nil) .nil)))))) ?_
    refine runTree hx ?_
    refine run ?_
    exact finW (wk_vcs _ _ _ _ _)
   ·refine runW (And.intro hx (eq_false ha)) ?_
    exact round (k+1) ⟨hlt,take_snoc hall hx (decide_eq_false ha)⟩ (by omega)
  ·rw[htv (find_no' (take_all hall hlt))]
   refine run ?_
   refine call (den_timedRef L r f d rs hr hf hok hfm hd hnil hmem (by omega)) ?_
   refine run ?_
   exact fin rfl
 by_cases ht:t≤d
 ·rw[k1 ⟨hb,ht⟩]
  refine runW (And.intro hb (eq_true ht)) ?_
  exact finW (wk_vcs _ _ _ _ _)
 ·obtain ⟨g1,g2⟩:=k2 fun e=>ht e.2
  refine runW (And.intro hb (eq_false ht)) ?_
  refine callO (den_RulesRef L r f d hr hf hok.goodR hok.goodL) ?_
  by_cases hnil:rulesF r f d=[]
  ·have hv:vdt r f d=⟨0,f.id,d,0,0,[]⟩:=by unfold vdt; simp only[hs0,g1,g2,hnil,if_true,if_false,Bool.false_eq_true]
   rw[hv,hnil]
   refine run ?_
   exact finW (wk_vcs _ _ _ _ _)
  have hlp:=List.length_pos_iff.2 hnil
  have hmem:∀q∈rulesF r f d,q∈r.rls:=fun q h=>rulesF_mem h
  have hlen:=rulesF_len r f d
  have hrb:=hr.rls.1
  by_cases hst:state f d=1
  ·have hv:vdt r f d=⟨3,f.id,d,0,0,[]⟩:=by
    unfold vdt
    simp only[g1,g2,hnil,if_false,Bool.false_eq_true]
    rw[if_neg hs0,if_pos hst]
   rw[hv]
   have hz:¬((rulesF r f d).length:Int)=0:=by omega
   obtain ⟨rs,hrs⟩:∃rs,rulesF r f d=rs:=⟨_,rfl⟩
   rw[hrs] at hz hlp ⊢
   refine runW (eq_false hz) ?_
   refine call (den_StateRef f d) ?_
   refine runW hst ?_
   exact finW (wk_vcs _ _ _ _ _)
  have htv:=fun hk=>timV_vdt (r:=r) (f:=f) (d:=d) hs0 g1 g2 hnil hst hk
  have hkv:∀q,(rulesF r f d).find? keepB=some q→vdt r f d=⟨4,f.id,d,q.id,0,[]⟩:=fun q hq=>by unfold vdt; simp only[hs0,g1,g2,hnil,hst,if_false,Bool.false_eq_true,hq]
  obtain ⟨rs,hrs⟩:∃rs,rulesF r f d=rs:=⟨_,rfl⟩
  rw[hrs] at hlp hmem hlen htv hkv hnil ⊢
  have hz:¬(rs.length:Int)=0:=by omega
  refine runW (eq_false hz) ?_
  refine call (den_StateRef f d) ?_
  refine runW (eq_false hst) ?_
  refine loop ⟨[2,3,4,6,7,10,11],[3,4,6,7],[],[]⟩ (fun k:Nat=>k≤rs.length∧∀q∈rs.take k,keepB q=false) (fun k=>rs.length-k)
   (fun k=>⟨84,[(2,.v (vi d)),(3,.p 3 0),(4,.p 4 0),(6,.p 6 0),(7,.p 7 0),(10,.v (ruls rs)),(11,.v (vi k))],[(3,.var r.cs),(4,.var f.cs),(6,.var (vcs 0 0 0 0 0 (.val (.slice none 0 0)))),(7,.var (vcs 0 f.id d 0 0 (.val (.slice none 0 0))))],[]⟩) 0 ⟨Nat.zero_le _,by simp⟩ ?_
  rintro k ⟨hk,hall⟩
  by_cases hlt:k<rs.length
  ·obtain ⟨x,hx,-,hm⟩:=drop_at hlt
   by_cases ha:x.act=3
   ·rw[hkv x (find_at' hall hx (decide_eq_true ha))]
    refine runD (And.intro hx ha) ?_
    refine aw_tree ((.one 0 (.one 1 (.one 5 (.alt 2 (.one 3 (.alt 4 (.alt 6 (.one 7 (.alt 8 .done .nil)) .nil) (.alt 6 (.alt 4 (.one 7 (.alt 8 .done .nil)) .nil) .nil))) (.alt 6 (.alt 2 (.one 3 (.alt 4 (.one 7 (.alt 8 .done .nil)) .nil)) .nil) .nil)))))) ?_
    refine runTree hx ?_
    refine run ?_
    exact finW (wk_vcs _ _ _ _ _)
   ·refine runW (And.intro hx (eq_false ha)) ?_
    exact round (k+1) ⟨hlt,take_snoc hall hx (decide_eq_false ha)⟩ (by omega)
  ·rw[htv (find_no' (take_all hall hlt))]
   refine run ?_
   refine call (den_timedRef L r f d rs hr hf hok hfm hd hnil hmem (by omega)) ?_
   refine run ?_
   exact fin rfl
end Go.Arc
set_option maxRecDepth 100000
namespace Go.Arc
open Go.Ab Go.RowKit Go.Proofs
variable {T : Lay}
theorem denS_sortI11 (zs:List Int) (kk:Option (TypeId×Nat×Nat)) (hl:zs.length≤1048576):
  DenS Tryz.prog T 220 [(999000,.var (zs.map vint) none kk)] [] [.s 999000 0 zs.length 1] [(999000,.var ((sortI zs).map vint) none kk)] [] (.v (.tup [])):=
 denS_sort (fun args w=>Tryz.call220 args w) (fun blk cap zs w hH hb hz=>Any.slices_Sort_int Tryz.lays189 blk 0 cap zs w hH hb hz) zs kk hl
theorem ints_chunk11 (l:List Int):chunk 0 l.length 1 (l.map vint)=l.map Cint:=chunk_one vint l
theorem findK_i (b j:Nat) (es:List (V×V)) (cur:Option (V×V)) (r:List (Nat×Blk)):findK b ((j,.itr es cur none)::r)=findK b r:=rfl
theorem ups (ps:List (Int×Bool)) (x:Int):upsert (V.val (.int .i64 x)) (V.val (.bool true)) (mapG ps)=some (mapG (upG ps x true)):=upsert_mapG x true ps
theorem ups0 (x:Int):upsert (V.val (.int .i64 x)) (V.val (.bool true)) []=some (mapG (upG [] x true)):=upsert_mapG x true []
theorem denS_cuts1 (ps:List (Int×Bool)) (b:Nat) (f u:Int):DenS Tryz.prog T 219 (gBlk ps b) [] [.v (span f u),.v (.row [.val (.map (some b))])] (gBlk (upG (upG ps f true) u true) b) [] (.v (.tup [])):=by
 have hf:=ups ps f
 have hu:=ups (upG ps f true) u
 refine denS_of_body follows (fun args w=>Tryz.call219 args w) Tryz.func219 rfl 9 rfl rfl ?_
 refine runD trivial ?_
 refine aw_graph [⟨[ff,ff,ff,ff,ff,ff,ff,ff],8,.one 1 0⟩,⟨[ff,tt,ff,ff,ff,ff,ff,ff],7,.one 4 0⟩,⟨[ff,tt,ff,ff,tt,ff,ff,ff],6,.alt [(0,0),(2,2),(3,1),(5,3)]⟩,⟨[tt,tt,ff,ff,tt,ff,ff,ff],5,.alt [(2,4),(3,5),(5,6)]⟩,⟨[ff,tt,ff,tt,tt,ff,ff,ff],5,.alt [(0,4),(2,7),(5,6)]⟩,⟨[ff,tt,tt,ff,tt,ff,ff,ff],5,.alt [(0,2),(3,6),(5,1)]⟩,⟨[ff,tt,ff,ff,tt,tt,ff,ff],5,.alt [(0,3),(2,0),(3,4)]⟩,⟨[ff,tt,tt,ff,tt,tt,ff,ff],4,.alt [(0,7),(3,8)]⟩,⟨[tt,tt,tt,ff,tt,ff,ff,ff],4,.alt [(3,5),(5,6),(6,8)]⟩,⟨[tt,tt,ff,tt,tt,ff,ff,ff],4,.alt [(2,4),(5,3)]⟩,⟨[tt,tt,ff,ff,tt,tt,ff,ff],4,.alt [(2,4),(3,2)]⟩,⟨[ff,tt,ff,tt,tt,tt,ff,ff],4,.alt [(0,1),(2,4)]⟩,⟨[ff,tt,tt,tt,tt,ff,ff,ff],4,.alt [(0,1),(5,3)]⟩,⟨[tt,tt,ff,tt,tt,tt,ff,ff],3,.alt [(2,5)]⟩,⟨[tt,tt,tt,tt,tt,ff,ff,ff],3,.alt [(5,4),(6,3)]⟩,⟨[tt,tt,tt,ff,tt,tt,ff,ff],3,.alt [(3,3),(6,4)]⟩,⟨[ff,tt,tt,tt,tt,tt,ff,ff],3,.alt [(0,2)]⟩,⟨[tt,tt,tt,ff,tt,ff,tt,ff],3,.alt [(3,0),(5,2)]⟩,⟨[tt,tt,tt,tt,tt,ff,tt,ff],2,.alt [(5,2)]⟩,⟨[tt,tt,tt,tt,tt,tt,ff,ff],2,.alt [(6,1)]⟩,⟨[tt,tt,tt,ff,tt,tt,tt,ff],2,.alt [(3,0)]⟩,⟨[tt,tt,tt,tt,tt,tt,tt,ff],1,.alt [(7,0)]⟩,⟨[tt,tt,tt,tt,tt,tt,tt,tt],0,.fin⟩] ?_
 refine runGraph (And.intro hf hu) ?_
 refine run ?_
 exact finSm (.v (.refl _))
abbrev cutV (b:Nat):V:= .func 219 [.row [.val (.map (some b))]]
set_option maxHeartbeats 8000000 in
theorem den_cuts (r:Rgs) (f:Fil) (a b:Int) (hr:r.Fit) (hok:OkG r) (hfm:f∈r.fls) (hab:a<b):DenO Tryz.prog T 168 [.agg r.cs,.agg f.cs,span a b] 3 (ints (cutL r f a b)):=by
 have hff:=hr.fls.2 f hfm
 have hnb:=hff.2.2.1
 have hob:=hr.ofs.1
 have hpb:=hr.pls.1
 have hrb:=hr.rls.1
 have hhb:=hr.hls.1
 have hsb:=hr.sls.1
 have hcb:=hr.crs.1
 have hdb:=hr.dps
 refine denO_of_body follows (fun args w=>Tryz.call168 args w) Tryz.func168 rfl 151 rfl ?_
 refine aw_own ?_
 refine runD trivial ?_
 refine aw_graph (⟨[ff,ff,ff,ff,ff,ff,ff,ff,ff,ff,ff,ff,ff],13,.one 1 0⟩::⟨[ff,tt,ff,ff,ff,ff,ff,ff,ff,ff,ff,ff,ff],12,.one 4 0⟩::⟨[ff,tt,ff,ff,tt,ff,ff,ff,ff,ff,ff,ff,ff],11,.one 7 0⟩::⟨[ff,tt,ff,ff,tt,ff,ff,tt,ff,ff,ff,ff,ff],10,.alt [(0,0),(2,2),(5,3),(8,1),(11,4)]⟩::⟨[tt,tt,ff,ff,tt,ff,ff,tt,ff,ff,ff,ff,ff],9,.alt [(2,5),(5,6),(8,7),(11,8)]⟩::⟨[ff,tt,ff,ff,tt,ff,ff,tt,tt,ff,ff,ff,ff],9,.alt [(0,6),(2,9),(5,3),(11,12)]⟩::⟨[ff,tt,tt,ff,tt,ff,ff,tt,ff,ff,ff,ff,ff],9,.alt [(0,3),(5,7),(8,8),(11,10)]⟩::⟨[ff,tt,ff,ff,tt,tt,ff,tt,ff,ff,ff,ff,ff],9,.alt [(0,3),(2,6),(8,1),(11,8)]⟩::⟨[ff,tt,ff,ff,tt,ff,ff,tt,ff,ff,ff,tt,ff],9,.alt [(0,4),(2,8),(5,7),(8,9)]⟩::⟨[ff,tt,ff,ff,tt,tt,ff,tt,tt,ff,ff,ff,ff],8,.alt [(0,9),(2,15),(11,21)]⟩::⟨[tt,tt,tt,ff,tt,ff,ff,tt,ff,ff,ff,ff,ff],8,.alt [(3,9),(5,10),(8,11),(11,12)]⟩::⟨[tt,tt,ff,ff,tt,tt,ff,tt,ff,ff,ff,ff,ff],8,.alt [(2,9),(6,12),(8,7),(11,14)]⟩::⟨[tt,tt,ff,ff,tt,ff,ff,tt,tt,ff,ff,ff,ff],8,.alt [(2,9),(5,6),(9,14),(11,15)]⟩::⟨[tt,tt,ff,ff,tt,ff,ff,tt,ff,ff,ff,tt,ff],8,.alt [(2,9),(5,12),(8,14)]⟩::⟨[ff,tt,tt,ff,tt,tt,ff,tt,ff,ff,ff,ff,ff],8,.alt [(0,6),(8,10),(11,15)]⟩::⟨[ff,tt,tt,ff,tt,ff,ff,tt,tt,ff,ff,ff,ff],8,.alt [(0,6),(5,9),(11,13)]⟩::⟨[ff,tt,ff,ff,tt,tt,ff,tt,ff,ff,ff,tt,ff],8,.alt [(0,9),(2,13),(8,14)]⟩::⟨[ff,tt,tt,ff,tt,ff,ff,tt,ff,ff,ff,tt,ff],8,.alt [(0,5),(5,12),(8,11)]⟩::⟨[ff,tt,ff,ff,tt,ff,ff,tt,tt,ff,ff,tt,ff],8,.alt [(0,9),(2,10),(5,12)]⟩::⟨[tt,tt,ff,ff,tt,tt,ff,tt,tt,ff,ff,ff,ff],7,.alt [(2,18),(6,21),(9,23),(11,22)]⟩::⟨[tt,tt,tt,tt,tt,ff,ff,tt,ff,ff,ff,ff,ff],7,.alt [(5,12),(8,13),(11,14)]⟩::⟨[tt,tt,tt,ff,tt,tt,ff,tt,ff,ff,ff,ff,ff],7,.alt [(3,11),(6,14),(8,16),(11,10)]⟩::⟨[tt,tt,tt,ff,tt,ff,ff,tt,tt,ff,ff,ff,ff],7,.alt [(3,11),(5,15),(9,16),(11,17)]⟩::⟨[tt,tt,tt,ff,tt,ff,ff,tt,ff,ff,ff,tt,ff],7,.alt [(3,11),(5,8),(8,16)]⟩::⟨[tt,tt,ff,ff,tt,tt,tt,tt,ff,ff,ff,ff,ff],7,.alt [(2,11),(8,16),(11,12)]⟩::⟨[ff,tt,tt,ff,tt,tt,ff,tt,tt,ff,ff,ff,ff],7,.alt [(0,12),(11,19)]⟩::⟨[tt,tt,ff,ff,tt,tt,ff,tt,ff,ff,ff,tt,ff],7,.alt [(2,5),(6,10),(8,15)]⟩::⟨[tt,tt,ff,ff,tt,ff,ff,tt,tt,tt,ff,ff,ff],7,.alt [(2,11),(5,15),(11,16)]⟩::⟨[tt,tt,ff,ff,tt,ff,ff,tt,tt,ff,ff,tt,ff],7,.alt [(2,11),(5,13),(9,15)]⟩::⟨[ff,tt,tt,ff,tt,ff,ff,tt,tt,ff,ff,tt,ff],7,.alt [(0,10),(5,15)]⟩::⟨[ff,tt,tt,ff,tt,tt,ff,tt,ff,ff,ff,tt,ff],7,.alt [(0,1),(8,14)]⟩::⟨[ff,tt,ff,ff,tt,tt,ff,tt,tt,ff,ff,tt,ff],7,.alt [(0,10),(2,13)]⟩::⟨[tt,tt,tt,ff,tt,tt,ff,tt,ff,ff,ff,tt,ff],6,.alt [(3,16),(6,20),(8,22)]⟩::⟨[tt,tt,tt,tt,tt,tt,ff,tt,ff,ff,ff,ff,ff],6,.alt [(6,13),(8,14),(11,15)]⟩::⟨[tt,tt,tt,tt,tt,ff,ff,tt,tt,ff,ff,ff,ff],6,.alt [(5,13),(9,15),(11,16)]⟩::⟨[tt,tt,tt,tt,tt,ff,ff,tt,ff,ff,ff,tt,ff],6,.alt [(5,13),(8,15)]⟩::⟨[tt,tt,tt,ff,tt,tt,tt,tt,ff,ff,ff,ff,ff],6,.alt [(3,10),(8,15),(11,16)]⟩::⟨[tt,tt,ff,ff,tt,tt,tt,tt,ff,ff,ff,tt,ff],6,.alt [(2,15),(8,18)]⟩::⟨[tt,tt,tt,ff,tt,tt,ff,tt,tt,ff,ff,ff,ff],6,.alt [(3,9),(6,13),(9,15),(11,16)]⟩::⟨[tt,tt,tt,ff,tt,ff,ff,tt,tt,tt,ff,ff,ff],6,.alt [(3,10),(5,14),(11,17)]⟩::⟨[tt,tt,tt,ff,tt,ff,ff,tt,tt,ff,ff,tt,ff],6,.alt [(3,10),(5,14),(9,16)]⟩::⟨[tt,tt,ff,ff,tt,tt,tt,tt,tt,ff,ff,ff,ff],6,.alt [(2,10),(9,4),(11,14)]⟩::⟨[tt,tt,ff,ff,tt,tt,ff,tt,tt,ff,ff,tt,ff],6,.alt [(2,12),(6,13),(9,15)]⟩::⟨[tt,tt,ff,ff,tt,tt,ff,tt,tt,tt,ff,ff,ff],6,.alt [(2,10),(6,2),(11,14)]⟩::⟨[tt,tt,ff,ff,tt,ff,ff,tt,tt,tt,ff,tt,ff],6,.alt [(2,12),(5,13)]⟩::⟨[ff,tt,tt,ff,tt,tt,ff,tt,tt,ff,ff,tt,ff],6,.alt [(0,9)]⟩::⟨[tt,tt,ff,ff,tt,tt,tt,tt,tt,tt,ff,ff,ff],5,.alt [(2,19),(11,20)]⟩::⟨[tt,tt,tt,tt,tt,tt,tt,tt,ff,ff,ff,ff,ff],5,.alt [(8,12),(11,13)]⟩::⟨[tt,tt,tt,tt,tt,tt,ff,tt,tt,ff,ff,ff,ff],5,.alt [(6,11),(9,13),(11,14)]⟩::⟨[tt,tt,tt,tt,tt,tt,ff,tt,ff,ff,ff,tt,ff],5,.alt [(6,11),(8,13)]⟩::⟨[tt,tt,tt,tt,tt,ff,ff,tt,tt,tt,ff,ff,ff],5,.alt [(5,11),(11,13)]⟩::⟨[tt,tt,tt,tt,tt,ff,ff,tt,tt,ff,ff,tt,ff],5,.alt [(5,11),(9,12)]⟩::⟨[tt,tt,tt,ff,tt,tt,tt,tt,tt,ff,ff,ff,ff],5,.alt [(3,7),(9,13),(11,6)]⟩::⟨[tt,tt,tt,ff,tt,tt,tt,tt,ff,ff,ff,tt,ff],5,.alt [(3,7),(8,5)]⟩::⟨[tt,tt,tt,ff,tt,tt,ff,tt,tt,tt,ff,ff,ff],5,.alt [(3,7),(6,11),(11,10)]⟩::⟨[tt,tt,tt,ff,tt,tt,ff,tt,tt,ff,ff,tt,ff],5,.alt [(3,7),(6,3),(9,9)]⟩::⟨[tt,tt,ff,ff,tt,tt,tt,tt,tt,ff,ff,tt,ff],5,.alt [(2,2),(9,10)]⟩::⟨[tt,tt,tt,ff,tt,ff,ff,tt,tt,tt,ff,tt,ff],5,.alt [(3,6),(5,7)]⟩::⟨[tt,tt,ff,ff,tt,tt,ff,tt,tt,tt,ff,tt,ff],5,.alt [(2,6),(6,8)]⟩::⟨[tt,tt,tt,ff,tt,tt,tt,tt,tt,ff,ff,tt,ff],4,.alt [(3,11),(9,10)]⟩::⟨[tt,tt,tt,tt,tt,tt,tt,tt,tt,ff,ff,ff,ff],4,.alt [(9,8),(11,10)]⟩::⟨[tt,tt,tt,tt,tt,tt,tt,tt,ff,ff,ff,tt,ff],4,.alt [(8,9)]⟩::⟨[tt,tt,tt,tt,tt,tt,ff,tt,tt,tt,ff,ff,ff],4,.alt [(6,6),(11,5)]⟩::⟨[tt,tt,tt,tt,tt,tt,ff,tt,tt,ff,ff,tt,ff],4,.alt [(6,7),(9,4)]⟩::⟨[tt,tt,tt,tt,tt,ff,ff,tt,tt,tt,ff,tt,ff],4,.alt [(5,3)]⟩::⟨[tt,tt,tt,ff,tt,tt,ff,tt,tt,tt,ff,tt,ff],4,.alt [(3,2),(6,4)]⟩::⟨[tt,tt,tt,ff,tt,tt,tt,tt,tt,tt,ff,ff,ff],4,.alt [(3,2),(11,3)]⟩::⟨[tt,tt,ff,ff,tt,tt,tt,tt,tt,tt,ff,tt,ff],4,.alt [(2,2)]⟩::⟨[tt,tt,tt,tt,tt,tt,ff,tt,tt,tt,ff,tt,ff],3,.alt [(6,4)]⟩::⟨[tt,tt,tt,tt,tt,tt,tt,tt,tt,tt,ff,ff,ff],3,.one 10 2⟩::⟨[tt,tt,tt,ff,tt,tt,tt,tt,tt,tt,ff,tt,ff],3,.alt [(3,2)]⟩::⟨[tt,tt,tt,tt,tt,tt,tt,tt,tt,ff,ff,tt,ff],3,.alt [(9,1)]⟩::⟨[tt,tt,tt,tt,tt,tt,tt,tt,tt,tt,tt,ff,ff],2,.alt [(11,1)]⟩::⟨[tt,tt,tt,tt,tt,tt,tt,tt,tt,tt,ff,tt,ff],2,.one 10 0⟩::⟨[tt,tt,tt,tt,tt,tt,tt,tt,tt,tt,tt,tt,ff],1,.nam 27 0⟩::⟨[tt,tt,tt,tt,tt,tt,tt,tt,tt,tt,tt,tt,ff],1,.alt [(12,0)]⟩::⟨[tt,tt,tt,tt,tt,tt,tt,tt,tt,tt,tt,tt,tt],0,.fin⟩::[]) ?_
 refine graph_to (fun y:List (Int×Bool)×Nat=>Gat y.1 [a,f.opn,f.cld]) ⟨[3,4,5,7],[3,4,5,7,27],[],[]⟩ (fun y=>⟨151,[(3,.p 3 0),(4,.p 4 0),(5,.p 5 0),(7,.p 7 0)],
  [(3,.var r.cs),(4,.var f.cs),(5,.var [vi a,vi b]),(7,.var [.val (.map (some y.2))]),(27,.map (mapG y.1) (some y.2))],[]⟩) (fun st st' hk h=>aw_keep _ hk h) (fun y hy=> ?_) (fun K' hK=> ?_)
 ·obtain ⟨ps0,b0⟩:=y
  have hG0:Gat ps0 [a,f.opn,f.cld]:=hy
  clear hy
  refine run ?_
  refine loop ⟨[3,5,7,8,37,38,39],[3,5,7,27],[],[]⟩ (fun k:Nat=>k≤f.nts.length) (fun k=>f.nts.length-k)
   (fun k=>⟨151,[(3,.p 3 0),(5,.p 5 0),(7,.p 7 0),(8,.v (cutV b0)),(37,.v (ntss f.nts)),(38,.v (vi f.nts.length)),(39,.v (vi k))],[(3,.var r.cs),(5,.var [vi a,vi b]),(7,.con [.val (.map (some b0))]),(27,.map (mapG (setG ps0 ((f.nts.take k).map fun o=>o.rcd))) (some b0))],[]⟩) 0 (Nat.zero_le _) ?_
  intro k hk
  by_cases hlt:k<f.nts.length
  ·obtain ⟨x,hx,-,-⟩:=drop_at hlt
   have hsn:=setG_snoc ps0 (fun o=>o.rcd) hx
   obtain ⟨cur,hcur⟩:∃cur,setG ps0 ((f.nts.take k).map fun o=>o.rcd)=cur:=⟨_,rfl⟩
   rw[hcur] at hsn ⊢
   refine runB (And.intro hx (ups cur x.rcd)) ?_
   refine round (k+1) hlt (by omega) ?_
   rw[hsn]
   rfl
  have hkl:k=f.nts.length:=by omega
  subst hkl
  rw[List.take_length]
  have hG1:=hG0.set (f.nts.map fun o=>o.rcd)
  obtain ⟨ps1,hps1⟩:∃q,setG ps0 (f.nts.map fun o=>o.rcd)=q:=⟨_,rfl⟩
  rw[hps1] at hG1 ⊢
  clear hps1 hk hlt
  refine run ?_
  refine loop ⟨[3,5,7,8,48,49,50],[3,5,7,27],[],[]⟩ (fun k:Nat=>k≤r.ofs.length) (fun k=>r.ofs.length-k)
   (fun k=>⟨151,[(3,.p 3 0),(5,.p 5 0),(7,.p 7 0),(8,.v (cutV b0)),(48,.v (ofcs r.ofs)),(49,.v (vi r.ofs.length)),(50,.v (vi k))],[(3,.var r.cs),(5,.var [vi a,vi b]),(7,.con [.val (.map (some b0))]),(27,.map (mapG (setG ps1 (((r.ofs.take k).map fun o=>[o.frm,o.til]).flatten))) (some b0))],[]⟩) 0 (Nat.zero_le _) ?_
  intro k hk
  by_cases hlt:k<r.ofs.length
  ·obtain ⟨x,hx,-,-⟩:=drop_at hlt
   have hsn:=setG_span ps1 (fun o=>o.frm) (fun o=>o.til) hx
   obtain ⟨cur,hcur⟩:∃cur,setG ps1 (((r.ofs.take k).map fun o=>[o.frm,o.til]).flatten)=cur:=⟨_,rfl⟩
   rw[hcur] at hsn ⊢
   refine runW hx ?_
   refine callX (callS [(999000,27)] (denS_cuts1 cur b0 x.frm x.til) (.cons (.v _) (.cons (.v _) .nil)) ?_ ?_)
   ·intro y hy
    simp only[List.mem_singleton] at hy
    subst hy
    exact ⟨27,_,rfl,rfl,rfl,.inr rfl,rfl⟩
   refine run ?_
   refine round (k+1) hlt (by omega) ?_
   rw[hsn]
   rfl
  have hkl:k=r.ofs.length:=by omega
  subst hkl
  rw[List.take_length]
  have hG2:=hG1.set ((r.ofs.map fun o=>[o.frm,o.til]).flatten)
  obtain ⟨ps2,hps2⟩:∃q,setG ps1 ((r.ofs.map fun o=>[o.frm,o.til]).flatten)=q:=⟨_,rfl⟩
  rw[hps2] at hG2 ⊢
  clear hps2 hk hlt
  refine run ?_
  refine loop ⟨[3,5,7,8,60,61,62],[3,5,7,27],[],[]⟩ (fun k:Nat=>k≤r.pls.length) (fun k=>r.pls.length-k)
   (fun k=>⟨151,[(3,.p 3 0),(5,.p 5 0),(7,.p 7 0),(8,.v (cutV b0)),(60,.v (plans r.pls)),(61,.v (vi r.pls.length)),(62,.v (vi k))],[(3,.var r.cs),(5,.var [vi a,vi b]),(7,.con [.val (.map (some b0))]),(27,.map (mapG (setG ps2 (((r.pls.take k).map fun o=>[o.frm,o.til]).flatten))) (some b0))],[]⟩) 0 (Nat.zero_le _) ?_
  intro k hk
  by_cases hlt:k<r.pls.length
  ·obtain ⟨x,hx,-,-⟩:=drop_at hlt
   have hsn:=setG_span ps2 (fun o=>o.frm) (fun o=>o.til) hx
   obtain ⟨cur,hcur⟩:∃cur,setG ps2 (((r.pls.take k).map fun o=>[o.frm,o.til]).flatten)=cur:=⟨_,rfl⟩
   rw[hcur] at hsn ⊢
   refine runW hx ?_
   refine callX (callS [(999000,27)] (denS_cuts1 cur b0 x.frm x.til) (.cons (.v _) (.cons (.v _) .nil)) ?_ ?_)
   ·intro y hy
    simp only[List.mem_singleton] at hy
    subst hy
    exact ⟨27,_,rfl,rfl,rfl,.inr rfl,rfl⟩
   refine run ?_
   refine round (k+1) hlt (by omega) ?_
   rw[hsn]
   rfl
  have hkl:k=r.pls.length:=by omega
  subst hkl
  rw[List.take_length]
  have hG3:=hG2.set ((r.pls.map fun o=>[o.frm,o.til]).flatten)
  obtain ⟨ps3,hps3⟩:∃q,setG ps2 ((r.pls.map fun o=>[o.frm,o.til]).flatten)=q:=⟨_,rfl⟩
  rw[hps3] at hG3 ⊢
  clear hps3 hk hlt
  refine run ?_
  refine loop ⟨[3,5,7,8,72,73,74],[3,5,7,27],[],[]⟩ (fun k:Nat=>k≤r.rls.length) (fun k=>r.rls.length-k)
   (fun k=>⟨151,[(3,.p 3 0),(5,.p 5 0),(7,.p 7 0),(8,.v (cutV b0)),(72,.v (ruls r.rls)),(73,.v (vi r.rls.length)),(74,.v (vi k))],[(3,.var r.cs),(5,.var [vi a,vi b]),(7,.con [.val (.map (some b0))]),(27,.map (mapG (setG ps3 (((r.rls.take k).map fun o=>[o.frm,o.til]).flatten))) (some b0))],[]⟩) 0 (Nat.zero_le _) ?_
  intro k hk
  by_cases hlt:k<r.rls.length
  ·obtain ⟨x,hx,-,-⟩:=drop_at hlt
   have hsn:=setG_span ps3 (fun o=>o.frm) (fun o=>o.til) hx
   obtain ⟨cur,hcur⟩:∃cur,setG ps3 (((r.rls.take k).map fun o=>[o.frm,o.til]).flatten)=cur:=⟨_,rfl⟩
   rw[hcur] at hsn ⊢
   refine runW hx ?_
   refine callX (callS [(999000,27)] (denS_cuts1 cur b0 x.frm x.til) (.cons (.v _) (.cons (.v _) .nil)) ?_ ?_)
   ·intro y hy
    simp only[List.mem_singleton] at hy
    subst hy
    exact ⟨27,_,rfl,rfl,rfl,.inr rfl,rfl⟩
   refine run ?_
   refine round (k+1) hlt (by omega) ?_
   rw[hsn]
   rfl
  have hkl:k=r.rls.length:=by omega
  subst hkl
  rw[List.take_length]
  have hG4:=hG3.set ((r.rls.map fun o=>[o.frm,o.til]).flatten)
  obtain ⟨ps4,hps4⟩:∃q,setG ps3 ((r.rls.map fun o=>[o.frm,o.til]).flatten)=q:=⟨_,rfl⟩
  rw[hps4] at hG4 ⊢
  clear hps4 hk hlt
  refine run ?_
  refine loop ⟨[3,5,7,8,84,85,86],[3,5,7,27],[],[]⟩ (fun k:Nat=>k≤r.hls.length) (fun k=>r.hls.length-k)
   (fun k=>⟨151,[(3,.p 3 0),(5,.p 5 0),(7,.p 7 0),(8,.v (cutV b0)),(84,.v (hlds r.hls)),(85,.v (vi r.hls.length)),(86,.v (vi k))],[(3,.var r.cs),(5,.var [vi a,vi b]),(7,.con [.val (.map (some b0))]),(27,.map (mapG (setG ps4 (((r.hls.take k).map fun o=>[o.frm,o.til]).flatten))) (some b0))],[]⟩) 0 (Nat.zero_le _) ?_
  intro k hk
  by_cases hlt:k<r.hls.length
  ·obtain ⟨x,hx,-,-⟩:=drop_at hlt
   have hsn:=setG_span ps4 (fun o=>o.frm) (fun o=>o.til) hx
   obtain ⟨cur,hcur⟩:∃cur,setG ps4 (((r.hls.take k).map fun o=>[o.frm,o.til]).flatten)=cur:=⟨_,rfl⟩
   rw[hcur] at hsn ⊢
   refine runW hx ?_
   refine callX (callS [(999000,27)] (denS_cuts1 cur b0 x.frm x.til) (.cons (.v _) (.cons (.v _) .nil)) ?_ ?_)
   ·intro y hy
    simp only[List.mem_singleton] at hy
    subst hy
    exact ⟨27,_,rfl,rfl,rfl,.inr rfl,rfl⟩
   refine run ?_
   refine round (k+1) hlt (by omega) ?_
   rw[hsn]
   rfl
  have hkl:k=r.hls.length:=by omega
  subst hkl
  rw[List.take_length]
  have hG5:=hG4.set ((r.hls.map fun o=>[o.frm,o.til]).flatten)
  obtain ⟨ps5,hps5⟩:∃q,setG ps4 ((r.hls.map fun o=>[o.frm,o.til]).flatten)=q:=⟨_,rfl⟩
  rw[hps5] at hG5 ⊢
  clear hps5 hk hlt
  refine run ?_
  refine loop ⟨[3,5,7,8,96,97,98],[3,5,7,27],[],[]⟩ (fun k:Nat=>k≤r.sls.length) (fun k=>r.sls.length-k)
   (fun k=>⟨151,[(3,.p 3 0),(5,.p 5 0),(7,.p 7 0),(8,.v (cutV b0)),(96,.v (sels r.sls)),(97,.v (vi r.sls.length)),(98,.v (vi k))],[(3,.var r.cs),(5,.var [vi a,vi b]),(7,.con [.val (.map (some b0))]),(27,.map (mapG (setG ps5 ((r.sls.take k).map fun o=>o.day))) (some b0))],[]⟩) 0 (Nat.zero_le _) ?_
  intro k hk
  by_cases hlt:k<r.sls.length
  ·obtain ⟨x,hx,-,-⟩:=drop_at hlt
   have hsn:=setG_snoc ps5 (fun o=>o.day) hx
   obtain ⟨cur,hcur⟩:∃cur,setG ps5 ((r.sls.take k).map fun o=>o.day)=cur:=⟨_,rfl⟩
   rw[hcur] at hsn ⊢
   refine runB (And.intro hx (ups cur x.day)) ?_
   refine round (k+1) hlt (by omega) ?_
   rw[hsn]
   rfl
  have hkl:k=r.sls.length:=by omega
  subst hkl
  rw[List.take_length]
  have hG6:=hG5.set (r.sls.map fun o=>o.day)
  obtain ⟨ps6,hps6⟩:∃q,setG ps5 (r.sls.map fun o=>o.day)=q:=⟨_,rfl⟩
  rw[hps6] at hG6 ⊢
  clear hps6 hk hlt
  refine run ?_
  refine loop ⟨[3,5,7,8,107,108,109],[3,5,7,27],[],[]⟩ (fun k:Nat=>k≤r.crs.length) (fun k=>r.crs.length-k)
   (fun k=>⟨151,[(3,.p 3 0),(5,.p 5 0),(7,.p 7 0),(8,.v (cutV b0)),(107,.v (crts r.crs)),(108,.v (vi r.crs.length)),(109,.v (vi k))],[(3,.var r.cs),(5,.var [vi a,vi b]),(7,.con [.val (.map (some b0))]),(27,.map (mapG (setG ps6 ((r.crs.take k).map fun o=>o.day))) (some b0))],[]⟩) 0 (Nat.zero_le _) ?_
  intro k hk
  by_cases hlt:k<r.crs.length
  ·obtain ⟨x,hx,-,-⟩:=drop_at hlt
   have hsn:=setG_snoc ps6 (fun o=>o.day) hx
   obtain ⟨cur,hcur⟩:∃cur,setG ps6 ((r.crs.take k).map fun o=>o.day)=cur:=⟨_,rfl⟩
   rw[hcur] at hsn ⊢
   refine runB (And.intro hx (ups cur x.day)) ?_
   refine round (k+1) hlt (by omega) ?_
   rw[hsn]
   rfl
  have hkl:k=r.crs.length:=by omega
  subst hkl
  rw[List.take_length]
  have hG7:=hG6.set (r.crs.map fun o=>o.day)
  obtain ⟨ps7,hps7⟩:∃q,setG ps6 (r.crs.map fun o=>o.day)=q:=⟨_,rfl⟩
  rw[hps7] at hG7 ⊢
  clear hps7 hk hlt
  refine run ?_
  refine loop ⟨[3,5,7,8,118,119,120],[3,5,7,27],[],[]⟩ (fun k:Nat=>k≤r.dps.length) (fun k=>r.dps.length-k)
   (fun k=>⟨151,[(3,.p 3 0),(5,.p 5 0),(7,.p 7 0),(8,.v (cutV b0)),(118,.v (deps r.dps)),(119,.v (vi r.dps.length)),(120,.v (vi k))],[(3,.var r.cs),(5,.var [vi a,vi b]),(7,.con [.val (.map (some b0))]),(27,.map (mapG (setG ps7 ((r.dps.take k).map fun o=>o.day))) (some b0))],[]⟩) 0 (Nat.zero_le _) ?_
  intro k hk
  by_cases hlt:k<r.dps.length
  ·obtain ⟨x,hx,-,-⟩:=drop_at hlt
   have hsn:=setG_snoc ps7 (fun o=>o.day) hx
   obtain ⟨cur,hcur⟩:∃cur,setG ps7 ((r.dps.take k).map fun o=>o.day)=cur:=⟨_,rfl⟩
   rw[hcur] at hsn ⊢
   refine runB (And.intro hx (ups cur x.day)) ?_
   refine round (k+1) hlt (by omega) ?_
   rw[hsn]
   rfl
  have hkl:k=r.dps.length:=by omega
  subst hkl
  rw[List.take_length]
  have hGF:=hG7.set (r.dps.map fun o=>o.day)
  obtain ⟨psF,hpsF⟩:∃q,setG ps7 (r.dps.map fun o=>o.day)=q:=⟨_,rfl⟩
  rw[hpsF] at hGF ⊢
  clear hpsF hk hlt
  refine run ?_
  have hlen:psF.length≤4001:=by
   have h1:=hGF.len
   have h2:=hok.cuts hfm
   have h3:(a::cutsB r f).length≤4001:=by rw[List.length_cons]; omega
   exact Nat.le_trans h1 h3
  refine loopV (fun y:List (Int×Bool)×Option (V×V)×List Int×Nat×Nat=>if y.2.2.1=[] then ⟨[5,25,129],[5,129],[],[]⟩ else ⟨[5,25,129],[5,129,147],[],[]⟩)
   (fun y=>(y.2.2.1++(keysG y.1).filter (inB a b)).Perm ((keysG psF).filter (inB a b))∧(y.2.2.1≠[]→y.2.2.1.length≤y.2.2.2.2∧y.2.2.2.2≤maxLen)) (fun y=>y.1.length)
   (fun y=>if y.2.2.1=[] then ⟨151,[(5,.p 5 0),(25,.v (.val (.slice none 0 0))),(129,.p 129 0)],[(5,.var [vi a,vi b]),(129,.itr (mapG y.1) y.2.1)],[]⟩ else
    ⟨151,[(5,.p 5 0),(25,.v (.val (.slice (some ⟨y.2.2.2.1,0,none⟩) y.2.2.1.length y.2.2.2.2))),(129,.p 129 0)],[(5,.var [vi a,vi b]),(129,.itr (mapG y.1) y.2.1),(147,.var (y.2.2.1.map vint) (some y.2.2.2.1) (some (3,1,y.2.2.2.2)))],[]⟩)
   (psF,none,[],0,0) ⟨List.Perm.refl _,fun h=>absurd rfl h⟩ rfl ?_
  rintro ⟨qs,cur,out,r',cap⟩ ⟨hperm,hout⟩
  simp only at hperm hout
  have hol:out.length≤4001:=by
   have h1:=hperm.length_eq
   have h2:=List.length_filter_le (inB a b) (keysG psF)
   have h3:(keysG psF).length=psF.length:=List.length_map _
   rw[List.length_append] at h1
   omega
  have hnn:∀x:Int,[x]≠[]:=fun x=>List.cons_ne_nil _ _
  by_cases hout0:out=[]
  ·subst hout0
   simp only[if_true]
   refine run ?_
   refine ⟨fun he=> ?_,fun i k v hi=> ?_⟩
   ·exfalso
    have hq:qs=[]:=List.map_eq_nil_iff.1 he
    subst hq
    have ha:a∈(keysG psF).filter (inB a b):=List.mem_filter.2 ⟨(hGF.mem a).2 (.head _),by unfold inB; rw[decide_eq_true (Int.le_refl a),decide_eq_true hab]; rfl⟩
    have:=hperm.mem_iff.2 ha
    simp[keysG] at this
   ·obtain ⟨x,c,hqx,rfl,rfl⟩:=mapG_at hi
    have hil:=(List.getElem?_eq_some_iff.1 hqx).1
    have hel:(qs.eraseIdx i).length<qs.length:=by rw[List.length_eraseIdx_of_lt hil]; omega
    rw[mapG_erase]
    by_cases h1:a≤x
    ·by_cases h2:x<b
     ·have hin:inB a b x=true:=by unfold inB; rw[decide_eq_true h1,decide_eq_true h2]; rfl
      refine runB (And.intro (eq_true h1) (eq_true h2)) ?_
      refine appO_r ?_
      unfold appR
      refine run ?_
      intro r2 cap2 hnm g1 g2
      refine run ?_
      refine roundV (qs.eraseIdx i,some (vi x,vb c),[x],r2,cap2) ⟨out_in hperm hqx hin,fun _=>⟨by simpa using g1,g2⟩⟩ hel ?_
      show keepS (if [x]=[] then _ else _) _=some (if [x]=[] then _ else _)
      rw[if_neg (hnn x),if_neg (hnn x)]
      rfl
     ·have hin:inB a b x=false:=by unfold inB; rw[decide_eq_false h2,Bool.and_false]
      refine runW (And.intro (eq_true h1) (eq_false h2)) ?_
      refine roundV (qs.eraseIdx i,some (vi x,vb c),[],r',cap) ⟨out_no hperm hqx hin,fun h=>absurd rfl h⟩ hel ?_
      rfl
    ·have hin:inB a b x=false:=by unfold inB; rw[decide_eq_false h1,Bool.false_and]
     refine runW (eq_false h1) ?_
     refine roundV (qs.eraseIdx i,some (vi x,vb c),[],r',cap) ⟨out_no hperm hqx hin,fun h=>absurd rfl h⟩ hel ?_
     rfl
  ·simp only[hout0,if_false]
   obtain ⟨hc1,hc2⟩:=hout hout0
   have hp:=List.length_pos_iff.2 hout0
   refine run ?_
   refine ⟨fun he=> ?_,fun i k v hi=> ?_⟩
   ·have hq:qs=[]:=List.map_eq_nil_iff.1 he
    subst hq
    have hperm':out.Perm ((keysG psF).filter (inB a b)):=by
     have h2:(keysG ([]:List (Int×Bool))).filter (inB a b)=[]:=rfl
     rw[h2,List.append_nil] at hperm
     exact hperm
    have hcut:=cut_of hGF hperm'
    have hres:chunk 0 out.length 1 ((sortI out).map vint)=(cutL r f a b).map Cint:=by rw[← sortI_len out,ints_chunk11,hcut]
    refine run ?_
    refine callX (callS [(999000,147)] (denS_sortI11 out (some (3,1,cap)) (by omega)) (.cons (.sn rfl rfl hc1 hc2 hp) .nil) ?_ ?_)
    ·intro x hx
     simp only[List.mem_singleton] at hx
     subst hx
     exact ⟨147,_,rfl,rfl,rfl,.inl rfl,rfl⟩
    refine run ?_
    refine ownR 6 (id:=147) (r:=r') (n:=out.length) (cap:=cap) (size:=1) (cs:=(sortI out).map vint) (e:=3) hc1 (by rw[List.length_map,sortI_len,Nat.mul_one]) rfl (finO (.of ?_)) ?_
    ·show V.slice 1 (chunk 0 out.length 1 ((sortI out).map vint))=_
     rw[hres]
    ·simp[findN,findK,Blk.nm,nmOf,look_cons']
   ·obtain ⟨x,c,hqx,rfl,rfl⟩:=mapG_at hi
    have hil:=(List.getElem?_eq_some_iff.1 hqx).1
    have hel:(qs.eraseIdx i).length<qs.length:=by rw[List.length_eraseIdx_of_lt hil]; omega
    rw[mapG_erase]
    by_cases h1:a≤x
    ·by_cases h2:x<b
     ·have hin:inB a b x=true:=by unfold inB; rw[decide_eq_true h1,decide_eq_true h2]; rfl
      refine runB (And.intro (eq_true h1) (eq_true h2)) ?_
      refine appO_r ?_
      unfold appR
      refine runB findK_i ?_
      refine ⟨.inl trivial,?_⟩
      intro r2 cap2 hnm g1 g2
      have e1:out.map vint++[[vi x]].flatten=(out++[x]).map vint:=by simp[vint]
      have e2:out.length+[[vi x]].length=(out++[x]).length:=by simp
      rw[e1,e2]
      rw[e2] at g1
      have hne1:out++[x]≠[]:=by simp
      have hpm:=out_in hperm hqx hin
      obtain ⟨out1,ho1⟩:∃o1,out++[x]=o1:=⟨_,rfl⟩
      rw[ho1] at g1 hne1 hpm ⊢
      refine run ?_
      refine roundV (qs.eraseIdx i,some (vi x,vb c),out1,r2,cap2) ⟨hpm,fun _=>⟨g1,g2⟩⟩ hel ?_
      show keepS (if out1=[] then _ else _) _=some (if out1=[] then _ else _)
      rw[if_neg hne1,if_neg hne1]
      rfl
     ·have hin:inB a b x=false:=by unfold inB; rw[decide_eq_false h2,Bool.and_false]
      refine runW (And.intro (eq_true h1) (eq_false h2)) ?_
      refine roundV (qs.eraseIdx i,some (vi x,vb c),out,r',cap) ⟨out_no hperm hqx hin,fun _=>⟨hc1,hc2⟩⟩ hel ?_
      show keepS (if out=[] then _ else _) _=some (if out=[] then _ else _)
      rw[if_neg hout0,if_neg hout0]
      rfl
    ·have hin:inB a b x=false:=by unfold inB; rw[decide_eq_false h1,Bool.false_and]
     refine runW (eq_false h1) ?_
     refine roundV (qs.eraseIdx i,some (vi x,vb c),out,r',cap) ⟨out_no hperm hqx hin,fun _=>⟨hc1,hc2⟩⟩ hel ?_
     show keepS (if out=[] then _ else _) _=some (if out=[] then _ else _)
     rw[if_neg hout0,if_neg hout0]
     rfl
 ·have e1:=ups0 a
  have e2:=ups0 f.opn
  have e3:=ups0 f.cld
  have hL:∀ps b0,Gat ps [a,f.opn,f.cld]→K' ⟨151,[(7,.p 7 0),(34,.m 27),(33,.v (vi f.cld)),(32,.p 4 3),(31,.v (vi f.opn)),(30,.p 4 2),(29,.v (vi a)),(28,.p 5 0),(27,.m 27),(6,.v (.val (.slice none 0 0))),(5,.p 5 0),(4,.p 4 0),(3,.p 3 0),(0,.v (.agg r.cs)),(1,.v (.agg f.cs)),(2,.v (span a b))],
    [(7,.var [.val (.map (some b0))]),(27,.map (mapG ps) (some b0)),(5,.var [vi a,vi b]),(4,.var f.cs),(3,.var r.cs)],[]⟩:=fun ps b0 h=>leafK hK (ps,b0) h
  have hL2:∀ps b0,Gat ps [a,f.opn,f.cld]→K' ⟨151,[(7,.p 7 0),(34,.m 27),(33,.v (vi f.cld)),(32,.p 4 3),(31,.v (vi f.opn)),(30,.p 4 2),(29,.v (vi a)),(28,.p 5 0),(27,.m 27),(6,.v (.val (.slice none 0 0))),(5,.p 5 0),(4,.p 4 0),(3,.p 3 0),(0,.v (.agg r.cs)),(1,.v (.agg f.cs)),(2,.v (span a b))],
    [(27,.map (mapG ps) (some b0)),(7,.var [.val (.map (some b0))]),(5,.var [vi a,vi b]),(4,.var f.cs),(3,.var r.cs)],[]⟩:=fun ps b0 h=>leafK hK (ps,b0) h
  have g0:=Gat.three a f.opn f.cld (S:=[a,f.opn,f.cld]) (by intro w; simp only[List.mem_cons,List.not_mem_nil,or_false] <;> omega) rfl
  have l0:=fun b0=>hL _ b0 g0
  have m0:=fun b0=>hL2 _ b0 g0
  have g1:=Gat.three a f.cld f.opn (S:=[a,f.opn,f.cld]) (by intro w; simp only[List.mem_cons,List.not_mem_nil,or_false] <;> omega) rfl
  have l1:=fun b0=>hL _ b0 g1
  have m1:=fun b0=>hL2 _ b0 g1
  have g2:=Gat.three f.opn a f.cld (S:=[a,f.opn,f.cld]) (by intro w; simp only[List.mem_cons,List.not_mem_nil,or_false] <;> omega) rfl
  have l2:=fun b0=>hL _ b0 g2
  have m2:=fun b0=>hL2 _ b0 g2
  have g3:=Gat.three f.opn f.cld a (S:=[a,f.opn,f.cld]) (by intro w; simp only[List.mem_cons,List.not_mem_nil,or_false] <;> omega) rfl
  have l3:=fun b0=>hL _ b0 g3
  have m3:=fun b0=>hL2 _ b0 g3
  have g4:=Gat.three f.cld a f.opn (S:=[a,f.opn,f.cld]) (by intro w; simp only[List.mem_cons,List.not_mem_nil,or_false] <;> omega) rfl
  have l4:=fun b0=>hL _ b0 g4
  have m4:=fun b0=>hL2 _ b0 g4
  have g5:=Gat.three f.cld f.opn a (S:=[a,f.opn,f.cld]) (by intro w; simp only[List.mem_cons,List.not_mem_nil,or_false] <;> omega) rfl
  have l5:=fun b0=>hL _ b0 g5
  have m5:=fun b0=>hL2 _ b0 g5
  exact doneGraph (And.intro e1 (And.intro e2 (And.intro e3 (And.intro ups (And.intro (fun b0:Nat=>one_map' (some b0)) (And.intro l0 (And.intro m0 (And.intro l1 (And.intro m1 (And.intro l2 (And.intro m2 (And.intro l3 (And.intro m3 (And.intro l4 (And.intro m4 (And.intro l5 (And.intro m5 (implies_true Nat))))))))))))))))))
end Go.Arc
set_option maxRecDepth 100000
namespace Go.Arc
open Go.Ab Go.RowKit Go.Proofs
variable {T : Lay}
def pceC (p:Pce):List V:=[vi p.frm,vi p.til,vi p.val]
def rowP (out:List Pce) (r cap:Nat):Blk:= .var (out.map pceC).flatten (some r) (some (101,3,cap))
def outP (out:List Pce) (r cap:Nat):List V:=if out=[] then [.val (.slice none 0 0)] else [.val (.slice (some ⟨r,0,none⟩) out.length cap)]
def rowOP (out:List Pce) (r cap:Nat):Option Blk:=if out=[] then none else some (rowP out r cap)
theorem outP_nil (r cap:Nat):outP [] r cap=[.val (.slice none 0 0)]:=if_pos rfl
theorem outP_ne {out:List Pce} (h:out≠[]) (r cap:Nat):outP out r cap=[.val (.slice (some ⟨r,0,none⟩) out.length cap)]:=if_neg h
def PostP (a:Nat) (out':List Pce) (ks:List (Nat×Blk)) (bb:Blk) (v:V):Prop:=
 out'≠[]∧∃r cap,r≠a∧out'.length≤cap∧cap≤maxLen∧ks=[(999000,.var (outP out' r cap) (some a))]∧bb=rowP out' r cap∧v= .tup []
theorem flat_len (out:List Pce):((out.map pceC).flatten).length=out.length*3:=by
 induction out with
 | nil=>rfl
 | cons x r ih=>
  rw[List.map_cons,List.flatten_cons,List.length_append,ih,List.length_cons]
  show 3+_=_
  omega
theorem flat_snoc (l:List Pce) (p:Pce):((l++[p]).map pceC).flatten=(l.map pceC).flatten++[vi p.frm,vi p.til,vi p.val]:=by
 rw[List.map_append,List.flatten_append]
 rfl
set_option maxHeartbeats 2000000 in
theorem denV_add (out:List Pce) (a r cap:Nat) (c e k:Int) (hlen:out.length≤100000) (hn:out≠[]→r≠a∧out.length≤cap∧cap≤maxLen):
  DenV Tryz.prog T 167 [(999000,.var (outP out r cap) (some a))] 999050 (rowOP out r cap) [.v (vi c),.v (vi e),.v (vi k),.p 999000 0] (PostP a (addP out c e k)):=by
 by_cases h0:out=[]
 ·subst h0
  refine denV_of_body follows (fun args w=>Tryz.call167 args w) Tryz.func167 rfl 37 rfl rfl ?_ ?_
  ·simp only[outP_nil,rowOP,rowL,if_true,List.append_nil]
   refine runB trivial ?_
   refine appO_r ?_
   unfold appR
   refine run ?_
   intro r' cap' hnm h1 h2
   have ha:r'≠a:=fun he=>hnm 999000 _ a rfl rfl he.symm
   refine run ?_
   refine ⟨rfl,?_⟩
   refine finVr (ks:=[(999000,.var (outP [⟨c,e,k⟩] r' cap') (some a))]) (i:=36) (cs:=([(⟨c,e,k⟩:Pce)].map pceC).flatten) (nm:=some r') (kk:=some (101,3,cap')) (r:= .tup []) (r':= .tup []) ⟨List.cons_ne_nil _ _,r',cap',ha,(by have:(addP [] c e k).length=1:=rfl; rw[this]; simpa using h1),h2,rfl,rfl,rfl⟩ ?_ rfl (by simp) (.refl _) rfl (fun _ h=>nomatch h)
   intro x hx
   simp only[List.mem_singleton] at hx
   subst hx
   exact ⟨_,_,_,rfl,rfl⟩
  ·rintro ks k v ⟨_,r',cap',_,_,_,rfl,_,_⟩
   exact ⟨rfl,rfl⟩
 ·obtain ⟨hra,h1,h2⟩:=hn h0
  obtain ⟨l,p,rfl⟩:∃l p,out=l++[p]:=⟨out.dropLast,out.getLast h0,(List.dropLast_concat_getLast h0).symm⟩
  have hlp:(l++[p]).length=l.length+1:=by simp
  have hcs:=flat_snoc l p
  have hfl:=flat_len l
  obtain ⟨cs,hcl⟩:∃cs,(l.map pceC).flatten=cs:=⟨_,rfl⟩
  rw[hcl] at hcs hfl
  refine denV_of_body follows (fun args w=>Tryz.call167 args w) Tryz.func167 rfl 37 rfl rfl ?_ ?_
  ·simp only[outP_ne h0,rowOP,if_neg h0,rowL,rowP,hcs,List.cons_append,List.nil_append]
   rw[hlp]
   have hb:l.length+1≤100000:=by rw[← hlp]; exact hlen
   have d0:List.drop ((l.length+1-1)*3+2) (cs++[vi p.frm,vi p.til,vi p.val])=[vi p.val]:=by
    rw[Nat.add_sub_cancel,← hfl,List.drop_length_add_append]
    rfl
   have d1:List.drop ((l.length+1-1)*3+1+1) (cs++[vi p.frm,vi p.til,vi p.val])=[vi p.val]:=by
    rw[Nat.add_assoc]
    exact d0
   have d2:List.take ((l.length+1-1)*3+1) (cs++[vi p.frm,vi p.til,vi p.val])=cs++[vi p.frm]:=by
    rw[Nat.add_sub_cancel,← hfl,List.take_length_add_append]
    rfl
   have d3:List.drop ((l.length+1-1)*3+1) (cs++[vi p.frm,vi p.til,vi p.val])=[vi p.til,vi p.val]:=by
    rw[Nat.add_sub_cancel,← hfl,List.drop_length_add_append]
    rfl
   by_cases hk:p.val=k
   ·subst hk
    have ha:addP (l++[p]) c e p.val=l++[⟨p.frm,e,p.val⟩]:=by rw[addP_last,if_pos rfl]
    have hcs2:=flat_snoc l ⟨p.frm,e,p.val⟩
    rw[hcl] at hcs2
    have hlp2:(l++[(⟨p.frm,e,p.val⟩:Pce)]).length=(l++[p]).length:=by simp
    have hne2:l++[(⟨p.frm,e,p.val⟩:Pce)]≠[]:=by simp
    refine runB (And.intro (eq_false hra) (And.intro hfl (And.intro d0 (And.intro d1 (And.intro d2 d3))))) ?_
    rw[ha]
    have e1:cs++[vi p.frm]++[vi e]++[vi p.val]=((l++[(⟨p.frm,e,p.val⟩:Pce)]).map pceC).flatten:=by rw[hcs2,List.append_assoc,List.append_assoc]; rfl
    rw[e1]
    have hlp3:(l++[(⟨p.frm,e,p.val⟩:Pce)]).length=l.length+1:=by simp
    refine finVr (ks:=[(999000,.var (outP (l++[⟨p.frm,e,p.val⟩]) r cap) (some a))]) (i:=999050) (cs:=((l++[(⟨p.frm,e,p.val⟩:Pce)]).map pceC).flatten) (nm:=some r) (kk:=some (101,3,cap)) (r:= .tup []) (r':= .tup []) ⟨hne2,r,cap,hra,by rw[hlp3,← hlp]; exact h1,h2,rfl,rfl,rfl⟩ ?_ rfl (by simp) (.refl _) rfl (fun _ h=>nomatch h)
    intro x hx
    simp only[List.mem_singleton] at hx
    subst hx
    rw[outP_ne hne2,hlp3]
    exact ⟨_,_,_,rfl,rfl⟩
   ·have ha:addP (l++[p]) c e k=l++[p,⟨c,e,k⟩]:=by rw[addP_last,if_neg hk]
    refine runB (And.intro (eq_false hra) (And.intro hfl (And.intro d0 (eq_false hk)))) ?_
    refine appO_r ?_
    unfold appR
    refine runB (And.intro (eq_false hra) hfl) ?_
    refine ⟨.inr trivial,?_⟩
    intro r' cap' hnm g1 g2
    have ha':r'≠a:=fun he=>hnm 999000 _ a rfl rfl he.symm
    have e1:(cs++[vi p.frm,vi p.til,vi p.val])++[[vi c,vi e,vi k]].flatten=((l++[p,⟨c,e,k⟩]).map pceC).flatten:=by
     rw[show l++[p,⟨c,e,k⟩]=(l++[p])++[⟨c,e,k⟩] by simp,flat_snoc,hcs]
     rfl
    have hlp3:(l++[p,(⟨c,e,k⟩:Pce)]).length=l.length+1+[[vi c,vi e,vi k]].length:=by simp
    have hne2:l++[p,(⟨c,e,k⟩:Pce)]≠[]:=by simp
    rw[e1,← hlp3]
    rw[← hlp3] at g1
    rw[ha]
    obtain ⟨o2,ho2⟩:∃o2,l++[p,(⟨c,e,k⟩:Pce)]=o2:=⟨_,rfl⟩
    rw[ho2] at g1 hne2 ⊢
    refine run ?_
    refine ⟨rfl,?_⟩
    refine finVr (ks:=[(999000,.var (outP o2 r' cap') (some a))]) (i:=36) (cs:=(o2.map pceC).flatten) (nm:=some r') (kk:=some (101,3,cap')) (r:= .tup []) (r':= .tup []) ⟨hne2,r',cap',ha',g1,g2,rfl,rfl,rfl⟩ ?_ rfl (by simp) (.refl _) rfl (fun _ h=>nomatch h)
    intro x hx
    simp only[List.mem_singleton] at hx
    subst hx
    rw[outP_ne hne2]
    exact ⟨_,_,_,rfl,rfl⟩
  ·rintro ks k v ⟨_,r',cap',_,_,_,rfl,_,_⟩
   exact ⟨rfl,rfl⟩
end Go.Arc
set_option maxRecDepth 100000
namespace Go.Arc
open Go.Ab Go.RowKit Go.Proofs
variable {T : Lay}
theorem dueF_le {f:Fil} {d:Int} {q:Rul} {t:Int} (h:dueF f d q=some t):0≤t∧t≤1048575:=by
 unfold dueF at h
 cases e:trig f q.trg d with
 | none=>rw[e] at h; cases h
 | some x=>
  rw[e] at h
  have h:dueR q x.1 x.2=some t:=h
  unfold dueR at h
  split at h
  ·cases h
   have h1:=yearsN_le x.2.toNat q.yrs.toNat
   have h2:=yearEndN_le (yearsN x.2.toNat q.yrs.toNat)
   split <;> omega
  ·cases h
theorem lateF_le (f:Fil) (d:Int):∀(l:List Rul) (x:Int×Int),-1≤x.1→x.1≤1048575→ -1≤(lateF f d l x).1∧(lateF f d l x).1≤1048575
 | [],x,h1,h2=>⟨h1,h2⟩
 | q::l,x,h1,h2=>by
  unfold lateF
  cases e:dueF f d q with
  | none=>exact lateF_le f d l x h1 h2
  | some t=>
   have:=dueF_le e
   simp only
   split
   ·exact lateF_le f d l _ (by simp only; omega) (by simp only; omega)
   ·exact lateF_le f d l x h1 h2
theorem vdt_due_le (r:Rgs) (f:Fil) (d:Int): -1≤(vdt r f d).due∧(vdt r f d).due≤1048575:=by
 have h:=lateF_le f d (rulesF r f d) (-1,0) (by decide) (by decide)
 have z0:(-1:Int)≤0∧(0:Int)≤1048575:=by decide
 unfold vdt
 simp only
 split
 ·exact z0
 split
 ·exact z0
 split
 ·exact z0
 split
 ·exact z0
 split
 ·exact z0
 cases (rulesF r f d).find? keepB with
 | some q=>exact z0
 | none=>
  cases (rulesF r f d).find? (waitB f d) with
  | some q=>exact z0
  | none=>
   simp only
   split
   ·exact h
   split
   ·exact h
   split <;> exact h
def lineI (r:Rgs) (f:Fil) (ds:List Int):Nat→List Pce
 | 0=>[]
 | i+1=>match ds[i]?,ds[i+1]? with
  | some d,some e=>segP r f (lineI r f ds i) d e
  | _,_=>lineI r f ds i
theorem lineI_succ {r:Rgs} {f:Fil} {ds:List Int} {i:Nat} {d e:Int} (hd:ds[i]? = some d) (he:ds[i+1]? = some e):lineI r f ds (i+1)=segP r f (lineI r f ds i) d e:=by
 show (match ds[i]?,ds[i+1]? with | some d,some e=>segP r f (lineI r f ds i) d e | _,_=>lineI r f ds i)=_
 rw[hd,he]
theorem lineI_inv (r:Rgs) (f:Fil) (ds:List Int):∀i,i+1≤ds.length→lineF r f ds []=lineF r f (ds.drop i) (lineI r f ds i)
 | 0,_=>rfl
 | i+1,h=>by
  rw[lineI_inv r f ds i (by omega)]
  obtain ⟨d,hd,hd2,-⟩:=drop_at (l:=ds) (k:=i) (by omega)
  obtain ⟨e,he,he2,-⟩:=drop_at (l:=ds) (k:=i+1) (by omega)
  rw[lineI_succ hd he,hd2,he2]
  rfl
theorem lineI_end (r:Rgs) (f:Fil) {ds:List Int} {n:Nat} (h:ds.length=n+1):lineI r f ds n=lineF r f ds []:=by
 rw[lineI_inv r f ds n (by omega)]
 obtain ⟨d,-,hd2,-⟩:=drop_at (l:=ds) (k:=n) (by omega)
 rw[hd2,List.drop_of_length_le (by omega)]
 rfl
theorem addP_len:∀(l:List Pce) (c e k:Int),(addP l c e k).length≤l.length+1∧1≤(addP l c e k).length
 | [],c,e,k=>⟨Nat.le_refl _,Nat.le_refl _⟩
 | [p],c,e,k=>by
  unfold addP
  split <;> simp
 | p::q::l,c,e,k=>by
  have:=addP_len (q::l) c e k
  unfold addP
  simp only[List.length_cons] at this ⊢
  omega
theorem addP_ne (l:List Pce) (c e k:Int):addP l c e k≠[]:=fun h=>by
 have:=(addP_len l c e k).2
 rw[h] at this
 cases this
theorem segP_len (r:Rgs) (f:Fil) (l:List Pce) (d e:Int):(segP r f l d e).length≤l.length+2∧segP r f l d e≠[]:=by
 unfold segP
 split
 ·have h1:=(addP_len l d ((vdt r f d).due+1) 6).1
  have h2:=(addP_len (addP l d ((vdt r f d).due+1) 6) ((vdt r f d).due+1) e (vdt r f ((vdt r f d).due+1)).kind).1
  exact ⟨by omega,addP_ne _ _ _ _⟩
 ·have h1:=(addP_len l d e (vdt r f d).kind).1
  exact ⟨by omega,addP_ne _ _ _ _⟩
theorem lineI_len (r:Rgs) (f:Fil) (ds:List Int):∀i,(lineI r f ds i).length≤2*i
 | 0=>Nat.le_refl _
 | i+1=>by
  have ih:=lineI_len r f ds i
  show (match ds[i]?,ds[i+1]? with | some d,some e=>segP r f (lineI r f ds i) d e | _,_=>lineI r f ds i).length≤_
  cases hd:ds[i]? with
  | none=>simp only; omega
  | some d=>
   cases he:ds[i+1]? with
   | none=>simp only; omega
   | some e=>
    have:=(segP_len r f (lineI r f ds i) d e).1
    simp only
    omega
theorem keysG_len (ps:List (Int×Bool)):(keysG ps).length=ps.length:=List.length_map _
theorem cutL_len {r:Rgs} (h:OkG r) {f:Fil} (hf:f∈r.fls) (a b:Int):(cutL r f a b).length≤4001:=by
 have h1:=h.cuts hf
 have hg:Gat [] []:=⟨fun x=>Iff.rfl,List.nodup_nil,Nat.le_refl _⟩
 have h2:=(hg.set (a::cutsB r f)).len
 have h3:=List.length_filter_le (inB a b) (keysG (setG [] (a::cutsB r f)))
 rw[keysG_len] at h3
 unfold cutL
 rw[sortI_len]
 rw[List.nil_append,List.length_cons] at h2
 omega
theorem flat_drop:∀(l:List Pce) (i:Nat),((l.map pceC).flatten).drop (i*3)=((l.drop i).map pceC).flatten
 | l,0=>by rw[Nat.zero_mul]; rfl
 | [],i+1=>by rw[List.drop_of_length_le (Nat.zero_le _)]; rfl
 | p::l,i+1=>by
  have ih:=flat_drop l i
  rw[List.map_cons,List.flatten_cons,List.drop_succ_cons,← ih,show (i+1)*3=(pceC p).length+i*3 by show (i+1)*3=3+i*3; omega,List.drop_length_add_append]
theorem chunk_pces (l:List Pce):chunk 0 l.length 3 ((l.map pceC).flatten)=l.map Pce.cs:=by
 apply List.ext_getElem?
 intro i
 simp only[chunk,List.getElem?_map,Nat.zero_add]
 by_cases h:i<l.length
 ·rw[List.getElem?_range h,List.getElem?_eq_getElem h]
  simp only[Option.map_some]
  rw[flat_drop,List.drop_eq_getElem_cons h,List.map_cons,List.flatten_cons]
  rfl
 ·rw[List.getElem?_eq_none (by simpa using h),List.getElem?_eq_none (by omega)]; rfl
abbrev addV (v:Nat):V:= .func 167 [.val (.pointer (some ⟨v,0,none⟩))]
set_option maxHeartbeats 8000000 in
theorem den_line (L:LibC T) (r:Rgs) (f:Fil) (a b:Int) (hr:r.Fit) (hok:OkG r) (hfm:f∈r.fls) (hab:a<b):Den Tryz.prog T 86 [.agg r.cs,.agg f.cs,span a b] (pces (lineS r f a b)):=by
 have hf:=hr.fls.2 f hfm
 have hg:=hok.goodR
 have hcl:=cutL_len hok hfm a b
 obtain ⟨l0,hl0⟩:=cutL_head (r:=r) (f:=f) hab
 have hcp:0<(cutL r f a b).length:=by rw[hl0]; simp
 have hds:(cutL r f a b).map Cint++[[vi b]]=(cutL r f a b++[b]).map Cint:=by simp
 have hdl:(cutL r f a b++[b]).length=(cutL r f a b).length+1:=by simp
 have hend:=lineI_end r f hdl
 have hls:lineS r f a b=lineF r f (cutL r f a b++[b]) []:=rfl
 rw[hls,← hend]
 refine den_of_body follows (fun args w=>Tryz.call86 args w) Tryz.func86 rfl 78 rfl ?_
 refine runMk trivial ?_
 refine aw_name 7 ?_
 intro v0 hv
 clear hv
 refine runD trivial ?_
 refine aw_chn [18,22] 8 ?_
 refine run ?_
 refine callO (den_cuts r f a b hr hok hfm hab) ?_
 obtain ⟨C,hC⟩:∃C,cutL r f a b=C:=⟨_,rfl⟩
 rw[hC] at hcl hcp hds hdl ⊢
 obtain ⟨ds,hD⟩:∃ds,C++[b]=ds:=⟨_,rfl⟩
 rw[hD] at hds hdl ⊢
 have htk:(ds.map Cint).take (C.length+1-1)=C.map Cint:=by rw[Nat.add_sub_cancel,← List.map_take,← hD,List.take_left]
 have hcb:C.length≤1048576:=by omega
 refine runB hds ?_
 refine runW (And.intro hds (And.intro hdl htk)) ?_
 refine loopV (fun y:Nat×Nat×Nat=>if y.1=0 then ⟨[3,4,7,8,9,27,28,29],[3,4,7],[],[]⟩ else ⟨[3,4,7,8,9,27,28,29],[3,4,7,77],[],[]⟩)
  (fun y=>y.1≤C.length∧(y.1≠0→y.2.1≠v0∧(lineI r f ds y.1).length≤y.2.2∧y.2.2≤maxLen)) (fun y=>C.length-y.1)
  (fun y=>if y.1=0 then ⟨78,[(3,.p 3 0),(4,.p 4 0),(7,.p 7 0),(8,.v (addV v0)),(9,.v (ints ds)),(27,.v (ints C)),(28,.v (vi C.length)),(29,.v (vi y.1))],[(3,.var r.cs),(4,.var f.cs),(7,.var [.val (.slice none 0 0)] (some v0))],[]⟩ else
   ⟨78,[(3,.p 3 0),(4,.p 4 0),(7,.p 7 0),(8,.v (addV v0)),(9,.v (ints ds)),(27,.v (ints C)),(28,.v (vi C.length)),(29,.v (vi y.1))],[(3,.var r.cs),(4,.var f.cs),(7,.var (outP (lineI r f ds y.1) y.2.1 y.2.2) (some v0)),(77,rowP (lineI r f ds y.1) y.2.1 y.2.2)],[]⟩)
  (0,0,0) ⟨Nat.zero_le _,fun h=>absurd rfl h⟩ rfl ?_
 rintro ⟨i,r',cap'⟩ ⟨hi,hrow⟩
 simp only at hi hrow
 by_cases hlt:i<C.length
 ·obtain ⟨d,hx,-,-⟩:=drop_at hlt
  have hd:ds[i]? = some d:=by rw[← hD,List.getElem?_append_left hlt]; exact hx
  obtain ⟨e,he,-,-⟩:=drop_at (l:=ds) (k:=i+1) (by omega)
  have hseg:=lineI_succ (r:=r) (f:=f) hd he
  unfold segP at hseg
  obtain ⟨w0,hV⟩:∃w0,vdt r f d=w0:=⟨_,rfl⟩
  have hol0:=lineI_len r f ds i
  by_cases h0:i=0
  ·subst h0
   have hlI:lineI r f ds 0=[]:=rfl
   rw[hlI] at hseg
   have hol:([]:List Pce).length≤90000:=Nat.zero_le _
   simp only[if_true]
   refine runW hx ?_
   refine call (den_newLook L r f d hr hf hg) ?_
   refine run ?_
   refine call (den_vdt L r f d hr hf) ?_
   have hdu:=vdt_due_le r f d
   rw[hV] at hseg hdu ⊢
   by_cases hc6:w0.kind=6∧w0.due+1<e
   ·obtain ⟨hk6,hlt6⟩:=hc6
    rw[if_pos ⟨hk6,hlt6⟩] at hseg
    have hsucc:=hseg
    refine runB (And.intro hk6 (And.intro he (eq_true hlt6))) ?_
    have hadd1:=denV_add (T:=T) [] v0 0 0 d (w0.due+1) 6 (Nat.zero_le _) (fun h=>absurd rfl h)
    rw[outP_nil,show rowOP [] 0 0=none from if_pos rfl] at hadd1
    refine callX (callV ⟨[(999000,7)],999050,77,_,_,_,_,hadd1,.cons (.v _) (.cons (.v _) (.cons (.v _) (.cons (.pn rfl rfl) .nil))),rfl,rfl,?_,(fun _=>rfl),(by show (77:Nat)<78; decide),?_⟩)
    ·intro x hx
     simp only[rowL,List.append_nil,List.mem_singleton] at hx
     subst hx
     exact ⟨7,_,rfl,rfl,rfl,.inr rfl,rfl⟩
    rintro ks1 bb1 vv1 ⟨hne1,r1,cap1,hv1,hl1,hm1,rfl,rfl,rfl⟩
    refine ⟨rfl,fun hnm1=> ?_⟩
    rw[outP_ne hne1]
    simp only[rowP,setbs,setb,lk,look_cons',unH_cons,unH_nil,unT_v,unT_p,unT_nil,Nat.reduceEqDiff,↓reduceIte,Blk.wn,Blk.nm,remK,remBs,hasC_nil,cond_false]
    obtain ⟨o1,ho1⟩:∃o1,addP [] d (w0.due+1) 6=o1:=⟨_,rfl⟩
    have ho1l:o1.length≤100000:=by
     have:=(addP_len [] d (w0.due+1) 6).1
     rw[ho1] at this
     have:=hol
     omega
    rw[ho1] at hne1 hl1 hsucc ⊢
    refine run ?_
    refine call (den_newLook L r f (w0.due+1) hr hf hg) ?_
    refine run ?_
    refine call (den_vdt L r f (w0.due+1) hr hf) ?_
    obtain ⟨w1,hV2⟩:∃w1,vdt r f (w0.due+1)=w1:=⟨_,rfl⟩
    rw[hV2] at hsucc ⊢
    refine runD trivial ?_
    refine aw_graph [⟨[ff,ff,ff,ff,ff,ff,ff,ff,ff,ff],10,.one 0 0⟩,⟨[tt,ff,ff,ff,ff,ff,ff,ff,ff,ff],9,.one 1 0⟩,⟨[tt,tt,ff,ff,ff,ff,ff,ff,ff,ff],8,.one 2 0⟩,⟨[tt,tt,tt,ff,ff,ff,ff,ff,ff,ff],7,.one 3 0⟩,⟨[tt,tt,tt,tt,ff,ff,ff,ff,ff,ff],6,.one 7 0⟩,⟨[tt,tt,tt,tt,ff,ff,ff,tt,ff,ff],5,.alt [(4,0),(8,1)]⟩,⟨[tt,tt,tt,tt,tt,ff,ff,tt,ff,ff],4,.alt [(5,1),(8,2)]⟩,⟨[tt,tt,tt,tt,ff,ff,ff,tt,tt,ff],4,.alt [(4,1)]⟩,⟨[tt,tt,tt,tt,tt,tt,ff,tt,ff,ff],3,.alt [(6,1),(8,2)]⟩,⟨[tt,tt,tt,tt,tt,ff,ff,tt,tt,ff],3,.alt [(5,1)]⟩,⟨[tt,tt,tt,tt,tt,tt,tt,tt,ff,ff],2,.alt [(8,1)]⟩,⟨[tt,tt,tt,tt,tt,tt,ff,tt,tt,ff],2,.alt [(6,0)]⟩,⟨[tt,tt,tt,tt,tt,tt,tt,tt,tt,ff],1,.alt [(9,0)]⟩,⟨[tt,tt,tt,tt,tt,tt,tt,tt,tt,tt],0,.fin⟩] ?_
    refine graph_to (fun z:Nat×Nat=>z.1≠v0∧(addP o1 (w0.due+1) e w1.kind).length≤z.2∧z.2≤maxLen) ⟨[3,4,7,8,9,27,28,29],[3,4,7,77],[],[]⟩ (fun z=>⟨78,[(3,.p 3 0),(4,.p 4 0),(7,.p 7 0),(8,.v (addV v0)),(9,.v (ints ds)),(27,.v (ints C)),(28,.v (vi C.length)),(29,.v (vi (0:Nat)))],[(3,.var r.cs),(4,.var f.cs),(7,.var [.val (.slice (some ⟨z.1,0,none⟩) (addP o1 (w0.due+1) e w1.kind).length z.2)] (some v0)),(77,rowP (addP o1 (w0.due+1) e w1.kind) z.1 z.2)],[]⟩) (fun st st' hk h=>aw_keep _ hk h) (fun z hz=> ?_) (fun K' hK=> ?_)
    ·refine run ?_
     refine roundV (1,z.1,z.2) ⟨hlt,fun _=>by rw[hsucc]; exact hz⟩ (by simp only; omega) ?_
     show keepS (if 1=0 then _ else _) _=some (if 1=0 then _ else _)
     rw[if_neg (Nat.one_ne_zero),if_neg (Nat.one_ne_zero),hsucc,outP_ne (addP_ne _ _ _ _)]
     rfl
    ·refine runGraph he ?_
     repeat' (with_reducible refine And.intro ?_ ?_)
     all_goals
      have hadd2:=denV_add (T:=T) o1 v0 r1 cap1 (w0.due+1) e w1.kind ho1l (fun _=>⟨hv1,hl1,hm1⟩)
      rw[outP_ne hne1,show rowOP o1 r1 cap1=some (rowP o1 r1 cap1) from if_neg hne1] at hadd2
      refine callX (callV ⟨[(999000,7)],999050,77,_,_,_,_,hadd2,.cons (.v _) (.cons (.v _) (.cons (.v _) (.cons (.pn rfl rfl) .nil))),rfl,rfl,?_,(fun h=>nomatch h),(by show (77:Nat)<78; decide),?_⟩)
      ·intro x hx
       simp only[rowL,List.cons_append,List.nil_append,List.mem_cons,List.not_mem_nil,or_false] at hx
       rcases hx with rfl | rfl
       ·exact ⟨7,_,rfl,rfl,rfl,.inr rfl,rfl⟩
       ·exact ⟨77,_,rfl,rfl,rfl,.inr rfl,rfl⟩
      rintro ks2 bb2 vv2 ⟨hne2,r2,cap2,hv2,hl2,hm2,rfl,rfl,rfl⟩
      refine ⟨rfl,fun hnm2=> ?_⟩
      rw[outP_ne hne2]
      simp only[rowP,setbs,setb,lk,look_cons',unH_cons,unH_nil,unT_v,unT_p,unT_nil,Nat.reduceEqDiff,↓reduceIte,Blk.wn,Blk.nm,remK,remBs,hasC_nil,cond_false]
      refine runGraph trivial ?_
      exact leafK hK (r2,cap2) ⟨hv2,hl2,hm2⟩
   ·rw[if_neg hc6] at hseg
    have hsucc:=hseg
    by_cases hk6:w0.kind=6
    ·have hlt6:¬w0.due+1<e:=fun h=>hc6 ⟨hk6,h⟩
     rw[hk6] at hsucc
     refine runD (And.intro hk6 (And.intro he (eq_false hlt6))) ?_
     refine aw_graph [⟨[ff,ff,ff,ff,ff,ff,ff,ff,ff,ff],10,.one 0 0⟩,⟨[tt,ff,ff,ff,ff,ff,ff,ff,ff,ff],9,.one 1 0⟩,⟨[tt,tt,ff,ff,ff,ff,ff,ff,ff,ff],8,.one 2 0⟩,⟨[tt,tt,tt,ff,ff,ff,ff,ff,ff,ff],7,.one 3 0⟩,⟨[tt,tt,tt,tt,ff,ff,ff,ff,ff,ff],6,.one 7 0⟩,⟨[tt,tt,tt,tt,ff,ff,ff,tt,ff,ff],5,.alt [(4,0),(8,1)]⟩,⟨[tt,tt,tt,tt,tt,ff,ff,tt,ff,ff],4,.alt [(5,1),(8,2)]⟩,⟨[tt,tt,tt,tt,ff,ff,ff,tt,tt,ff],4,.alt [(4,1)]⟩,⟨[tt,tt,tt,tt,tt,tt,ff,tt,ff,ff],3,.alt [(6,1),(8,2)]⟩,⟨[tt,tt,tt,tt,tt,ff,ff,tt,tt,ff],3,.alt [(5,1)]⟩,⟨[tt,tt,tt,tt,tt,tt,tt,tt,ff,ff],2,.alt [(8,1)]⟩,⟨[tt,tt,tt,tt,tt,tt,ff,tt,tt,ff],2,.alt [(6,0)]⟩,⟨[tt,tt,tt,tt,tt,tt,tt,tt,tt,ff],1,.alt [(9,0)]⟩,⟨[tt,tt,tt,tt,tt,tt,tt,tt,tt,tt],0,.fin⟩] ?_
     refine graph_to (fun z:Nat×Nat=>z.1≠v0∧(addP [] d e 6).length≤z.2∧z.2≤maxLen) ⟨[3,4,7,8,9,27,28,29],[3,4,7,77],[],[]⟩ (fun z=>⟨78,[(3,.p 3 0),(4,.p 4 0),(7,.p 7 0),(8,.v (addV v0)),(9,.v (ints ds)),(27,.v (ints C)),(28,.v (vi C.length)),(29,.v (vi (0:Nat)))],[(3,.var r.cs),(4,.var f.cs),(7,.var [.val (.slice (some ⟨z.1,0,none⟩) (addP [] d e 6).length z.2)] (some v0)),(77,rowP (addP [] d e 6) z.1 z.2)],[]⟩) (fun st st' hk h=>aw_keep _ hk h) (fun z hz=> ?_) (fun K' hK=> ?_)
     ·refine run ?_
      refine roundV (1,z.1,z.2) ⟨hlt,fun _=>by rw[hsucc]; exact hz⟩ (by simp only; omega) ?_
      show keepS (if 1=0 then _ else _) _=some (if 1=0 then _ else _)
      rw[if_neg (Nat.one_ne_zero),if_neg (Nat.one_ne_zero),hsucc,outP_ne (addP_ne _ _ _ _)]
      rfl
     ·refine runGraph (And.intro he hk6) ?_
      repeat' (with_reducible refine And.intro ?_ ?_)
      all_goals
       have hadd3:=denV_add (T:=T) [] v0 0 0 d e 6 (Nat.zero_le _) (fun h=>absurd rfl h)
       rw[outP_nil,show rowOP [] 0 0=none from if_pos rfl] at hadd3
       refine callX (callV ⟨[(999000,7)],999050,77,_,_,_,_,hadd3,.cons (.v _) (.cons (.v _) (.cons (.v _) (.cons (.pn rfl rfl) .nil))),rfl,rfl,?_,(fun _=>rfl),(by show (77:Nat)<78; decide),?_⟩)
       ·intro x hx
        simp only[rowL,List.append_nil,List.mem_singleton] at hx
        subst hx
        exact ⟨7,_,rfl,rfl,rfl,.inr rfl,rfl⟩
       rintro ks3 bb3 vv3 ⟨hne3,r3,cap3,hv3,hl3,hm3,rfl,rfl,rfl⟩
       refine ⟨rfl,fun hnm3=> ?_⟩
       rw[outP_ne hne3]
       simp only[rowP,setbs,setb,lk,look_cons',unH_cons,unH_nil,unT_v,unT_p,unT_nil,Nat.reduceEqDiff,↓reduceIte,Blk.wn,Blk.nm,remK,remBs,hasC_nil,cond_false]
       refine runGraph trivial ?_
       exact leafK hK (r3,cap3) ⟨hv3,hl3,hm3⟩
    ·refine runD (And.intro (eq_false hk6) he) ?_
     refine aw_graph [⟨[ff,ff,ff,ff,ff,ff,ff,ff,ff,ff],10,.one 0 0⟩,⟨[tt,ff,ff,ff,ff,ff,ff,ff,ff,ff],9,.one 1 0⟩,⟨[tt,tt,ff,ff,ff,ff,ff,ff,ff,ff],8,.one 2 0⟩,⟨[tt,tt,tt,ff,ff,ff,ff,ff,ff,ff],7,.one 3 0⟩,⟨[tt,tt,tt,tt,ff,ff,ff,ff,ff,ff],6,.one 7 0⟩,⟨[tt,tt,tt,tt,ff,ff,ff,tt,ff,ff],5,.alt [(4,0),(8,1)]⟩,⟨[tt,tt,tt,tt,tt,ff,ff,tt,ff,ff],4,.alt [(5,1),(8,2)]⟩,⟨[tt,tt,tt,tt,ff,ff,ff,tt,tt,ff],4,.alt [(4,1)]⟩,⟨[tt,tt,tt,tt,tt,tt,ff,tt,ff,ff],3,.alt [(6,1),(8,2)]⟩,⟨[tt,tt,tt,tt,tt,ff,ff,tt,tt,ff],3,.alt [(5,1)]⟩,⟨[tt,tt,tt,tt,tt,tt,tt,tt,ff,ff],2,.alt [(8,1)]⟩,⟨[tt,tt,tt,tt,tt,tt,ff,tt,tt,ff],2,.alt [(6,0)]⟩,⟨[tt,tt,tt,tt,tt,tt,tt,tt,tt,ff],1,.alt [(9,0)]⟩,⟨[tt,tt,tt,tt,tt,tt,tt,tt,tt,tt],0,.fin⟩] ?_
     refine graph_to (fun z:Nat×Nat=>z.1≠v0∧(addP [] d e w0.kind).length≤z.2∧z.2≤maxLen) ⟨[3,4,7,8,9,27,28,29],[3,4,7,77],[],[]⟩ (fun z=>⟨78,[(3,.p 3 0),(4,.p 4 0),(7,.p 7 0),(8,.v (addV v0)),(9,.v (ints ds)),(27,.v (ints C)),(28,.v (vi C.length)),(29,.v (vi (0:Nat)))],[(3,.var r.cs),(4,.var f.cs),(7,.var [.val (.slice (some ⟨z.1,0,none⟩) (addP [] d e w0.kind).length z.2)] (some v0)),(77,rowP (addP [] d e w0.kind) z.1 z.2)],[]⟩) (fun st st' hk h=>aw_keep _ hk h) (fun z hz=> ?_) (fun K' hK=> ?_)
     ·refine run ?_
      refine roundV (1,z.1,z.2) ⟨hlt,fun _=>by rw[hsucc]; exact hz⟩ (by simp only; omega) ?_
      show keepS (if 1=0 then _ else _) _=some (if 1=0 then _ else _)
      rw[if_neg (Nat.one_ne_zero),if_neg (Nat.one_ne_zero),hsucc,outP_ne (addP_ne _ _ _ _)]
      rfl
     ·refine runGraph he ?_
      repeat' (with_reducible refine And.intro ?_ ?_)
      all_goals
       have hadd3:=denV_add (T:=T) [] v0 0 0 d e w0.kind (Nat.zero_le _) (fun h=>absurd rfl h)
       rw[outP_nil,show rowOP [] 0 0=none from if_pos rfl] at hadd3
       refine callX (callV ⟨[(999000,7)],999050,77,_,_,_,_,hadd3,.cons (.v _) (.cons (.v _) (.cons (.v _) (.cons (.pn rfl rfl) .nil))),rfl,rfl,?_,(fun _=>rfl),(by show (77:Nat)<78; decide),?_⟩)
       ·intro x hx
        simp only[rowL,List.append_nil,List.mem_singleton] at hx
        subst hx
        exact ⟨7,_,rfl,rfl,rfl,.inr rfl,rfl⟩
       rintro ks3 bb3 vv3 ⟨hne3,r3,cap3,hv3,hl3,hm3,rfl,rfl,rfl⟩
       refine ⟨rfl,fun hnm3=> ?_⟩
       rw[outP_ne hne3]
       simp only[rowP,setbs,setb,lk,look_cons',unH_cons,unH_nil,unT_v,unT_p,Nat.reduceEqDiff,↓reduceIte,Blk.wn,Blk.nm,remK,remBs,hasC_nil,cond_false]
       refine runGraph trivial ?_
       exact leafK hK (r3,cap3) ⟨hv3,hl3,hm3⟩
  ·simp only[h0,if_false]
   obtain ⟨hv',hl',hm'⟩:=hrow h0
   have hne0:lineI r f ds i≠[]:=by
    obtain ⟨j,rfl⟩:∃j,i=j+1:=⟨i-1,by omega⟩
    obtain ⟨d1,hd1,-,-⟩:=drop_at (l:=ds) (k:=j) (by omega)
    obtain ⟨e1,he1,-,-⟩:=drop_at (l:=ds) (k:=j+1) (by omega)
    rw[lineI_succ hd1 he1]
    exact (segP_len _ _ _ _ _).2
   obtain ⟨out,hout⟩:∃out,lineI r f ds i=out:=⟨_,rfl⟩
   rw[hout] at hne0 hl' hseg hol0 ⊢
   have hol:out.length≤90000:=by omega
   rw[outP_ne hne0]
   refine runW hx ?_
   refine call (den_newLook L r f d hr hf hg) ?_
   refine run ?_
   refine call (den_vdt L r f d hr hf) ?_
   have hdu:=vdt_due_le r f d
   rw[hV] at hseg hdu ⊢
   by_cases hc6:w0.kind=6∧w0.due+1<e
   ·obtain ⟨hk6,hlt6⟩:=hc6
    rw[if_pos ⟨hk6,hlt6⟩] at hseg
    have hsucc:=hseg
    refine runB (And.intro hk6 (And.intro he (eq_true hlt6))) ?_
    have hadd1:=denV_add (T:=T) out v0 r' cap' d (w0.due+1) 6 (by omega) (fun _=>⟨hv',hl',hm'⟩)
    rw[outP_ne hne0,show rowOP out r' cap'=some (rowP out r' cap') from if_neg hne0] at hadd1
    refine callX (callV ⟨[(999000,7)],999050,77,_,_,_,_,hadd1,.cons (.v _) (.cons (.v _) (.cons (.v _) (.cons (.pn rfl rfl) .nil))),rfl,rfl,?_,(fun h=>nomatch h),(by show (77:Nat)<78; decide),?_⟩)
    ·intro x hx
     simp only[rowL,List.cons_append,List.nil_append,List.mem_cons,List.not_mem_nil,or_false] at hx
     rcases hx with rfl | rfl
     ·exact ⟨7,_,rfl,rfl,rfl,.inr rfl,rfl⟩
     ·exact ⟨77,_,rfl,rfl,rfl,.inr rfl,rfl⟩
    rintro ks1 bb1 vv1 ⟨hne1,r1,cap1,hv1,hl1,hm1,rfl,rfl,rfl⟩
    refine ⟨rfl,fun hnm1=> ?_⟩
    rw[outP_ne hne1]
    simp only[rowP,setbs,setb,lk,look_cons',unH_cons,unH_nil,unT_v,unT_p,unT_nil,Nat.reduceEqDiff,↓reduceIte,Blk.wn,Blk.nm,remK,remBs,hasC_nil,cond_false]
    obtain ⟨o1,ho1⟩:∃o1,addP out d (w0.due+1) 6=o1:=⟨_,rfl⟩
    have ho1l:o1.length≤100000:=by
     have:=(addP_len out d (w0.due+1) 6).1
     rw[ho1] at this
     have:=hol
     omega
    rw[ho1] at hne1 hl1 hsucc ⊢
    refine run ?_
    refine call (den_newLook L r f (w0.due+1) hr hf hg) ?_
    refine run ?_
    refine call (den_vdt L r f (w0.due+1) hr hf) ?_
    obtain ⟨w1,hV2⟩:∃w1,vdt r f (w0.due+1)=w1:=⟨_,rfl⟩
    rw[hV2] at hsucc ⊢
    refine runD trivial ?_
    refine aw_graph [⟨[ff,ff,ff,ff,ff,ff,ff,ff,ff,ff],10,.one 0 0⟩,⟨[tt,ff,ff,ff,ff,ff,ff,ff,ff,ff],9,.one 1 0⟩,⟨[tt,tt,ff,ff,ff,ff,ff,ff,ff,ff],8,.one 2 0⟩,⟨[tt,tt,tt,ff,ff,ff,ff,ff,ff,ff],7,.one 3 0⟩,⟨[tt,tt,tt,tt,ff,ff,ff,ff,ff,ff],6,.one 7 0⟩,⟨[tt,tt,tt,tt,ff,ff,ff,tt,ff,ff],5,.alt [(4,0),(8,1)]⟩,⟨[tt,tt,tt,tt,tt,ff,ff,tt,ff,ff],4,.alt [(5,1),(8,2)]⟩,⟨[tt,tt,tt,tt,ff,ff,ff,tt,tt,ff],4,.alt [(4,1)]⟩,⟨[tt,tt,tt,tt,tt,tt,ff,tt,ff,ff],3,.alt [(6,1),(8,2)]⟩,⟨[tt,tt,tt,tt,tt,ff,ff,tt,tt,ff],3,.alt [(5,1)]⟩,⟨[tt,tt,tt,tt,tt,tt,tt,tt,ff,ff],2,.alt [(8,1)]⟩,⟨[tt,tt,tt,tt,tt,tt,ff,tt,tt,ff],2,.alt [(6,0)]⟩,⟨[tt,tt,tt,tt,tt,tt,tt,tt,tt,ff],1,.alt [(9,0)]⟩,⟨[tt,tt,tt,tt,tt,tt,tt,tt,tt,tt],0,.fin⟩] ?_
    refine graph_to (fun z:Nat×Nat=>z.1≠v0∧(addP o1 (w0.due+1) e w1.kind).length≤z.2∧z.2≤maxLen) ⟨[3,4,7,8,9,27,28,29],[3,4,7,77],[],[]⟩ (fun z=>⟨78,[(3,.p 3 0),(4,.p 4 0),(7,.p 7 0),(8,.v (addV v0)),(9,.v (ints ds)),(27,.v (ints C)),(28,.v (vi C.length)),(29,.v (vi i))],[(3,.var r.cs),(4,.var f.cs),(7,.var [.val (.slice (some ⟨z.1,0,none⟩) (addP o1 (w0.due+1) e w1.kind).length z.2)] (some v0)),(77,rowP (addP o1 (w0.due+1) e w1.kind) z.1 z.2)],[]⟩) (fun st st' hk h=>aw_keep _ hk h) (fun z hz=> ?_) (fun K' hK=> ?_)
    ·refine run ?_
     refine roundV (i+1,z.1,z.2) ⟨hlt,fun _=>by rw[hsucc]; exact hz⟩ (by simp only; omega) ?_
     show keepS (if i+1=0 then _ else _) _=some (if i+1=0 then _ else _)
     rw[if_neg (Nat.succ_ne_zero i),if_neg (Nat.succ_ne_zero i),hsucc,outP_ne (addP_ne _ _ _ _)]
     rfl
    ·refine runGraph he ?_
     repeat' (with_reducible refine And.intro ?_ ?_)
     all_goals
      have hadd2:=denV_add (T:=T) o1 v0 r1 cap1 (w0.due+1) e w1.kind ho1l (fun _=>⟨hv1,hl1,hm1⟩)
      rw[outP_ne hne1,show rowOP o1 r1 cap1=some (rowP o1 r1 cap1) from if_neg hne1] at hadd2
      refine callX (callV ⟨[(999000,7)],999050,77,_,_,_,_,hadd2,.cons (.v _) (.cons (.v _) (.cons (.v _) (.cons (.pn rfl rfl) .nil))),rfl,rfl,?_,(fun h=>nomatch h),(by show (77:Nat)<78; decide),?_⟩)
      ·intro x hx
       simp only[rowL,List.cons_append,List.nil_append,List.mem_cons,List.not_mem_nil,or_false] at hx
       rcases hx with rfl | rfl
       ·exact ⟨7,_,rfl,rfl,rfl,.inr rfl,rfl⟩
       ·exact ⟨77,_,rfl,rfl,rfl,.inr rfl,rfl⟩
      rintro ks2 bb2 vv2 ⟨hne2,r2,cap2,hv2,hl2,hm2,rfl,rfl,rfl⟩
      refine ⟨rfl,fun hnm2=> ?_⟩
      rw[outP_ne hne2]
      simp only[rowP,setbs,setb,lk,look_cons',unH_cons,unH_nil,unT_v,unT_p,unT_nil,Nat.reduceEqDiff,↓reduceIte,Blk.wn,Blk.nm,remK,remBs,hasC_nil,cond_false]
      refine runGraph trivial ?_
      exact leafK hK (r2,cap2) ⟨hv2,hl2,hm2⟩
   ·rw[if_neg hc6] at hseg
    have hsucc:=hseg
    by_cases hk6:w0.kind=6
    ·have hlt6:¬w0.due+1<e:=fun h=>hc6 ⟨hk6,h⟩
     rw[hk6] at hsucc
     refine runD (And.intro hk6 (And.intro he (eq_false hlt6))) ?_
     refine aw_graph [⟨[ff,ff,ff,ff,ff,ff,ff,ff,ff,ff],10,.one 0 0⟩,⟨[tt,ff,ff,ff,ff,ff,ff,ff,ff,ff],9,.one 1 0⟩,⟨[tt,tt,ff,ff,ff,ff,ff,ff,ff,ff],8,.one 2 0⟩,⟨[tt,tt,tt,ff,ff,ff,ff,ff,ff,ff],7,.one 3 0⟩,⟨[tt,tt,tt,tt,ff,ff,ff,ff,ff,ff],6,.one 7 0⟩,⟨[tt,tt,tt,tt,ff,ff,ff,tt,ff,ff],5,.alt [(4,0),(8,1)]⟩,⟨[tt,tt,tt,tt,tt,ff,ff,tt,ff,ff],4,.alt [(5,1),(8,2)]⟩,⟨[tt,tt,tt,tt,ff,ff,ff,tt,tt,ff],4,.alt [(4,1)]⟩,⟨[tt,tt,tt,tt,tt,tt,ff,tt,ff,ff],3,.alt [(6,1),(8,2)]⟩,⟨[tt,tt,tt,tt,tt,ff,ff,tt,tt,ff],3,.alt [(5,1)]⟩,⟨[tt,tt,tt,tt,tt,tt,tt,tt,ff,ff],2,.alt [(8,1)]⟩,⟨[tt,tt,tt,tt,tt,tt,ff,tt,tt,ff],2,.alt [(6,0)]⟩,⟨[tt,tt,tt,tt,tt,tt,tt,tt,tt,ff],1,.alt [(9,0)]⟩,⟨[tt,tt,tt,tt,tt,tt,tt,tt,tt,tt],0,.fin⟩] ?_
     refine graph_to (fun z:Nat×Nat=>z.1≠v0∧(addP out d e 6).length≤z.2∧z.2≤maxLen) ⟨[3,4,7,8,9,27,28,29],[3,4,7,77],[],[]⟩ (fun z=>⟨78,[(3,.p 3 0),(4,.p 4 0),(7,.p 7 0),(8,.v (addV v0)),(9,.v (ints ds)),(27,.v (ints C)),(28,.v (vi C.length)),(29,.v (vi i))],[(3,.var r.cs),(4,.var f.cs),(7,.var [.val (.slice (some ⟨z.1,0,none⟩) (addP out d e 6).length z.2)] (some v0)),(77,rowP (addP out d e 6) z.1 z.2)],[]⟩) (fun st st' hk h=>aw_keep _ hk h) (fun z hz=> ?_) (fun K' hK=> ?_)
     ·refine run ?_
      refine roundV (i+1,z.1,z.2) ⟨hlt,fun _=>by rw[hsucc]; exact hz⟩ (by simp only; omega) ?_
      show keepS (if i+1=0 then _ else _) _=some (if i+1=0 then _ else _)
      rw[if_neg (Nat.succ_ne_zero i),if_neg (Nat.succ_ne_zero i),hsucc,outP_ne (addP_ne _ _ _ _)]
      rfl
     ·refine runGraph (And.intro he hk6) ?_
      repeat' (with_reducible refine And.intro ?_ ?_)
      all_goals
       have hadd3:=denV_add (T:=T) out v0 r' cap' d e 6 (by omega) (fun _=>⟨hv',hl',hm'⟩)
       rw[outP_ne hne0,show rowOP out r' cap'=some (rowP out r' cap') from if_neg hne0] at hadd3
       refine callX (callV ⟨[(999000,7)],999050,77,_,_,_,_,hadd3,.cons (.v _) (.cons (.v _) (.cons (.v _) (.cons (.pn rfl rfl) .nil))),rfl,rfl,?_,(fun h=>nomatch h),(by show (77:Nat)<78; decide),?_⟩)
       ·intro x hx
        simp only[rowL,List.cons_append,List.nil_append,List.mem_cons,List.not_mem_nil,or_false] at hx
        rcases hx with rfl | rfl
        ·exact ⟨7,_,rfl,rfl,rfl,.inr rfl,rfl⟩
        ·exact ⟨77,_,rfl,rfl,rfl,.inr rfl,rfl⟩
       rintro ks3 bb3 vv3 ⟨hne3,r3,cap3,hv3,hl3,hm3,rfl,rfl,rfl⟩
       refine ⟨rfl,fun hnm3=> ?_⟩
       rw[outP_ne hne3]
       simp only[rowP,setbs,setb,lk,look_cons',unH_cons,unH_nil,unT_v,unT_p,unT_nil,Nat.reduceEqDiff,↓reduceIte,Blk.wn,Blk.nm,remK,remBs,hasC_nil,cond_false]
       refine runGraph trivial ?_
       exact leafK hK (r3,cap3) ⟨hv3,hl3,hm3⟩
    ·refine runD (And.intro (eq_false hk6) he) ?_
     refine aw_graph [⟨[ff,ff,ff,ff,ff,ff,ff,ff,ff,ff],10,.one 0 0⟩,⟨[tt,ff,ff,ff,ff,ff,ff,ff,ff,ff],9,.one 1 0⟩,⟨[tt,tt,ff,ff,ff,ff,ff,ff,ff,ff],8,.one 2 0⟩,⟨[tt,tt,tt,ff,ff,ff,ff,ff,ff,ff],7,.one 3 0⟩,⟨[tt,tt,tt,tt,ff,ff,ff,ff,ff,ff],6,.one 7 0⟩,⟨[tt,tt,tt,tt,ff,ff,ff,tt,ff,ff],5,.alt [(4,0),(8,1)]⟩,⟨[tt,tt,tt,tt,tt,ff,ff,tt,ff,ff],4,.alt [(5,1),(8,2)]⟩,⟨[tt,tt,tt,tt,ff,ff,ff,tt,tt,ff],4,.alt [(4,1)]⟩,⟨[tt,tt,tt,tt,tt,tt,ff,tt,ff,ff],3,.alt [(6,1),(8,2)]⟩,⟨[tt,tt,tt,tt,tt,ff,ff,tt,tt,ff],3,.alt [(5,1)]⟩,⟨[tt,tt,tt,tt,tt,tt,tt,tt,ff,ff],2,.alt [(8,1)]⟩,⟨[tt,tt,tt,tt,tt,tt,ff,tt,tt,ff],2,.alt [(6,0)]⟩,⟨[tt,tt,tt,tt,tt,tt,tt,tt,tt,ff],1,.alt [(9,0)]⟩,⟨[tt,tt,tt,tt,tt,tt,tt,tt,tt,tt],0,.fin⟩] ?_
     refine graph_to (fun z:Nat×Nat=>z.1≠v0∧(addP out d e w0.kind).length≤z.2∧z.2≤maxLen) ⟨[3,4,7,8,9,27,28,29],[3,4,7,77],[],[]⟩ (fun z=>⟨78,[(3,.p 3 0),(4,.p 4 0),(7,.p 7 0),(8,.v (addV v0)),(9,.v (ints ds)),(27,.v (ints C)),(28,.v (vi C.length)),(29,.v (vi i))],[(3,.var r.cs),(4,.var f.cs),(7,.var [.val (.slice (some ⟨z.1,0,none⟩) (addP out d e w0.kind).length z.2)] (some v0)),(77,rowP (addP out d e w0.kind) z.1 z.2)],[]⟩) (fun st st' hk h=>aw_keep _ hk h) (fun z hz=> ?_) (fun K' hK=> ?_)
     ·refine run ?_
      refine roundV (i+1,z.1,z.2) ⟨hlt,fun _=>by rw[hsucc]; exact hz⟩ (by simp only; omega) ?_
      show keepS (if i+1=0 then _ else _) _=some (if i+1=0 then _ else _)
      rw[if_neg (Nat.succ_ne_zero i),if_neg (Nat.succ_ne_zero i),hsucc,outP_ne (addP_ne _ _ _ _)]
      rfl
     ·refine runGraph he ?_
      repeat' (with_reducible refine And.intro ?_ ?_)
      all_goals
       have hadd3:=denV_add (T:=T) out v0 r' cap' d e w0.kind (by omega) (fun _=>⟨hv',hl',hm'⟩)
       rw[outP_ne hne0,show rowOP out r' cap'=some (rowP out r' cap') from if_neg hne0] at hadd3
       refine callX (callV ⟨[(999000,7)],999050,77,_,_,_,_,hadd3,.cons (.v _) (.cons (.v _) (.cons (.v _) (.cons (.pn rfl rfl) .nil))),rfl,rfl,?_,(fun h=>nomatch h),(by show (77:Nat)<78; decide),?_⟩)
       ·intro x hx
        simp only[rowL,List.cons_append,List.nil_append,List.mem_cons,List.not_mem_nil,or_false] at hx
        rcases hx with rfl | rfl
        ·exact ⟨7,_,rfl,rfl,rfl,.inr rfl,rfl⟩
        ·exact ⟨77,_,rfl,rfl,rfl,.inr rfl,rfl⟩
       rintro ks3 bb3 vv3 ⟨hne3,r3,cap3,hv3,hl3,hm3,rfl,rfl,rfl⟩
       refine ⟨rfl,fun hnm3=> ?_⟩
       rw[outP_ne hne3]
       simp only[rowP,setbs,setb,lk,look_cons',unH_cons,unH_nil,unT_v,unT_p,Nat.reduceEqDiff,↓reduceIte,Blk.wn,Blk.nm,remK,remBs,hasC_nil,cond_false]
       refine runGraph trivial ?_
       exact leafK hK (r3,cap3) ⟨hv3,hl3,hm3⟩
 ·have hin:i=C.length:=by omega
  subst hin
  have h0:¬C.length=0:=by omega
  simp only[h0,if_false]
  obtain ⟨hv',hl',hm'⟩:=hrow h0
  have hne0:lineI r f ds C.length≠[]:=by
   obtain ⟨j,hj⟩:∃j,C.length=j+1:=⟨C.length-1,by omega⟩
   obtain ⟨d1,hd1,-,-⟩:=drop_at (l:=ds) (k:=j) (by omega)
   obtain ⟨e1,he1,-,-⟩:=drop_at (l:=ds) (k:=j+1) (by omega)
   rw[hj,lineI_succ hd1 he1]
   exact (segP_len _ _ _ _ _).2
  obtain ⟨out,hout⟩:∃out,lineI r f ds C.length=out:=⟨_,rfl⟩
  rw[hout] at hne0 hl' ⊢
  rw[outP_ne hne0]
  refine run ?_
  refine finFr (id:=77) (r:=r') (n:=out.length) (cap:=cap') (e:=101) (size:=3) (cs:=(out.map pceC).flatten) ?_ hl' (by rw[flat_len]; omega) ?_
  ·rw[chunk_pces]
   exact .refl _
  ·simp[findN,findK,Blk.nm,nmOf,look_cons',rowP,hv']
end Go.Arc
set_option maxRecDepth 100000
namespace Go.Arc
open Go.Ab Go.RowKit Go.Proofs
variable {T : Lay}
def lineE (r:Rgs) (id a b:Int):Int:=if askE r id≠0 then askE r id else if a<0∨b≤a∨1048576<b then 2 else 0
def lineG (r:Rgs) (id a b:Int):List Pce:=if lineE r id a b=0 then lineS r (filA r id) a b else []
theorem wk_nilP (e:Int):Wk (.tup [.val (.slice none 0 0),vi e]) (.tup [pces [],vi e]):=wk_tups (.cons (.nil 3) (.cons (.refl _) .nil))
theorem den_LineG (L:LibC T) (r:Rgs) (h:r.Fit) (id a b:Int):Den Tryz.prog T 26 [.agg r.cs,vi id,span a b] (.tup [pces (lineG r id a b),vi (lineE r id a b)]):=by
 refine den_of_body follows (fun args w=>Tryz.call26 args w) Tryz.func26 rfl 38 rfl ?_
 refine run ?_
 refine call (den_find11 L r h id) ?_
 unfold lineG
 by_cases h0:askE r id=0
 ·rw[if_pos h0]
  obtain ⟨h1,h2⟩:=ask_ok h0
  have hok:=okG_of h1
  obtain ⟨k,-,-,-,hm,-⟩:=find_fil h2
  by_cases g1:a<0
  ·have he:lineE r id a b=2:=by unfold lineE; rw[if_neg (fun e=>e h0),if_pos (.inl g1)]
   rw[he,if_neg (by decide)]
   refine runW (eq_true g1) ?_
   exact finW (wk_nilP 2)
  by_cases g2:b≤a
  ·have he:lineE r id a b=2:=by unfold lineE; rw[if_neg (fun e=>e h0),if_pos (.inr (.inl g2))]
   rw[he,if_neg (by decide)]
   refine runW (And.intro (eq_false g1) (eq_true g2)) ?_
   exact finW (wk_nilP 2)
  by_cases g3:1048576<b
  ·have he:lineE r id a b=2:=by unfold lineE; rw[if_neg (fun e=>e h0),if_pos (.inr (.inr g3))]
   rw[he,if_neg (by decide)]
   refine runW (And.intro (eq_false g1) (And.intro (eq_false g2) (eq_true g3))) ?_
   exact finW (wk_nilP 2)
  have he:lineE r id a b=0:=by
   unfold lineE
   rw[if_neg (fun e=>e h0),if_neg]
   rintro (e | e | e)
   ·exact g1 e
   ·exact g2 e
   ·exact g3 e
  rw[he,if_pos rfl]
  refine runW (And.intro (eq_false g1) (And.intro (eq_false g2) (eq_false g3))) ?_
  refine call (den_line L r (filA r id) a b h hok hm (by omega)) ?_
  refine run ?_
  exact fin rfl
 ·have he:lineE r id a b=askE r id:=by unfold lineE; rw[if_pos h0]
  rw[if_neg h0,he,if_neg h0]
  refine runW h0 ?_
  exact finW (wk_nilP _)
theorem den_eqP (l:List Pce) (hl:l.length≤1048576):Den Tryz.prog T 42 [pces l,pces l] (vb true):=by
 refine den_of_body follows (fun args w=>Tryz.call42 args w) Tryz.func42 rfl 26 rfl ?_
 refine run ?_
 refine loop ⟨[0,1,12,13],[],[],[]⟩ (fun k:Nat=>k≤l.length) (fun k=>l.length-k)
  (fun k=>⟨26,[(0,.v (pces l)),(1,.v (pces l)),(12,.v (vi l.length)),(13,.v (vi k))],[],[]⟩) 0 (Nat.zero_le _) ?_
 intro k hk
 by_cases hlt:k<l.length
 ·obtain ⟨x,hx,-,-⟩:=drop_at hlt
  refine runW hx ?_
  exact round (k+1) hlt (by omega)
 ·refine run ?_
  exact fin rfl
inductive WkR (size:Nat):List (List V)→List (List V)→Prop
 | nil:WkR size [] []
 | cons {a b:List V} {l m:List (List V)} (h:Wks a b) (hs:b.length=size) (ho:(b.all fun v=>v.one)=true) (t:WkR size l m):WkR size (a::l) (b::m)
theorem WkR.wk {size:Nat} {l m:List (List V)} (h:WkR size l m):Wk (.slice size l) (.slice size m):=by
  have hl:l.length=m.length:=by induction h with | nil=>rfl | cons _ _ _ _ ih=>simp[ih]
  refine Wk.slice hl (fun e he=> ?_) (fun e he c hc=> ?_) ?_
  · clear hl
    induction h with
    | nil=>cases he
    | cons _ hs _ _ ih => rcases List.mem_cons.1 he with rfl | he; · exact hs
                          · exact ih he
  · clear hl
    induction h with
    | nil=>cases he
    | cons _ _ ho _ ih => rcases List.mem_cons.1 he with rfl | he; · exact List.all_eq_true.1 ho c hc
                          · exact ih he
  · clear hl
    induction h with
    | nil=>intro i j e u v c h1; simp at h1
    | cons hw _ _ _ ih=>
      intro i j e u v c h1 h2 h3 h4
      cases i with
      | zero=>
        simp only[List.getElem?_cons_zero,Option.some.injEq] at h1 h2
        subst h1 h2
        obtain ⟨v',q1,q2⟩:=hw.get h4
        rw[h3] at q1
        cases q1
        exact q2
      | succ i=>exact ih i j e u v c (by simpa using h1) (by simpa using h2) h3 h4
def exG:Rgs:=⟨[⟨1,[65],0,1048576,[]⟩],[⟨1,0,1048576,[⟨[49],[84]⟩,⟨[49,46,49],[84]⟩],[]⟩],[⟨7,1,5,10,[49,46,49],[84],0,[]⟩],[⟨3,[49],[99,108,111,115,101,100],0,false,1,0,1048576⟩],[⟨2,1,7,[],[82],12,20⟩],[],[],[],[],[],[],0⟩
theorem exG_fit:exG.Fit:=by
 refine ⟨⟨by decide,fun o ho=> ?_⟩,⟨by decide,fun p hp=> ?_⟩,⟨by decide,fun f hf=> ?_⟩,⟨by decide,fun q hq=> ?_⟩,⟨by decide,fun q hq=> ?_⟩,⟨by decide,fun q hq=>(by cases hq)⟩,⟨by decide,fun q hq=>(by cases hq)⟩,⟨by decide,fun q hq=>(by cases hq)⟩,by decide,⟨by decide,fun q hq=>(by cases hq)⟩,by decide⟩
 ·simp only[exG,List.mem_cons,List.not_mem_nil,or_false] at ho
  subst ho
  exact ⟨by decide,by decide⟩
 ·simp only[exG,List.mem_cons,List.not_mem_nil,or_false] at hp
  subst hp
  refine ⟨by decide,by decide,fun c hc=> ?_,fun c hc=>(by cases hc)⟩
  simp only[List.mem_cons,List.not_mem_nil,or_false] at hc
  rcases hc with rfl | rfl <;> exact ⟨by decide,by decide⟩
 ·simp only[exG,List.mem_cons,List.not_mem_nil,or_false] at hf
  subst hf
  exact ⟨by decide,by decide,by decide,fun n hn=>(by cases hn)⟩
 ·simp only[exG,List.mem_cons,List.not_mem_nil,or_false] at hq
  subst hq
  exact ⟨by decide,by decide⟩
 ·simp only[exG,List.mem_cons,List.not_mem_nil,or_false] at hq
  subst hq
  exact ⟨by decide,by decide⟩
theorem den_example11:Den Tryz.prog T 41 [] (.agg exG.cs):=by
 refine den_of_body follows (fun args w=>Tryz.call41 args w) Tryz.func41 rfl 21 rfl ?_
 refine run ?_
 refine finW (wk_aggs ?_ rfl)
 refine .cons (WkR.wk (.cons ?_ rfl rfl .nil)) (.cons (WkR.wk (.cons ?_ rfl rfl .nil)) (.cons (WkR.wk (.cons ?_ rfl rfl .nil)) (.cons (.refl _) (.cons (.refl _) ?_))))
 all_goals repeat (first | exact .nil | refine .cons (.refl _) ?_ | refine .cons (.nil _) ?_)
def exG7:Fil:=⟨7,1,5,10,[49,46,49],[84],0,[]⟩
def exX:List Pce:=[⟨0,5,0⟩,⟨5,10,3⟩,⟨10,11,6⟩,⟨11,12,8⟩,⟨12,20,7⟩,⟨20,30,8⟩]
theorem kd_range {a n:Nat} {v:Int} (h:((List.range n).all fun i=>decide (kdF exG exG7 ((a+i:Nat):Int)=v))=true) {d:Int} (h1:(a:Int)≤d) (h2:d<(a+n:Nat)):kdF exG exG7 d=v:=by
 have:=List.all_eq_true.1 h (d.toNat-a) (by rw[List.mem_range]; omega)
 have h3:=of_decide_eq_true this
 rw[show ((a+(d.toNat-a):Nat):Int)=d by omega] at h3
 exact h3
theorem exX_runs:Runs (kdF exG exG7) 30 0 exX:=by
 refine ⟨rfl,by decide,fun d h1 h2=>kd_range (a:=0) (n:=5) (by decide +kernel) h1 h2,fun q hq=> ?_,rfl,by decide,fun d h1 h2=>kd_range (a:=5) (n:=5) (by decide +kernel) h1 h2,fun q hq=> ?_,rfl,by decide,fun d h1 h2=>kd_range (a:=10) (n:=1) (by decide +kernel) h1 h2,fun q hq=> ?_,rfl,by decide,fun d h1 h2=>kd_range (a:=11) (n:=1) (by decide +kernel) h1 h2,fun q hq=> ?_,rfl,by decide,fun d h1 h2=>kd_range (a:=12) (n:=8) (by decide +kernel) h1 h2,fun q hq=> ?_,rfl,by decide,fun d h1 h2=>kd_range (a:=20) (n:=10) (by decide +kernel) h1 h2,fun q hq=> ?_,rfl⟩
 all_goals first | (cases hq; decide) | cases hq
theorem ex_check:checkG exG=0:=by decide +kernel
theorem ex_ask:askE exG 7=0:=by decide +kernel
theorem ex_fil:filA exG 7=exG7:=rfl
theorem ex_lineE:lineE exG 7 0 30=0:=by unfold lineE; rw[ex_ask]; decide
theorem ex_line:lineG exG 7 0 30=exX:=by
 unfold lineG
 rw[ex_lineE,if_pos rfl,ex_fil]
 exact (line_runs exG exG7 (by decide)).unique exX_runs
theorem ex_onE:onE exG 7 15=0:=by unfold onE; rw[ex_ask]; decide
theorem ex_on:onV exG 7 15=⟨7,7,15,3,10,[2]⟩:=by
 unfold onV
 rw[ex_onE,if_pos rfl,ex_fil]
 have h1:(vdt exG exG7 15).kind=7:=by decide +kernel
 have h2:(vdt exG exG7 15).fil=7:=by decide +kernel
 have h3:(vdt exG exG7 15).day=15:=by decide +kernel
 have h4:(vdt exG exG7 15).rule=3:=by decide +kernel
 have h5:(vdt exG exG7 15).due=10:=by decide +kernel
 have h6:(vdt exG exG7 15).hls=[2]:=by decide +kernel
 cases hv:vdt exG exG7 15
 rw[hv] at h1 h2 h3 h4 h5 h6
 simp only at h1 h2 h3 h4 h5 h6
 rw[h1,h2,h3,h4,h5,h6]
set_option maxHeartbeats 2000000 in
theorem den_awake11 (L:LibC T):Den Tryz.prog T 10 [] (vb true):=by
 have c0:=den_example11 (T:=T)
 have c1:Den Tryz.prog T 26 [.agg exG.cs,vi 7,span 0 30] (.tup [pces exX,vi 0]):=by
  have:=den_LineG (T:=T) L exG exG_fit 7 0 30
  rwa [ex_lineE,ex_line] at this
 have c2:Den Tryz.prog T 14 [.agg exG.cs,vi 7,vi 15] (.tup [.agg (Vdt.cs ⟨7,7,15,3,10,[2]⟩),vi 0]):=by
  have:=den_On (T:=T) L exG exG_fit 7 15
  rwa [ex_onE,ex_on] at this
 have c3:Den Tryz.prog T 12 [.agg exG.cs] (vi 0):=by
  have:=den_CheckG (T:=T) L exG exG_fit
  rwa [ex_check] at this
 have c4:Den Tryz.prog T 42 [pces exX,.slice 3 [[vi 0,vi 5,vi 0],[vi 5,vi 10,vi 3],[vi 10,vi 11,vi 6],[vi 11,vi 12,vi 8],[vi 12,vi 20,vi 7],[vi 20,vi 30,vi 8]]] (vb true):=den_eqP (T:=T) exX (by decide)
 have c5:Den Tryz.prog T 43 [.slice 1 [[vi 2]],.slice 1 [[vi 2]]] (vb true):=den_eqInts (T:=T) [2] [2] (by decide)
 obtain ⟨r,hr⟩:∃r,exG=r:=⟨_,rfl⟩
 obtain ⟨X,hX⟩:∃X,pces exX=X:=⟨_,rfl⟩
 rw[hr] at c0 c1 c2 c3
 rw[hX] at c1 c4
 clear hr hX
 refine den_of_body follows (fun args w=>Tryz.call10 args w) Tryz.func10 rfl 67 rfl ?_
 refine run ?_
 refine call c0 ?_
 refine run ?_
 refine call c1 ?_
 refine run ?_
 refine call c2 ?_
 refine run ?_
 refine call c3 ?_
 refine run ?_
 refine call c4 ?_
 refine run ?_
 refine call c5 ?_
 refine run ?_
 exact fin rfl
end Go.Arc
set_option maxRecDepth 100000
namespace Go.Arc
open Go.Ab Go.RowKit Go.Proofs
variable {T : Lay}
def manyS (l:List Sel):Bool:=l.any fun s=>decide (12<s.fls.length)
def manyC (l:List Crt):Bool:=l.any fun s=>decide (12<s.fls.length)
def fewG0 (r:Rgs):Bool:=fewO r.ofs && few r.pls && fewF r.fls && fewR r.rls && fewH r.hls && !decide (8<r.sls.length) && !decide (8<r.crs.length) && !decide (8<r.dps.length)
def fewG (r:Rgs):Bool:=fewG0 r && !manyS r.sls && !manyC r.crs
theorem den_FewG (r:Rgs) (h:r.Fit):Den Tryz.prog T 11 [.agg r.cs] (vb (fewG r)):=by
 have hs:=h.sls.1
 have hc:=h.crs.1
 have hd:=h.dps
 refine den_of_body follows (fun args w=>Tryz.call11 args w) Tryz.func11 rfl 81 rfl ?_
 unfold fewG fewG0
 refine run ?_
 refine call (den_FewO r.ofs h.ofs) ?_
 cases e1:fewO r.ofs
 ·refine run ?_
  exact fin rfl
 refine run ?_
 refine call (den_Few r.pls h.pls) ?_
 cases e2:few r.pls
 ·refine run ?_
  exact fin rfl
 refine run ?_
 refine call (den_FewF r.fls h.fls) ?_
 cases e3:fewF r.fls
 ·refine run ?_
  exact fin rfl
 refine run ?_
 refine call (den_FewR r.rls h.rls) ?_
 cases e4:fewR r.rls
 ·refine run ?_
  exact fin rfl
 refine run ?_
 refine call (den_FewH r.hls h.hls) ?_
 cases e5:fewH r.hls
 ·refine run ?_
  exact fin rfl
 by_cases g1:8<r.sls.length
 ·rw[decide_eq_true g1]
  refine runW (eq_true g1) ?_
  exact fin rfl
 by_cases g2:8<r.crs.length
 ·rw[decide_eq_true g2,decide_eq_false g1]
  refine runW (And.intro (eq_false g1) (eq_true g2)) ?_
  exact fin rfl
 by_cases g3:8<r.dps.length
 ·rw[decide_eq_true g3,decide_eq_false g2,decide_eq_false g1]
  refine runW (And.intro (eq_false g1) (And.intro (eq_false g2) (eq_true g3))) ?_
  exact fin rfl
 rw[decide_eq_false g3,decide_eq_false g2,decide_eq_false g1]
 refine runW (And.intro (eq_false g1) (And.intro (eq_false g2) (eq_false g3))) ?_
 refine loop ⟨[1,3],[1],[],[]⟩ (fun k:Nat=>k≤r.sls.length∧∀s∈r.sls.take k,decide (12<s.fls.length)=false) (fun k=>r.sls.length-k)
  (fun k=>⟨81,[(1,.p 1 0),(3,.v (vi k))],[(1,.var r.cs)],[]⟩) 0 ⟨Nat.zero_le _,by simp⟩ ?_
 rintro k ⟨hk,hall⟩
 by_cases hlt:k<r.sls.length
 ·obtain ⟨x,hx,-,hm⟩:=drop_at hlt
  have hxf:=h.sls.2 x hm
  by_cases hb:12<x.fls.length
  ·have hmany:manyS r.sls=true:=List.any_eq_true.2 ⟨x,hm,decide_eq_true hb⟩
   rw[hmany]
   refine runW (And.intro hx (eq_true hb)) ?_
   exact fin rfl
  ·refine runW (And.intro hx (eq_false hb)) ?_
   exact round (k+1) ⟨hlt,take_snoc hall hx (decide_eq_false hb)⟩ (by omega)
 have hms:manyS r.sls=false:=List.any_eq_false.2 fun x hx=>by rw[take_all hall hlt x hx]; decide
 rw[hms]
 clear hall
 refine run ?_
 refine loop ⟨[1,4],[1],[],[]⟩ (fun k:Nat=>k≤r.crs.length∧∀s∈r.crs.take k,decide (12<s.fls.length)=false) (fun k=>r.crs.length-k)
  (fun k=>⟨81,[(1,.p 1 0),(4,.v (vi k))],[(1,.var r.cs)],[]⟩) 0 ⟨Nat.zero_le _,by simp⟩ ?_
 rintro j ⟨hj,hall⟩
 by_cases hjl:j<r.crs.length
 ·obtain ⟨x,hx,-,hm⟩:=drop_at hjl
  have hxf:=(h.crs.2 x hm).1
  by_cases hb:12<x.fls.length
  ·have hmany:manyC r.crs=true:=List.any_eq_true.2 ⟨x,hm,decide_eq_true hb⟩
   rw[hmany]
   refine runW (And.intro hx (eq_true hb)) ?_
   exact fin rfl
  ·refine runW (And.intro hx (eq_false hb)) ?_
   exact round (j+1) ⟨hjl,take_snoc hall hx (decide_eq_false hb)⟩ (by omega)
 have hmc:manyC r.crs=false:=List.any_eq_false.2 fun x hx=>by rw[take_all hall hjl x hx]; decide
 rw[hmc]
 refine run ?_
 exact fin rfl
end Go.Arc
set_option maxRecDepth 100000
namespace Go.Arc
open Go.Ab Go.RowKit Go.Proofs
variable {T : Lay}
theorem dayG_le {d:Int} (h:dayG d=true):d≤1048575:=by
 unfold dayG at h
 rw[Bool.and_eq_true,decide_eq_true_eq,decide_eq_true_eq] at h
 exact h.2
theorem den_asks (L:LibC T) (r:Rgs) (h:r.Fit) (id:Int):Den Tryz.prog T 87 [.agg r.cs,vi id] (if askE r id=0 then .tup [vi (findF r.fls id),vi 0] else .tup [vi 0,vi (askE r id)]):=by
 have hf:=h.fls.1
 refine den_of_body follows (fun args w=>Tryz.call87 args w) Tryz.func87 rfl 17 rfl ?_
 refine run ?_
 refine call (den_CheckGRef L r h) ?_
 by_cases h1:checkG r=0
 ·refine runW h1 ?_
  refine call (den_FindFRef r.fls id hf) ?_
  by_cases h2:findF r.fls id<0
  ·rw[askE_7 h1 h2,if_neg (by decide)]
   refine runW (eq_true h2) ?_
   exact fin rfl
  ·rw[askE_0 h1 h2,if_pos rfl]
   refine runW (eq_false h2) ?_
   exact fin rfl
 ·rw[askE_1 h1,if_neg (by decide)]
  refine runW h1 ?_
  exact fin rfl
theorem den_OnRef (L:LibC T) (r:Rgs) (h:r.Fit) (id d:Int):Den Tryz.prog T 31 [.agg r.cs,vi id,vi d] (.tup [.agg (onV r id d).cs,vi (onE r id d)]):=by
 have hf:=h.fls.1
 refine den_of_body follows (fun args w=>Tryz.call31 args w) Tryz.func31 rfl 32 rfl ?_
 refine run ?_
 refine call (den_asks L r h id) ?_
 unfold onV
 by_cases h0:askE r id=0
 ·rw[if_pos h0]
  obtain ⟨h1,h2⟩:=ask_ok h0
  obtain ⟨k,hk,hlt,hx,hm,-⟩:=find_fil h2
  rw[hk]
  refine run ?_
  refine call (den_day11R d) ?_
  cases hd:dayG d
  ·have he:onE r id d=2:=by unfold onE; rw[if_neg (fun e=>e h0),if_pos hd]
   rw[he,if_neg (by decide)]
   refine run ?_
   exact finW (wk_vdtZ 2)
  ·have he:onE r id d=0:=by unfold onE; rw[if_neg (fun e=>e h0),if_neg (by rw[hd]; decide)]
   rw[he,if_pos rfl]
   refine runW hx ?_
   refine call (den_DecideRef L r (filA r id) d h (okG_of h1) hm (dayG_le hd)) ?_
   refine run ?_
   exact fin rfl
 ·have he:onE r id d=askE r id:=by unfold onE; rw[if_pos h0]
  rw[if_neg h0,he,if_neg h0]
  refine runW h0 ?_
  exact finW (wk_vdtZ _)
theorem den_DueGRef (L:LibC T) (r:Rgs) (h:r.Fit) (k d:Int):Den Tryz.prog T 33 [.agg r.cs,vi k,vi d] (.tup [ints (dueLs r k d),vi (dueE r k d)]):=by
 have hf:=h.fls.1
 refine den_of_body follows (fun args w=>Tryz.call33 args w) Tryz.func33 rfl 53 rfl ?_
 refine run ?_
 refine call (den_CheckGRef L r h) ?_
 unfold dueLs
 by_cases h1:checkG r=0
 case neg=>
  have he:dueE r k d=1:=if_pos h1
  rw[he,if_neg (by decide)]
  refine runW h1 ?_
  exact finW (wk_tups (.cons (.nil 1) (.cons (.refl _) .nil)))
 have hg:=okG_of h1
 by_cases g1:k<0
 ·have he:dueE r k d=2:=by unfold dueE; rw[if_neg (fun e=>e h1),if_pos (.inl g1)]
  rw[he,if_neg (by decide)]
  refine runW (And.intro h1 (eq_true g1)) ?_
  exact finW (wk_tups (.cons (.nil 1) (.cons (.refl _) .nil)))
 by_cases g2:9<k
 ·have he:dueE r k d=2:=by unfold dueE; rw[if_neg (fun e=>e h1),if_pos (.inr (.inl g2))]
  rw[he,if_neg (by decide)]
  refine runW (And.intro h1 (And.intro (eq_false g1) (eq_true g2))) ?_
  exact finW (wk_tups (.cons (.nil 1) (.cons (.refl _) .nil)))
 refine runW (And.intro h1 (And.intro (eq_false g1) (eq_false g2))) ?_
 refine call (den_day11R d) ?_
 cases hd:dayG d
 ·have he:dueE r k d=2:=by unfold dueE; rw[if_neg (fun e=>e h1),if_pos (.inr (.inr hd))]
  rw[he,if_neg (by decide)]
  refine run ?_
  exact finW (wk_tups (.cons (.nil 1) (.cons (.refl _) .nil)))
 have he:dueE r k d=0:=by
  unfold dueE
  rw[if_neg (fun e=>e h1),if_neg]
  rintro (e | e | e)
  ·exact g1 e
  ·exact g2 e
  ·rw[hd] at e; cases e
 rw[he,if_pos rfl]
 refine run ?_
 refine loop ⟨[1,2,3,8,9],[3],[8],[(8,3,1)]⟩ (fun y:Nat×List Int=>y.1≤r.fls.length∧y.2.length≤y.1∧y.2=((r.fls.take y.1).filter fun f=>decide ((vdt r f d).kind=k)).map (·.id)) (fun y=>r.fls.length-y.1)
  (fun y=>⟨53,[(1,.v (vi k)),(2,.v (vi d)),(3,.p 3 0),(8,.v (ints y.2)),(9,.v (vi y.1))],[(3,.var r.cs)],[(3,[8])]⟩) (0,[]) ⟨Nat.zero_le _,Nat.le_refl _,rfl⟩ ?_
 rintro ⟨j,out⟩ ⟨hj,hlen,ho⟩
 simp only at hj hlen ho
 by_cases hjl:j<r.fls.length
 ·obtain ⟨f,hx,-,hm⟩:=drop_at hjl
  have hsn:=dueF_snoc r k d hx
  rw[← ho] at hsn
  have hff:=h.fls.2 f hm
  refine runW hx ?_
  refine call (den_DecideRef L r f d h hg hm (dayG_le hd)) ?_
  by_cases hk:(vdt r f d).kind=k
  ·rw[if_pos hk] at hsn
   have hap:out.map Cint++[[V.val (.int .i64 f.id)]]=(out++[f.id]).map Cint:=by simp
   refine runW (And.intro hk (And.intro hx hap)) ?_
   exact round (j+1,out++[f.id]) ⟨by simp only; omega,by simp; omega,by simp only; rw[hsn]⟩ (by simp only; omega)
  ·rw[if_neg hk,List.append_nil] at hsn
   refine runW (eq_false hk) ?_
   exact round (j+1,out) ⟨by simp only; omega,by simp only; omega,by simp only; rw[hsn]⟩ (by simp only; omega)
 ·refine run ?_
  refine fin ?_
  rw[ho,List.take_of_length_le (by omega)]
def sameV (a b:Vdt):Bool:=decide (a.kind=b.kind) && decide (a.fil=b.fil) && decide (a.day=b.day) && decide (a.rule=b.rule) && decide (a.due=b.due) && decide (a.hls=b.hls)
theorem sameV_iff (a b:Vdt):sameV a b=true↔a=b:=by
 unfold sameV
 cases a; cases b
 simp[and_assoc]
theorem sameV_refl (a:Vdt):sameV a a=true:=(sameV_iff a a).2 rfl
theorem den_Same (a b:Vdt) (ha:a.hls.length≤1048576):Den Tryz.prog T 34 [.agg a.cs,.agg b.cs] (vb (sameV a b)):=by
 refine den_of_body follows (fun args w=>Tryz.call34 args w) Tryz.func34 rfl 45 rfl ?_
 unfold sameV
 by_cases e1:a.kind=b.kind
 case neg=>
  rw[decide_eq_false e1]
  refine runW (eq_false e1) ?_
  exact fin rfl
 by_cases e2:a.fil=b.fil
 case neg=>
  rw[decide_eq_true e1,decide_eq_false e2]
  refine runW (And.intro (eq_true e1) (eq_false e2)) ?_
  exact fin rfl
 by_cases e3:a.day=b.day
 case neg=>
  rw[decide_eq_true e1,decide_eq_true e2,decide_eq_false e3]
  refine runW (And.intro (eq_true e1) (And.intro (eq_true e2) (eq_false e3))) ?_
  exact fin rfl
 by_cases e4:a.rule=b.rule
 case neg=>
  rw[decide_eq_true e1,decide_eq_true e2,decide_eq_true e3,decide_eq_false e4]
  refine runW (And.intro (eq_true e1) (And.intro (eq_true e2) (And.intro (eq_true e3) (eq_false e4)))) ?_
  exact fin rfl
 by_cases e5:a.due=b.due
 case neg=>
  rw[decide_eq_true e1,decide_eq_true e2,decide_eq_true e3,decide_eq_true e4,decide_eq_false e5]
  refine runW (And.intro (eq_true e1) (And.intro (eq_true e2) (And.intro (eq_true e3) (And.intro (eq_true e4) (eq_false e5))))) ?_
  exact fin rfl
 rw[decide_eq_true e1,decide_eq_true e2,decide_eq_true e3,decide_eq_true e4,decide_eq_true e5]
 refine runW (And.intro (eq_true e1) (And.intro (eq_true e2) (And.intro (eq_true e3) (And.intro (eq_true e4) (eq_true e5))))) ?_
 refine call (den_sameInts a.hls b.hls ha) ?_
 refine run ?_
 exact fin rfl
theorem vdt_hls (r:Rgs) (f:Fil) (d:Int):(vdt r f d).hls.length≤r.hls.length:=by
 have h:=hold_len r.ofs r.pls r.hls f d
 unfold vdt
 simp only
 repeat' split
 all_goals first | exact h | exact Nat.zero_le _
theorem onV_hls (r:Rgs) (h:r.Fit) (id d:Int):(onV r id d).hls.length≤1048576:=by
 unfold onV
 split
 ·exact Nat.le_trans (vdt_hls _ _ _) h.hls.1
 ·exact Nat.zero_le _
theorem dueLs_len (r:Rgs) (h:r.Fit) (k d:Int):(dueLs r k d).length≤1048576:=by
 unfold dueLs
 split
 ·rw[List.length_map]
  exact Nat.le_trans (List.length_filter_le _ _) h.fls.1
 ·exact Nat.zero_le _
theorem den_VerdictOn (L:LibC T) (r:Rgs) (id k d:Int) (h:r.Fit):Den Tryz.prog T 7 [.agg r.cs,vi id,vi k,vi d] (vb true):=by
 refine den_of_body follows (fun args w=>Tryz.call7 args w) Tryz.func7 rfl 68 rfl ?_
 refine run ?_
 refine call (den_awake11 L) ?_
 refine run ?_
 refine call (den_FewG r h) ?_
 cases fewG r
 ·refine run ?_
  exact fin rfl
 refine run ?_
 refine call (den_On L r h id d) ?_
 refine run ?_
 refine call (den_OnRef L r h id d) ?_
 refine run ?_
 refine call (den_DueG L r h k d) ?_
 refine run ?_
 refine call (den_DueGRef L r h k d) ?_
 have h1:=onV_hls r h id d
 have h2:=dueLs_len r h k d
 obtain ⟨v,hv⟩:∃v,onV r id d=v:=⟨_,rfl⟩
 obtain ⟨l,hl⟩:∃l,dueLs r k d=l:=⟨_,rfl⟩
 rw[hv] at h1 ⊢
 rw[hl] at h2 ⊢
 refine run ?_
 refine call (den_Same v v h1) ?_
 rw[sameV_refl]
 refine run ?_
 refine call (den_sameInts l l h2) ?_
 rw[decide_eq_true rfl]
 refine run ?_
 exact fin rfl
end Go.Arc
set_option maxRecDepth 100000
namespace Go.Arc
open Go.Ab Go.RowKit Go.Proofs
variable {T : Lay}
theorem anyB_snoc {α:Type} {p:α→Bool} {l:List α} {k:Nat} {x:α} (h:l[k]? = some x):(l.take (k+1)).any p=((l.take k).any p || p x):=by
 obtain ⟨hlt,rfl⟩:=List.getElem?_eq_some_iff.1 h
 rw[List.take_succ_eq_append_getElem hlt,List.any_append]
 simp
theorem allB_snoc {α:Type} {p:α→Bool} {l:List α} {k:Nat} {x:α} (h:l[k]? = some x):(l.take (k+1)).all p=((l.take k).all p && p x):=by
 obtain ⟨hlt,rfl⟩:=List.getElem?_eq_some_iff.1 h
 rw[List.take_succ_eq_append_getElem hlt,List.all_append]
 simp
theorem takeB_all {α:Type} {l:List α} {k:Nat} (hk:k≤l.length) (h:¬k<l.length):l.take k=l:=List.take_of_length_le (by omega)
theorem any_swap (l:List Int) (x:Int):(l.any fun y=>decide (x=y))=l.any fun n=>decide (n=x):=by
 congr 1; funext y
 rw[Bool.eq_iff_iff,decide_eq_true_eq,decide_eq_true_eq]
 exact eq_comm
theorem namedB_one (d:Int) (f:Fil) (x:Dep):namedB d f x.day [x.fil]=(decide (x.day≤d) && decide (x.fil=f.id)):=by unfold namedB; simp
theorem aw_meet {P:Program} {α:Type} {G:Prop} {c:Code} {Q:AX→St→Prop} (k:Kp) (φ:α→Prop) (S:α→St) (h:(∀st x,φ x→keepS k st=some (S x)→aw P T c st Q)→G) (h2:∀x,φ x→aw P T c (S x) Q):G:=h fun _ x hx hk=>aw_keep k hk (h2 x hx)
set_option maxHeartbeats 4000000 in
theorem den_VerdictPermits (L:LibC T) (r:Rgs) (id d:Int) (h:r.Fit):Den Tryz.prog T 4 [.agg r.cs,vi id,vi d] (vb true):=by
 have hfl:=h.fls.1
 have hrl:=h.rls.1
 have hsl:=h.sls.1
 have hcl:=h.crs.1
 have hdl:=h.dps
 refine den_of_body follows (fun args w=>Tryz.call4 args w) Tryz.func4 rfl 236 rfl ?_
 refine run ?_
 refine call (den_awake11 L) ?_
 refine run ?_
 refine call (den_FewG r h) ?_
 cases fewG r
 ·refine run ?_
  exact fin rfl
 refine run ?_
 refine call (den_On L r h id d) ?_
 refine run ?_
 refine call (den_FindF r.fls id hfl) ?_
 by_cases h0:onE r id d=0
 case neg=>
  refine runW h0 ?_
  exact fin rfl
 have ha:askE r id=0:=by
  unfold onE at h0
  split at h0
  ·rename_i h1; exact absurd h0 h1
  ·rename_i h1; exact Classical.not_not.1 h1
 have hdd:dayG d=true:=by
  unfold onE at h0
  rw[if_neg (fun e=>e ha)] at h0
  split at h0
  ·cases h0
  ·rename_i h1; simpa using h1
 obtain ⟨hck,hnf⟩:=ask_ok ha
 obtain ⟨i,hi,hilt,hix,him,hid⟩:=find_fil hnf
 have hok:=okG_of hck
 have hg:=hok.goodR
 have hv:onV r id d=vdt r (filA r id) d:=if_pos h0
 have hd1:0≤d:=by
  unfold dayG at hdd
  rw[Bool.and_eq_true,decide_eq_true_eq] at hdd
  exact hdd.1
 have hlaw:=permits hok him hd1 (dayG_le hdd)
 have hff:=h.fls.2 _ him
 have hcls:=classR_len h.pls hff d
 obtain ⟨f,hfe⟩:∃f,filA r id=f:=⟨_,rfl⟩
 rw[hfe] at hix him hid hv hlaw hff hcls
 rw[hi,hv]
 have hi0:¬((i:Nat):Int)<0:=by omega
 have hi1:¬((r.fls.length:Nat):Int)≤((i:Nat):Int):=by omega
 refine runW (And.intro h0 (And.intro (eq_false hi0) (And.intro (eq_false hi1) hix))) ?_
 refine call (den_Class L r.pls f d h.pls hff) ?_
 have hlen:=rulesF_len r f d
 have hmem:∀q∈rulesF r f d,q∈r.rls:=fun q hq=>rulesF_mem hq
 have hhl:=hold_len r.ofs r.pls r.hls f d
 have hhb:=h.hls.1
 unfold mayP at hlaw
 obtain ⟨rs,hrs⟩:∃rs,rulesF r f d=rs:=⟨_,rfl⟩
 have hids:=rulesF_ids (r:=r) (f:=f) (d:=d)
 have hbad:=rulesF_bad (r:=r) (f:=f) (d:=d)
 rw[hrs] at hlen hmem hlaw hids hbad
 obtain ⟨hv0,hvE⟩:∃v,vdt r f d=v:=⟨_,rfl⟩
 rw[hvE] at hlaw ⊢
 apply aw_meet ⟨[1,2,3,7,10,14,101,102,103],[3,7,10],[101],[(101,3,1)]⟩ (fun m:Bool=>m=(decide (state f d=2) && !decide (rs=[]) && decide (holding r.ofs r.pls r.hls f d=[])))
  (fun m=>⟨236,[(1,.v (vi id)),(2,.v (vi d)),(3,.p 3 0),(7,.p 7 0),(10,.p 10 0),(14,.v (vb m)),(101,.v (ints (rs.map (·.id)))),(102,.v (vi rs.length)),(103,.v (vi 0))],
   [(3,.var r.cs),(7,.var hv0.cs),(10,.var f.cs)],[(3,[101])]⟩)
 ·intro tail
  by_cases hz:(classR r.pls f d).2=0
  case neg=>
   have hnil:=hbad hz
   subst hnil
   refine runW hz ?_
   refine call (den_State f d) ?_
   by_cases hs:state f d=2
   ·refine runW hs ?_
    refine tail _ false (by rw[decide_eq_true (show ([]:List Rul)=[] from rfl),Bool.not_true,Bool.and_false,Bool.false_and]) ?_
    rfl
   ·refine runW (eq_false hs) ?_
    refine tail _ false (by rw[decide_eq_false hs]; rfl) ?_
    rfl
  refine runW hz ?_
  refine callO (den_Apply L r.rls (classR r.pls f d).1 d h.rls hcls) ?_
  rw[hids hz]
  refine run ?_
  refine call (den_State f d) ?_
  by_cases hs:state f d=2
  ·by_cases hn:rs=[]
   ·subst hn
    refine runW hs ?_
    refine tail _ false (by rw[decide_eq_true (show ([]:List Rul)=[] from rfl),Bool.not_true,Bool.and_false,Bool.false_and]) ?_
    rfl
   ·have hpos:=List.length_pos_iff.2 hn
    have hp2:(0:Int)<((rs.length:Nat):Int):=by omega
    refine runW (And.intro hs (eq_true hp2)) ?_
    refine call (den_Holding L r.ofs r.pls r.hls f d h.ofs h.pls h.hls hff).den ?_
    by_cases hh:holding r.ofs r.pls r.hls f d=[]
    ·rw[hh]
     refine run ?_
     refine tail _ true (by rw[decide_eq_true hs,decide_eq_false hn,decide_eq_true hh]; rfl) ?_
     rfl
    ·have hpos2:=List.length_pos_iff.2 hh
     have hp3:¬(((holding r.ofs r.pls r.hls f d).length:Nat):Int)=0:=by omega
     refine runW (eq_false hp3) ?_
     refine tail _ false (by rw[decide_eq_true hs,decide_eq_false hn,decide_eq_false hh]; rfl) ?_
     rfl
  ·refine runW (eq_false hs) ?_
   refine tail _ false (by rw[decide_eq_false hs]; rfl) ?_
   rfl
 ·intro m hm
  refine loop ⟨[1,2,3,7,10,14,101,102,103],[3,7,10],[],[]⟩ (fun k:Nat=>k≤rs.length) (fun k=>rs.length-k)
   (fun k=>⟨236,[(1,.v (vi id)),(2,.v (vi d)),(3,.p 3 0),(7,.p 7 0),(10,.p 10 0),(14,.v (vb (m && (rs.take k).all (okP f d)))),(101,.v (ints (rs.map (·.id)))),(102,.v (vi rs.length)),(103,.v (vi k))],
    [(3,.var r.cs),(7,.var hv0.cs),(10,.var f.cs)],[]⟩) 0 (Nat.zero_le _) ?_ (by show _=some (St.mk _ [_,_,_,_,_,(14,.v (vb (m && true))),_,_,_] _ _); rw[Bool.and_true]; rfl)
  intro k hk
  by_cases hlt:k<rs.length
  ·obtain ⟨x,hx,-,hxm⟩:=drop_at hlt
   obtain ⟨ix,hil,hxi,hfi⟩:=findR_mem hg (hmem x hxm)
   have hxf:=h.rls.2 x (hmem x hxm)
   have hsn:(m && (rs.take (k+1)).all (okP f d))=(m && (rs.take k).all (okP f d) && okP f d x):=by rw[allB_snoc hx,Bool.and_assoc]
   obtain ⟨b,hb⟩:∃b,(m && (rs.take k).all (okP f d))=b:=⟨_,rfl⟩
   rw[hb] at hsn ⊢
   have hn0:¬((ix:Nat):Int)<0:=by omega
   have hn1:¬((r.rls.length:Nat):Int)≤((ix:Nat):Int):=by omega
   refine runW hx ?_
   refine call (den_FindR r.rls x.id hrl) ?_
   rw[hfi]
   obtain ⟨a,c,o,htv,ho0,ho1⟩:∃(a c:Int) (o:Bool),trigV f x.trg d= .tup [datg a c,vb o]∧(o=false→trig f x.trg d=none)∧(o=true→trig f x.trg d=some (a,c)):=by
    rw[trigV]
    cases trig f x.trg d with
    | none=>exact ⟨0,0,false,rfl,fun _=>rfl,fun h=>nomatch h⟩
    | some y=>exact ⟨y.1,y.2,true,rfl,(fun h=>nomatch h),fun _=>rfl⟩
   refine runD (And.intro (eq_false hn0) (And.intro (eq_false hn1) hxi)) ?_
   refine aw_graph [⟨[ff,ff,ff,ff,ff,ff,ff,ff,ff,ff,ff,ff,ff,ff,ff],15,.one 1 0⟩,⟨[ff,tt,ff,ff,ff,ff,ff,ff,ff,ff,ff,ff,ff,ff,ff],14,.one 3 0⟩,⟨[ff,tt,ff,tt,ff,ff,ff,ff,ff,ff,ff,ff,ff,ff,ff],13,.one 7 0⟩,⟨[ff,tt,ff,tt,ff,ff,ff,tt,ff,ff,ff,ff,ff,ff,ff],12,.alt [(0,1),(2,0),(12,2)]⟩,⟨[ff,tt,tt,tt,ff,ff,ff,tt,ff,ff,ff,ff,ff,ff,ff],11,.alt [(0,2),(4,3),(12,5)]⟩,⟨[tt,tt,ff,tt,ff,ff,ff,tt,ff,ff,ff,ff,ff,ff,ff],11,.alt [(2,1),(12,3)]⟩,⟨[ff,tt,ff,tt,ff,ff,ff,tt,ff,ff,ff,ff,tt,ff,ff],11,.alt [(0,2),(2,3)]⟩,⟨[tt,tt,tt,tt,ff,ff,ff,tt,ff,ff,ff,ff,ff,ff,ff],10,.alt [(4,3),(12,5)]⟩,⟨[ff,tt,tt,tt,tt,ff,ff,tt,ff,ff,ff,ff,ff,ff,ff],10,.one 5 3⟩,⟨[tt,tt,ff,tt,ff,ff,ff,tt,ff,ff,ff,ff,tt,ff,ff],10,.alt [(2,3)]⟩,⟨[ff,tt,tt,tt,ff,ff,ff,tt,ff,ff,ff,ff,tt,ff,ff],10,.alt [(0,2),(4,3)]⟩,⟨[tt,tt,tt,tt,tt,ff,ff,tt,ff,ff,ff,ff,ff,ff,ff],9,.one 5 4⟩,⟨[ff,tt,tt,tt,tt,tt,ff,tt,ff,ff,ff,ff,ff,ff,ff],9,.alt [(0,3),(6,2),(12,4)]⟩,⟨[tt,tt,tt,tt,ff,ff,ff,tt,ff,ff,ff,ff,tt,ff,ff],9,.alt [(4,4)]⟩,⟨[ff,tt,tt,tt,tt,ff,ff,tt,ff,ff,ff,ff,tt,ff,ff],9,.one 5 2⟩,⟨[ff,tt,tt,tt,tt,tt,tt,tt,ff,ff,ff,ff,ff,ff,ff],8,.alt [(0,4),(12,3)]⟩,⟨[tt,tt,tt,tt,tt,tt,ff,tt,ff,ff,ff,ff,ff,ff,ff],8,.alt [(6,3),(12,4)]⟩,⟨[ff,tt,tt,tt,tt,tt,ff,tt,ff,ff,ff,ff,tt,ff,ff],8,.alt [(0,3),(6,1)]⟩,⟨[tt,tt,tt,tt,tt,ff,ff,tt,ff,ff,ff,ff,tt,ff,ff],8,.one 5 2⟩,⟨[ff,tt,tt,tt,tt,tt,tt,tt,ff,ff,ff,ff,tt,ff,ff],7,.alt [(0,2)]⟩,⟨[tt,tt,tt,tt,tt,tt,tt,tt,ff,ff,ff,ff,ff,ff,ff],7,.alt [(8,2),(12,1)]⟩,⟨[tt,tt,tt,tt,tt,tt,ff,tt,ff,ff,ff,ff,tt,ff,ff],7,.alt [(6,0)]⟩,⟨[tt,tt,tt,tt,tt,tt,tt,tt,ff,ff,ff,ff,tt,ff,ff],6,.alt [(8,2)]⟩,⟨[tt,tt,tt,tt,tt,tt,tt,tt,tt,ff,ff,ff,ff,ff,ff],6,.one 9 0⟩,⟨[tt,tt,tt,tt,tt,tt,tt,tt,tt,tt,ff,ff,ff,ff,ff],5,.alt [(10,1),(11,3),(12,2)]⟩,⟨[tt,tt,tt,tt,tt,tt,tt,tt,tt,ff,ff,ff,tt,ff,ff],5,.one 9 1⟩,⟨[tt,tt,tt,tt,tt,tt,tt,tt,tt,tt,tt,ff,ff,ff,ff],4,.alt [(11,3),(12,4)]⟩,⟨[tt,tt,tt,tt,tt,tt,tt,tt,tt,tt,ff,ff,tt,ff,ff],4,.alt [(10,3),(11,1)]⟩,⟨[tt,tt,tt,tt,tt,tt,tt,tt,tt,tt,ff,tt,ff,ff,ff],4,.alt [(10,1),(12,0)]⟩,⟨[tt,tt,tt,tt,tt,tt,tt,tt,tt,tt,ff,tt,tt,ff,ff],3,.alt [(10,3)]⟩,⟨[tt,tt,tt,tt,tt,tt,tt,tt,tt,tt,tt,tt,ff,ff,ff],3,.alt [(12,2)]⟩,⟨[tt,tt,tt,tt,tt,tt,tt,tt,tt,tt,tt,ff,tt,ff,ff],3,.alt [(11,1),(13,0)]⟩,⟨[tt,tt,tt,tt,tt,tt,tt,tt,tt,tt,tt,ff,tt,tt,ff],2,.alt [(11,1)]⟩,⟨[tt,tt,tt,tt,tt,tt,tt,tt,tt,tt,tt,tt,tt,ff,ff],2,.alt [(13,0)]⟩,⟨[tt,tt,tt,tt,tt,tt,tt,tt,tt,tt,tt,tt,tt,tt,ff],1,.alt [(14,0)]⟩,⟨[tt,tt,tt,tt,tt,tt,tt,tt,tt,tt,tt,tt,tt,tt,tt],0,.fin⟩] ?_
   refine graph_to (fun _:Unit=>True) ⟨[1,2,3,7,10,14,17,18,19,101,102,103],[3,7,10,18],[],[]⟩ (fun _=>⟨236,[(1,.v (vi id)),(2,.v (vi d)),(3,.p 3 0),(7,.p 7 0),(10,.p 10 0),(14,.v (vb b)),(17,.v (vi ix)),(18,.p 18 0),(19,.v (vb o)),(101,.v (ints (rs.map (·.id)))),(102,.v (vi rs.length)),(103,.v (vi k))],
    [(3,.var r.cs),(7,.var hv0.cs),(10,.var f.cs),(18,.var [vi a,vi c])],[]⟩) (fun st st' hk h=>aw_keep _ hk h) (fun _ _=> ?_) (fun K' hK=> ?_)
   ·refine runW hxi ?_
    refine call (den_Due L x a c hxf) ?_
    have hP:okP f d x=(decide (x.act=1) && (o && (match dueR x a c with | some t=>decide (t<d) | none=>false))):=by
     unfold okP inTime
     cases o with
     | false=>rw[dueF_no (ho0 rfl)]; rfl
     | true=>rw[dueF_yes (ho1 rfl)]; rfl
    rw[hP] at hsn
    cases hdu:dueR x a c with
    | none=>
     rw[hdu] at hsn
     simp only[Bool.and_false] at hsn
     rw[dueV,hdu]
     cases b
     ·refine runW hxi ?_
      refine round (k+1) hlt (by omega) ?_
      rw[hsn]; rfl
     ·by_cases hac:x.act=1
      ·cases o
       ·refine runW (And.intro hxi (eq_true hac)) ?_
        refine round (k+1) hlt (by omega) ?_
        rw[hsn]; rfl
       ·refine runW (And.intro hxi (eq_true hac)) ?_
        refine round (k+1) hlt (by omega) ?_
        rw[hsn]; rfl
      ·refine runW (And.intro hxi (eq_false hac)) ?_
       refine round (k+1) hlt (by omega) ?_
       rw[hsn]; rfl
    | some t=>
     rw[hdu] at hsn
     simp only at hsn
     rw[dueV,hdu]
     cases b
     ·refine runW hxi ?_
      refine round (k+1) hlt (by omega) ?_
      rw[hsn]; rfl
     ·by_cases hac:x.act=1
      ·rw[decide_eq_true hac] at hsn
       cases o
       ·refine runW (And.intro hxi (eq_true hac)) ?_
        refine round (k+1) hlt (by omega) ?_
        rw[hsn]; rfl
       ·by_cases htd:t<d
        ·rw[decide_eq_true htd] at hsn
         refine runW (And.intro hxi (And.intro (eq_true hac) (eq_true htd))) ?_
         refine round (k+1) hlt (by omega) ?_
         rw[hsn]; rfl
        ·rw[decide_eq_false htd] at hsn
         refine runW (And.intro hxi (And.intro (eq_true hac) (eq_false htd))) ?_
         refine round (k+1) hlt (by omega) ?_
         rw[hsn]; rfl
      ·rw[decide_eq_false hac] at hsn
       refine runW (And.intro hxi (eq_false hac)) ?_
       refine round (k+1) hlt (by omega) ?_
       rw[hsn]; rfl
   ·refine runGraph hxi ?_
    repeat' (with_reducible refine And.intro ?_ ?_)
    all_goals
     refine call (den_Trigger f x.trg d hff) ?_
     rw[htv]
     refine runGraph trivial ?_
     repeat' (with_reducible refine And.intro ?_ ?_)
     all_goals exact leafK hK () trivial
  rw[takeB_all hk hlt]
  rw[← hm] at hlaw
  obtain ⟨m1,hm1⟩:∃b,(m && rs.all (okP f d))=b:=⟨_,rfl⟩
  rw[hm1] at hlaw ⊢
  refine run ?_
  refine loop ⟨[1,2,3,7,14,166,167,168],[3,7],[],[]⟩ (fun k:Nat=>k≤r.sls.length) (fun k=>r.sls.length-k)
   (fun k=>⟨236,[(1,.v (vi id)),(2,.v (vi d)),(3,.p 3 0),(7,.p 7 0),(14,.v (vb (m1 && !(r.sls.take k).any (fun s=>namedB d f s.day s.fls)))),(166,.v (sels r.sls)),(167,.v (vi r.sls.length)),(168,.v (vi k))],
    [(3,.var r.cs),(7,.var hv0.cs)],[]⟩) 0 (Nat.zero_le _) ?_ (by show _=some (St.mk _ [_,_,_,_,(14,.v (vb (m1 && true))),_,_,_] _ _); rw[Bool.and_true]; rfl)
  intro k hk
  by_cases hlt:k<r.sls.length
  ·obtain ⟨x,hx,-,hxm⟩:=drop_at hlt
   have hsn:(m1 && !(r.sls.take (k+1)).any (fun s=>namedB d f s.day s.fls))=(m1 && !(r.sls.take k).any (fun s=>namedB d f s.day s.fls) && !(fun s=>namedB d f s.day s.fls) x):=by rw[anyB_snoc hx,Bool.not_or,Bool.and_assoc]
   obtain ⟨b,hb⟩:∃b,(m1 && !(r.sls.take k).any (fun s=>namedB d f s.day s.fls))=b:=⟨_,rfl⟩
   rw[hb] at hsn ⊢
   have hxf:=h.sls.2 x hxm
   have hP:(fun s=>namedB d f s.day s.fls) x=(decide (x.day≤d) && x.fls.any fun y=>decide (id=y)):=by rw[any_swap,← hid]; rfl
   rw[hP] at hsn
   cases b
   ·refine runW hx ?_
    refine round (k+1) hlt (by omega) ?_
    rw[hsn]; rfl
   ·by_cases hd:x.day≤d
    ·rw[decide_eq_true hd] at hsn
     refine runW (And.intro hx (eq_true hd)) ?_
     refine call (den_hasInt x.fls id hxf) ?_
     obtain ⟨c,hc⟩:∃c,(x.fls.any fun y=>decide (id=y))=c:=⟨_,rfl⟩
     rw[hc] at hsn ⊢
     cases c
     ·refine run ?_
      refine round (k+1) hlt (by omega) ?_
      rw[hsn]; rfl
     ·refine run ?_
      refine round (k+1) hlt (by omega) ?_
      rw[hsn]; rfl
    ·rw[decide_eq_false hd] at hsn
     refine runW (And.intro hx (eq_false hd)) ?_
     refine round (k+1) hlt (by omega) ?_
     rw[hsn]; rfl
  rw[takeB_all hk hlt,show r.sls.any (fun s=>namedB d f s.day s.fls)=selB r f d from rfl]
  obtain ⟨m2,hm2⟩:∃b,(m1 && !selB r f d)=b:=⟨_,rfl⟩
  rw[hm2] at hlaw ⊢
  refine run ?_
  refine loop ⟨[1,2,3,7,14,188,189,190],[3,7],[],[]⟩ (fun k:Nat=>k≤r.crs.length) (fun k=>r.crs.length-k)
   (fun k=>⟨236,[(1,.v (vi id)),(2,.v (vi d)),(3,.p 3 0),(7,.p 7 0),(14,.v (vb (m2 && !(r.crs.take k).any (fun s=>namedB d f s.day s.fls)))),(188,.v (crts r.crs)),(189,.v (vi r.crs.length)),(190,.v (vi k))],
    [(3,.var r.cs),(7,.var hv0.cs)],[]⟩) 0 (Nat.zero_le _) ?_ (by show _=some (St.mk _ [_,_,_,_,(14,.v (vb (m2 && true))),_,_,_] _ _); rw[Bool.and_true]; rfl)
  intro k hk
  by_cases hlt:k<r.crs.length
  ·obtain ⟨x,hx,-,hxm⟩:=drop_at hlt
   have hsn:(m2 && !(r.crs.take (k+1)).any (fun s=>namedB d f s.day s.fls))=(m2 && !(r.crs.take k).any (fun s=>namedB d f s.day s.fls) && !(fun s=>namedB d f s.day s.fls) x):=by rw[anyB_snoc hx,Bool.not_or,Bool.and_assoc]
   obtain ⟨b,hb⟩:∃b,(m2 && !(r.crs.take k).any (fun s=>namedB d f s.day s.fls))=b:=⟨_,rfl⟩
   rw[hb] at hsn ⊢
   have hxf:=(h.crs.2 x hxm).1
   have hP:(fun s=>namedB d f s.day s.fls) x=(decide (x.day≤d) && x.fls.any fun y=>decide (id=y)):=by rw[any_swap,← hid]; rfl
   rw[hP] at hsn
   cases b
   ·refine runW hx ?_
    refine round (k+1) hlt (by omega) ?_
    rw[hsn]; rfl
   ·by_cases hd:x.day≤d
    ·rw[decide_eq_true hd] at hsn
     refine runW (And.intro hx (eq_true hd)) ?_
     refine call (den_hasInt x.fls id hxf) ?_
     obtain ⟨c,hc⟩:∃c,(x.fls.any fun y=>decide (id=y))=c:=⟨_,rfl⟩
     rw[hc] at hsn ⊢
     cases c
     ·refine run ?_
      refine round (k+1) hlt (by omega) ?_
      rw[hsn]; rfl
     ·refine run ?_
      refine round (k+1) hlt (by omega) ?_
      rw[hsn]; rfl
    ·rw[decide_eq_false hd] at hsn
     refine runW (And.intro hx (eq_false hd)) ?_
     refine round (k+1) hlt (by omega) ?_
     rw[hsn]; rfl
  rw[takeB_all hk hlt,show r.crs.any (fun s=>namedB d f s.day s.fls)=gone1 r f d from rfl]
  obtain ⟨m3,hm3⟩:∃b,(m2 && !gone1 r f d)=b:=⟨_,rfl⟩
  rw[hm3] at hlaw ⊢
  refine run ?_
  refine loop ⟨[1,2,3,7,14,210,211,212],[3,7],[],[]⟩ (fun k:Nat=>k≤r.dps.length) (fun k=>r.dps.length-k)
   (fun k=>⟨236,[(1,.v (vi id)),(2,.v (vi d)),(3,.p 3 0),(7,.p 7 0),(14,.v (vb (m3 && !(r.dps.take k).any (fun c=>namedB d f c.day [c.fil])))),(210,.v (deps r.dps)),(211,.v (vi r.dps.length)),(212,.v (vi k))],
    [(3,.var r.cs),(7,.var hv0.cs)],[]⟩) 0 (Nat.zero_le _) ?_ (by show _=some (St.mk _ [_,_,_,_,(14,.v (vb (m3 && true))),_,_,_] _ _); rw[Bool.and_true]; rfl)
  intro k hk
  by_cases hlt:k<r.dps.length
  ·obtain ⟨x,hx,-,hxm⟩:=drop_at hlt
   have hsn:(m3 && !(r.dps.take (k+1)).any (fun c=>namedB d f c.day [c.fil]))=(m3 && !(r.dps.take k).any (fun c=>namedB d f c.day [c.fil]) && !(fun c=>namedB d f c.day [c.fil]) x):=by rw[anyB_snoc hx,Bool.not_or,Bool.and_assoc]
   obtain ⟨b,hb⟩:∃b,(m3 && !(r.dps.take k).any (fun c=>namedB d f c.day [c.fil]))=b:=⟨_,rfl⟩
   rw[hb] at hsn ⊢
   have hP:(fun c=>namedB d f c.day [c.fil]) x=(decide (x.day≤d) && decide (x.fil=id)):=by rw[← hid]; exact namedB_one _ _ _
   rw[hP] at hsn
   cases b
   ·refine runW hx ?_
    refine round (k+1) hlt (by omega) ?_
    rw[hsn]; rfl
   ·by_cases hd:x.day≤d
    ·rw[decide_eq_true hd] at hsn
     by_cases hi:x.fil=id
     ·rw[decide_eq_true hi] at hsn
      refine runW (And.intro hx (And.intro (eq_true hd) (eq_true hi))) ?_
      refine round (k+1) hlt (by omega) ?_
      rw[hsn]; rfl
     ·rw[decide_eq_false hi] at hsn
      refine runW (And.intro hx (And.intro (eq_true hd) (eq_false hi))) ?_
      refine round (k+1) hlt (by omega) ?_
      rw[hsn]; rfl
    ·rw[decide_eq_false hd] at hsn
     refine runW (And.intro hx (eq_false hd)) ?_
     refine round (k+1) hlt (by omega) ?_
     rw[hsn]; rfl
  rw[takeB_all hk hlt,show r.dps.any (fun c=>namedB d f c.day [c.fil])=gone2 r f d from rfl]
  obtain ⟨m4,hm4⟩:∃b,(m3 && !gone2 r f d)=b:=⟨_,rfl⟩
  rw[hm4] at hlaw ⊢
  by_cases h8:hv0.kind=8
  ·rw[decide_eq_true h8] at hlaw
   rw[← hlaw]
   refine runW (eq_true h8) ?_
   exact fin rfl
  ·rw[decide_eq_false h8] at hlaw
   rw[← hlaw]
   refine runW (eq_false h8) ?_
   exact fin rfl
end Go.Arc
