/- A part of this claim. -/
import Derived.Test.YtkmmdckcdgopgaaGreatDoorW83
import Derived.Test.YtkmmdckcdgopgaaGreatDoorW84
import Derived.Shelf.Sort.Plain
set_option maxRecDepth 100000
set_option maxRecDepth 100000
namespace Go.Arc
open Go.Ab Go.RowKit Go.Proofs
variable {T : Lay}
theorem wk_tups {l m:List V} (h:Wks l m):Wk (.tup l) (.tup m):= .tup h.len fun j v u e1 e2=>by
 obtain ⟨v',h1,h2⟩:=h.get e2
 rw[e1] at h1
 cases h1
 exact h2
theorem fstE_cons (x:Int) (r:List Int):fstE (x::r)=if x≠0 then x else fstE r:=rfl
theorem fstE_app:∀a b:List Int,fstE (a++b)=if fstE a≠0 then fstE a else fstE b
 | [],b=>by rw[List.nil_append,if_neg (fun e=>e rfl)]
 | x::a,b=>by
  have ih:=fstE_app a b
  rw[List.cons_append,fstE_cons,fstE_cons]
  by_cases h:x≠0
  ·rw[if_pos h,if_pos h,if_pos h]
  ·rw[if_neg h,if_neg h]; exact ih
def lstK (r:Rgs):Nat→List Elm
 | 0=>selE r
 | 1=>crtE r
 | _=>depE r
def preK (r:Rgs):Nat→List Elm
 | 0=>[]
 | 1=>selE r
 | _=>selE r++crtE r
def errK (r:Rgs) (k:Nat):Int×Int:=(0,listE r.fls (preK r k) (lstK r k))
def psK (r:Rgs):Nat→List (Int×Bool)
 | 0=>[]
 | k+1=>if 1024<(lstK r k).length then psK r k else elsM r.fls (preK r k) none (psK r k) (lstK r k)
theorem checkG_eq (r:Rgs):checkG r=if listsE r≠0 then listsE r else fstE ((List.range' 0 3).map fun j=>(errK r j).2):=fstE_app [(checkO r.ofs).2,(check r.pls).2,(checkF r.ofs r.pls r.fls).2,(checkR r.rls).2,(checkH r.hls).2] [listE r.fls [] (selE r),listE r.fls (selE r) (crtE r),listE r.fls (selE r++crtE r) (depE r)]
theorem listE_ok {fs:List Fil} {pre l:List Elm} (h:listE fs pre l=0):l.length≤1024∧elsE fs pre none l=0:=by
 unfold listE at h
 by_cases hb:1024<l.length
 ·rw[if_pos hb] at h; cases h
 ·rw[if_neg hb] at h; exact ⟨by omega,h⟩
theorem psK_get (r:Rgs):∀k,k<3→(∀j,j<k→(errK r j).2=0)→∀n,getG (psK r k) n=goneB (preK r k) n
 | 0,_,_=>fun n=>rfl
 | k+1,hk,h=>by
  have h0:=h k (Nat.lt_succ_self k)
  obtain ⟨h1,h2⟩:=listE_ok h0
  have ih:=psK_get r k (by omega) fun j hj=>h j (by omega)
  unfold psK
  rw[if_neg (by omega)]
  intro n
  rw[elsM_get r.fls _ _ _ _ ih h2]
  match k,hk with
  | 0,_=>rfl
  | 1,_=>rfl
theorem lstK_fit {r:Rgs} (h:r.Fit) (k:Nat):(lstK r k).length≤1048576∧∀x∈lstK r k,x.fls.length≤1048576:=by
 match k with
 | 0=>exact ⟨by show (selE r).length≤1048576; unfold selE; rw[List.length_map]; exact h.sls.1,fun x hx=>by
   obtain ⟨s,hs,rfl⟩:=List.mem_map.1 hx; exact h.sls.2 s hs⟩
 | 1=>exact ⟨by show (crtE r).length≤1048576; unfold crtE; rw[List.length_map]; exact h.crs.1,fun x hx=>by
   obtain ⟨s,hs,rfl⟩:=List.mem_map.1 hx; exact (h.crs.2 s hs).1⟩
 | n+2=>exact ⟨by show (depE r).length≤1048576; unfold depE; rw[List.length_map]; exact h.dps,fun x hx=>by
   obtain ⟨s,hs,rfl⟩:=List.mem_map.1 hx; show [s.fil].length≤1048576; simp⟩
set_option maxHeartbeats 4000000 in
theorem den_CheckG (L:LibC T) (r:Rgs) (h:r.Fit):Den Tryz.prog T 12 [.agg r.cs] (vi (checkG r)):=by
 have hs:=h.sls.1
 have hc:=h.crs.1
 have hd:=h.dps
 rw[checkG_eq]
 refine den_of_body follows (fun args w=>Tryz.call12 args w) Tryz.func12 rfl 93 rfl ?_
 refine run ?_
 refine call (den_lists L r h) ?_
 by_cases h0:listsE r=0
 ·rw[if_neg (by rw[h0]; decide)]
  refine runW h0 ?_
  refine loop ⟨[1,4,5,6,23,24,25],[1],[4],[(4,109,4)]⟩ (fun k:Nat=>k≤r.sls.length) (fun k=>r.sls.length-k)
   (fun k=>⟨93,[(1,.p 1 0),(4,.v (elms ((r.sls.take k).map Sel.el))),(5,.v (.val (.slice none 0 0))),(6,.v (.val (.slice none 0 0))),(23,.v (sels r.sls)),(24,.v (vi r.sls.length)),(25,.v (vi k))],[(1,.var r.cs)],[(109,[4])]⟩) 0 (Nat.zero_le _) ?_
  intro k hk
  by_cases hlt:k<r.sls.length
  ·obtain ⟨x,hx,-,-⟩:=drop_at hlt
   have hts:((r.sls.take k).map Sel.el).map Elm.cs++[[vi x.smp,vi x.day,ints x.fls,vb false]]=((r.sls.take (k+1)).map Sel.el).map Elm.cs:=by
    rw[List.take_succ_eq_append_getElem hlt,List.map_append,List.map_append]
    obtain ⟨_,rfl⟩:=List.getElem?_eq_some_iff.1 hx
    rfl
   refine runW (And.intro hx hts) ?_
   exact round (k+1) hlt (by omega)
  have hkl:k=r.sls.length:=by omega
  subst hkl
  rw[List.take_length]
  obtain ⟨S,hS⟩:∃S,r.sls.map Sel.el=S:=⟨_,rfl⟩
  rw[hS]
  refine run ?_
  refine loop ⟨[1,4,5,6,41,42,43],[1],[5],[(5,109,4)]⟩ (fun k:Nat=>k≤r.crs.length) (fun k=>r.crs.length-k)
   (fun k=>⟨93,[(1,.p 1 0),(4,.v (elms S)),(5,.v (elms ((r.crs.take k).map Crt.el))),(6,.v (.val (.slice none 0 0))),(41,.v (crts r.crs)),(42,.v (vi r.crs.length)),(43,.v (vi k))],[(1,.var r.cs)],[(109,[5])]⟩) 0 (Nat.zero_le _) ?_
  intro k hk
  by_cases hlt:k<r.crs.length
  ·obtain ⟨x,hx,-,-⟩:=drop_at hlt
   have hts:((r.crs.take k).map Crt.el).map Elm.cs++[[vi x.num,vi x.day,ints x.fls,vb true]]=((r.crs.take (k+1)).map Crt.el).map Elm.cs:=by
    rw[List.take_succ_eq_append_getElem hlt,List.map_append,List.map_append]
    obtain ⟨_,rfl⟩:=List.getElem?_eq_some_iff.1 hx
    rfl
   refine runW (And.intro hx hts) ?_
   exact round (k+1) hlt (by omega)
  have hkl:k=r.crs.length:=by omega
  subst hkl
  rw[List.take_length]
  obtain ⟨C,hC⟩:∃C,r.crs.map Crt.el=C:=⟨_,rfl⟩
  rw[hC]
  refine run ?_
  refine loop ⟨[1,4,5,6,59,60,61],[1],[6],[(6,109,4)]⟩ (fun k:Nat=>k≤r.dps.length) (fun k=>r.dps.length-k)
   (fun k=>⟨93,[(1,.p 1 0),(4,.v (elms S)),(5,.v (elms C)),(6,.v (elms ((r.dps.take k).map Dep.el))),(59,.v (deps r.dps)),(60,.v (vi r.dps.length)),(61,.v (vi k))],[(1,.var r.cs)],[(109,[6])]⟩) 0 (Nat.zero_le _) ?_
  intro k hk
  by_cases hlt:k<r.dps.length
  ·obtain ⟨x,hx,-,-⟩:=drop_at hlt
   have hts:((r.dps.take k).map Dep.el).map Elm.cs++[[vi 1,vi x.day,.slice 1 [[vi x.fil]],vb true]]=((r.dps.take (k+1)).map Dep.el).map Elm.cs:=by
    rw[List.take_succ_eq_append_getElem hlt,List.map_append,List.map_append]
    obtain ⟨_,rfl⟩:=List.getElem?_eq_some_iff.1 hx
    rfl
   refine runW (And.intro hx hts) ?_
   exact round (k+1) hlt (by omega)
  have hkl:k=r.dps.length:=by omega
  subst hkl
  rw[List.take_length]
  obtain ⟨D,hD⟩:∃D,r.dps.map Dep.el=D:=⟨_,rfl⟩
  rw[hD]
  have hrow:∀k,k<3→[[elms S],[elms C],[elms D]][k]? = some [elms (lstK r k)]:=fun k hk=>by
   rw[← hS,← hC,← hD]
   match k,hk with
   | 0,_=>rfl
   | 1,_=>rfl
   | 2,_=>rfl
  refine run ?_
  refine aw_name 75 ?_
  intro b hb
  clear hb
  obtain ⟨R,hR⟩:∃R,[[elms S],[elms C],[elms D]]=R:=⟨_,rfl⟩
  have hRl:R.length=3:=by rw[← hR]; rfl
  rw[hR] at hrow
  refine loop ⟨[1,13,79,80,81],[1,75],[],[]⟩ (fun k:Nat=>k≤3∧∀j,j<k→(errK r j).2=0) (fun k=>3-k)
   (fun k=>⟨93,[(1,.p 1 0),(13,.m 75),(79,.v (.slice 1 R)),(80,.v (vi 3)),(81,.v (vi k))],[(1,.var r.cs),(75,.map (mapG (psK r k)) (some b))],[]⟩) 0 ⟨by decide,fun j hj=>absurd hj (Nat.not_lt_zero j)⟩ ?_ (by rw[← hR]; rfl)
  rintro k ⟨hk,hall⟩
  by_cases hlt:k<3
  ·have hkR:k<R.length:=by omega
   have hg:=hrow k hlt
   have hfit:=lstK_fit h k
   have hps:=psK_get r k hlt hall
   refine runW hg ?_
   have hden:=denS_elements (T:=T) r h (lstK r k) hfit.1 hfit.2 (preK r k) (psK r k) hps b
   rw[show (if 1024<(lstK r k).length then psK r k else elsM r.fls (preK r k) none (psK r k) (lstK r k))=psK r (k+1) from rfl,show listE r.fls (preK r k) (lstK r k)=(errK r k).2 from rfl] at hden
   refine callS [(999000,75)] hden (.cons (.v _) (.cons (.v _) (.cons (.m rfl) .nil))) ?_ ?_
   ·intro y hy
    simp only[List.mem_singleton] at hy
    subst hy
    exact ⟨75,_,rfl,rfl,rfl,.inr rfl,rfl⟩
   by_cases hz:(errK r k).2=0
   ·refine runW hz ?_
    refine round (k+1) ⟨hlt,fun j hj=> ?_⟩ (by omega)
    by_cases hjk:j=k
    ·subst hjk; exact hz
    ·exact hall j (by omega)
   ·refine runW hz ?_
    refine fin (vi_eq ?_)
    have:=fst_at (errK r) 3 k 0 hlt (fun j hj=>by rw[Nat.zero_add]; exact hall j hj) (by rw[Nat.zero_add]; exact hz)
    rw[this,Nat.zero_add]
  ·refine run ?_
   refine fin (vi_eq ?_)
   exact (fst_end (errK r) 3 0 fun j hj=>by rw[Nat.zero_add]; exact hall j (by omega)).symm
 ·rw[if_pos h0]
  refine runW h0 ?_
  exact fin rfl
end Go.Arc
set_option maxRecDepth 100000
namespace Go.Arc
open Go.Ab Go.RowKit Go.Proofs
variable {T : Lay}
abbrev filZ:List V:=[vi 0,vi 0,vi 0,vi 0,.str [],.str [],vi 0,.val (.slice none 0 0)]
def askE (r:Rgs) (id:Int):Int:=if checkG r≠0 then 1 else if findF r.fls id<0 then 7 else 0
theorem askE_1 {r:Rgs} {id:Int} (h:checkG r≠0):askE r id=1:=if_pos h
theorem askE_7 {r:Rgs} {id:Int} (h:checkG r=0) (h2:findF r.fls id<0):askE r id=7:=by unfold askE; rw[if_neg (fun e=>e h),if_pos h2]
theorem askE_0 {r:Rgs} {id:Int} (h:checkG r=0) (h2:¬findF r.fls id<0):askE r id=0:=by unfold askE; rw[if_neg (fun e=>e h),if_neg h2]
def filA (r:Rgs) (id:Int):Fil:=match r.fls.find? (isIdF id) with
 | some f=>f
 | none=>⟨0,0,0,0,[],[],0,[]⟩
theorem find_fil {r:Rgs} {id:Int} (h:¬findF r.fls id<0):∃k:Nat,findF r.fls id=k∧k<r.fls.length∧r.fls[k]? = some (filA r id)∧filA r id∈r.fls∧(filA r id).id=id:=by
 rcases ix_fnd (isIdF id) r.fls with ⟨h1,-⟩ | ⟨k,q,h1,h2,h3,h4,h5⟩
 ·exact absurd (show findF r.fls id<0 by unfold findF; rw[h1]; decide) h
 ·have he:filA r id=q:=by unfold filA; rw[h5]
  rw[he]
  exact ⟨k,h1,h2,h3,h4,of_decide_eq_true (p:=q.id=id) (show isIdF id q=true from List.find?_some (p:=isIdF id) h5)⟩
theorem den_find11 (L:LibC T) (r:Rgs) (h:r.Fit) (id:Int):Den Tryz.prog T 59 [.agg r.cs,vi id] (if askE r id=0 then .tup [.agg (filA r id).cs,vi 0] else .tup [.agg filZ,vi (askE r id)]):=by
 have hf:=h.fls.1
 refine den_of_body follows (fun args w=>Tryz.call59 args w) Tryz.func59 rfl 23 rfl ?_
 refine run ?_
 refine call (den_CheckG L r h) ?_
 by_cases h1:checkG r=0
 ·refine runW h1 ?_
  refine call (den_FindF r.fls id hf) ?_
  by_cases h2:findF r.fls id<0
  ·rw[askE_7 h1 h2,if_neg (by decide)]
   refine runW (eq_true h2) ?_
   exact fin rfl
  ·obtain ⟨k,hk,hlt,hx,-,-⟩:=find_fil h2
   rw[askE_0 h1 h2,if_pos rfl]
   have h2':¬((k:Int)<0):=by omega
   rw[hk]
   refine runW (And.intro hx (eq_false h2')) ?_
   exact fin rfl
 ·rw[askE_1 h1,if_neg (by decide)]
  refine runW h1 ?_
  exact fin rfl
def onE (r:Rgs) (id d:Int):Int:=if askE r id≠0 then askE r id else if dayG d=false then 2 else 0
def vdtZ:Vdt:=⟨0,0,0,0,0,[]⟩
def onV (r:Rgs) (id d:Int):Vdt:=if onE r id d=0 then vdt r (filA r id) d else vdtZ
theorem filA_fit {r:Rgs} (h:r.Fit) {id:Int} (h2:¬findF r.fls id<0):(filA r id).Fit:=by
 obtain ⟨k,-,-,-,hm,-⟩:=find_fil h2
 exact h.fls.2 _ hm
theorem ask_ok {r:Rgs} {id:Int} (h:askE r id=0):checkG r=0∧¬findF r.fls id<0:=by
 unfold askE at h
 split at h
 ·cases h
 rename_i h1
 split at h
 ·cases h
 ·exact ⟨by omega,by assumption⟩
theorem wk_vdtZ (e:Int):Wk (.tup [.agg (vcs 0 0 0 0 0 (.val (.slice none 0 0))),vi e]) (.tup [.agg vdtZ.cs,vi e]):=wk_tups (.cons (wk_vcs 0 0 0 0 0) (.cons (.refl _) .nil))
theorem den_vdt (L:LibC T) (r:Rgs) (f:Fil) (d:Int) (hr:r.Fit) (hf:f.Fit):Den Tryz.prog T 62 [.agg (lokOf r f d).cs] (.agg (vdt r f d).cs):=by
 rw[← vdt_L]
 exact den_decide L (lokOf r f d) hr hf (Nat.le_trans (rulesF_len r f d) hr.rls.1)
theorem den_On (L:LibC T) (r:Rgs) (h:r.Fit) (id d:Int):Den Tryz.prog T 14 [.agg r.cs,vi id,vi d] (.tup [.agg (onV r id d).cs,vi (onE r id d)]):=by
 refine den_of_body follows (fun args w=>Tryz.call14 args w) Tryz.func14 rfl 29 rfl ?_
 refine run ?_
 refine call (den_find11 L r h id) ?_
 unfold onV
 by_cases h0:askE r id=0
 ·rw[if_pos h0]
  obtain ⟨h1,h2⟩:=ask_ok h0
  have hfit:=filA_fit h h2
  have hg:=(okG_of h1).goodR
  refine run ?_
  refine call (den_isDay11 d) ?_
  cases hd:dayG d
  ·have he:onE r id d=2:=by unfold onE; rw[if_neg (fun e=>e h0),if_pos hd]
   rw[he,if_neg (by decide)]
   refine run ?_
   exact finW (wk_vdtZ 2)
  ·have he:onE r id d=0:=by unfold onE; rw[if_neg (fun e=>e h0),if_neg (by rw[hd]; decide)]
   rw[he,if_pos rfl]
   refine run ?_
   refine call (den_newLook L r (filA r id) d h hfit hg) ?_
   refine run ?_
   refine call (den_vdt L r (filA r id) d h hfit) ?_
   refine run ?_
   exact fin rfl
 ·have he:onE r id d=askE r id:=by unfold onE; rw[if_pos h0]
  rw[if_neg h0,he,if_neg h0]
  refine runW h0 ?_
  exact finW (wk_vdtZ _)
end Go.Arc
set_option maxRecDepth 100000
namespace Go.Arc
open Go.Ab Go.RowKit Go.Proofs
variable {T : Lay}
theorem timV_vdt {r:Rgs} {f:Fil} {d:Int} (h0:state f d≠0) (h1:gone1 r f d=false) (h2:gone2 r f d=false) (hl:rulesF r f d≠[]) (hs:state f d≠1) (hk:(rulesF r f d).find? keepB=none):vdt r f d=timV r f d (rulesF r f d):=by
 unfold vdt timV
 simp only[h0,h1,h2,hl,hs,if_false,Bool.false_eq_true,hk]
 cases (rulesF r f d).find? (waitB f d) <;> rfl
set_option maxHeartbeats 2000000 in
theorem den_DecideRef (L:LibC T) (r:Rgs) (f:Fil) (d:Int) (hr:r.Fit) (hok:OkG r) (hfm:f∈r.fls) (hd:d≤1048575):Den Tryz.prog T 91 [.agg r.cs,.agg f.cs,vi d] (.agg (vdt r f d).cs):=by
 have hf:=hr.fls.2 f hfm
 have hgo:=hok.gone f
 have hc:=hr.crs.1
 have hdp:=hr.dps
 refine den_of_body follows (fun args w=>Tryz.call91 args w) Tryz.func91 rfl 84 rfl ?_
 by_cases hop:d<f.opn
 ·have hs0:state f d=0:=if_pos hop
  have hv:vdt r f d=⟨0,f.id,d,0,0,[]⟩:=by unfold vdt; simp only[hs0,if_true]
  rw[hv]
  refine runW (eq_true hop) ?_
  exact finW (wk_vcs _ _ _ _ _)
 have hs0:state f d≠0:=by
  unfold state
  rw[if_neg hop]
  split <;> decide
 refine runW (eq_false hop) ?_
 refine call (den_Gone r hr f.id r.crs.length r.dps.length (Nat.le_refl _) (Nat.le_refl _)) ?_
 have key:∀(t by':Int),goneR r f.id r.crs.length r.dps.length=(t,by')→(by'≠0∧t≤d→vdt r f d=⟨by',f.id,d,0,0,[]⟩)∧(¬(by'≠0∧t≤d)→gone1 r f d=false∧gone2 r f d=false):=fun t by' he=>by
  rcases hgo with ⟨t1,e1,e2⟩ | ⟨t1,e1,e2⟩ | ⟨e1,e2⟩
  ·rw[he] at e1
   cases e1
   obtain ⟨a1,a2⟩:=e2 d
   refine ⟨fun h=> ?_,fun h=> ?_⟩
   ·rw[decide_eq_true h.2] at a1
    unfold vdt
    simp only[hs0,a1,if_true,if_false]
   ·have:¬t≤d:=fun e=>h ⟨by decide,e⟩
    rw[decide_eq_false this] at a1
    exact ⟨a1,a2⟩
  ·rw[he] at e1
   cases e1
   obtain ⟨a1,a2⟩:=e2 d
   refine ⟨fun h=> ?_,fun h=> ?_⟩
   ·rw[decide_eq_true h.2] at a2
    unfold vdt
    simp only[hs0,a1,a2,if_true,if_false,Bool.false_eq_true]
   ·have:¬t≤d:=fun e=>h ⟨by decide,e⟩
    rw[decide_eq_false this] at a2
    exact ⟨a1,a2⟩
  ·rw[he] at e1
   cases e1
   exact ⟨fun h=>absurd rfl h.1,fun _=>e2 d⟩
 obtain ⟨⟨t,by'⟩,he⟩:∃y,goneR r f.id r.crs.length r.dps.length=y:=⟨_,rfl⟩
 obtain ⟨k1,k2⟩:=key t by' he
 rw[he]
 by_cases hb:by'=0
 ·obtain ⟨g1,g2⟩:=k2 fun e=>e.1 hb
  refine runW hb ?_
  refine callO (den_RulesRef L r f d hr hf hok.goodR hok.goodL) ?_
  by_cases hnil:rulesF r f d=[]
  ·have hv:vdt r f d=⟨0,f.id,d,0,0,[]⟩:=by unfold vdt; simp only[hs0,g1,g2,hnil,if_true,if_false,Bool.false_eq_true]
   rw[hv,hnil]
   refine run ?_
   exact finW (wk_vcs _ _ _ _ _)
  have hlp:=List.length_pos_iff.2 hnil
  have hmem:∀q∈rulesF r f d,q∈r.rls:=fun q h=>rulesF_mem h
  have hlen:=rulesF_len r f d
  have hrb:=hr.rls.1
  by_cases hst:state f d=1
  ·have hv:vdt r f d=⟨3,f.id,d,0,0,[]⟩:=by
    unfold vdt
    simp only[g1,g2,hnil,if_false,Bool.false_eq_true]
    rw[if_neg hs0,if_pos hst]
   rw[hv]
   have hz:¬((rulesF r f d).length:Int)=0:=by omega
   obtain ⟨rs,hrs⟩:∃rs,rulesF r f d=rs:=⟨_,rfl⟩
   rw[hrs] at hz hlp ⊢
   refine runW (eq_false hz) ?_
   refine call (den_StateRef f d) ?_
   refine runW hst ?_
   exact finW (wk_vcs _ _ _ _ _)
  have htv:=fun hk=>timV_vdt (r:=r) (f:=f) (d:=d) hs0 g1 g2 hnil hst hk
  have hkv:∀q,(rulesF r f d).find? keepB=some q→vdt r f d=⟨4,f.id,d,q.id,0,[]⟩:=fun q hq=>by unfold vdt; simp only[hs0,g1,g2,hnil,hst,if_false,Bool.false_eq_true,hq]
  obtain ⟨rs,hrs⟩:∃rs,rulesF r f d=rs:=⟨_,rfl⟩
  rw[hrs] at hlp hmem hlen htv hkv hnil ⊢
  have hz:¬(rs.length:Int)=0:=by omega
  refine runW (eq_false hz) ?_
  refine call (den_StateRef f d) ?_
  refine runW (eq_false hst) ?_
  refine loop ⟨[2,3,4,6,7,10,11],[3,4,6,7],[],[]⟩ (fun k:Nat=>k≤rs.length∧∀q∈rs.take k,keepB q=false) (fun k=>rs.length-k)
   (fun k=>⟨84,[(2,.v (vi d)),(3,.p 3 0),(4,.p 4 0),(6,.p 6 0),(7,.p 7 0),(10,.v (ruls rs)),(11,.v (vi k))],[(3,.var r.cs),(4,.var f.cs),(6,.var (vcs 0 0 0 0 0 (.val (.slice none 0 0)))),(7,.var (vcs 0 f.id d 0 0 (.val (.slice none 0 0))))],[]⟩) 0 ⟨Nat.zero_le _,by simp⟩ ?_
  rintro k ⟨hk,hall⟩
  by_cases hlt:k<rs.length
  ·obtain ⟨x,hx,-,hm⟩:=drop_at hlt
   by_cases ha:x.act=3
   ·rw[hkv x (find_at' hall hx (decide_eq_true ha))]
    refine runD (And.intro hx ha) ?_
    refine aw_tree ((.one 0 (.one 1 (.one 5 (.alt 2 (.one 3 (.alt 4 (.alt 6 (.one 7 (.alt 8 .done .nil)) .nil) (.alt 6 (.alt 4 (.one 7 (.alt 8 .done .nil)) .nil) .nil))) (.alt 6 (.alt 2 (.one 3 (.alt 4 (.one 7 (.alt 8 .done .nil)) .nil)) .nil) .nil)))))) ?_
    refine runTree hx ?_
    refine run ?_
    exact finW (wk_vcs _ _ _ _ _)
   ·refine runW (And.intro hx (eq_false ha)) ?_
    exact round (k+1) ⟨hlt,take_snoc hall hx (decide_eq_false ha)⟩ (by omega)
  ·rw[htv (find_no' (take_all hall hlt))]
   refine run ?_
   refine call (den_timedRef L r f d rs hr hf hok hfm hd hnil hmem (by omega)) ?_
   refine run ?_
   exact fin rfl
 by_cases ht:t≤d
 ·rw[k1 ⟨hb,ht⟩]
  refine runW (And.intro hb (eq_true ht)) ?_
  exact finW (wk_vcs _ _ _ _ _)
 ·obtain ⟨g1,g2⟩:=k2 fun e=>ht e.2
  refine runW (And.intro hb (eq_false ht)) ?_
  refine callO (den_RulesRef L r f d hr hf hok.goodR hok.goodL) ?_
  by_cases hnil:rulesF r f d=[]
  ·have hv:vdt r f d=⟨0,f.id,d,0,0,[]⟩:=by unfold vdt; simp only[hs0,g1,g2,hnil,if_true,if_false,Bool.false_eq_true]
   rw[hv,hnil]
   refine run ?_
   exact finW (wk_vcs _ _ _ _ _)
  have hlp:=List.length_pos_iff.2 hnil
  have hmem:∀q∈rulesF r f d,q∈r.rls:=fun q h=>rulesF_mem h
  have hlen:=rulesF_len r f d
  have hrb:=hr.rls.1
  by_cases hst:state f d=1
  ·have hv:vdt r f d=⟨3,f.id,d,0,0,[]⟩:=by
    unfold vdt
    simp only[g1,g2,hnil,if_false,Bool.false_eq_true]
    rw[if_neg hs0,if_pos hst]
   rw[hv]
   have hz:¬((rulesF r f d).length:Int)=0:=by omega
   obtain ⟨rs,hrs⟩:∃rs,rulesF r f d=rs:=⟨_,rfl⟩
   rw[hrs] at hz hlp ⊢
   refine runW (eq_false hz) ?_
   refine call (den_StateRef f d) ?_
   refine runW hst ?_
   exact finW (wk_vcs _ _ _ _ _)
  have htv:=fun hk=>timV_vdt (r:=r) (f:=f) (d:=d) hs0 g1 g2 hnil hst hk
  have hkv:∀q,(rulesF r f d).find? keepB=some q→vdt r f d=⟨4,f.id,d,q.id,0,[]⟩:=fun q hq=>by unfold vdt; simp only[hs0,g1,g2,hnil,hst,if_false,Bool.false_eq_true,hq]
  obtain ⟨rs,hrs⟩:∃rs,rulesF r f d=rs:=⟨_,rfl⟩
  rw[hrs] at hlp hmem hlen htv hkv hnil ⊢
  have hz:¬(rs.length:Int)=0:=by omega
  refine runW (eq_false hz) ?_
  refine call (den_StateRef f d) ?_
  refine runW (eq_false hst) ?_
  refine loop ⟨[2,3,4,6,7,10,11],[3,4,6,7],[],[]⟩ (fun k:Nat=>k≤rs.length∧∀q∈rs.take k,keepB q=false) (fun k=>rs.length-k)
   (fun k=>⟨84,[(2,.v (vi d)),(3,.p 3 0),(4,.p 4 0),(6,.p 6 0),(7,.p 7 0),(10,.v (ruls rs)),(11,.v (vi k))],[(3,.var r.cs),(4,.var f.cs),(6,.var (vcs 0 0 0 0 0 (.val (.slice none 0 0)))),(7,.var (vcs 0 f.id d 0 0 (.val (.slice none 0 0))))],[]⟩) 0 ⟨Nat.zero_le _,by simp⟩ ?_
  rintro k ⟨hk,hall⟩
  by_cases hlt:k<rs.length
  ·obtain ⟨x,hx,-,hm⟩:=drop_at hlt
   by_cases ha:x.act=3
   ·rw[hkv x (find_at' hall hx (decide_eq_true ha))]
    refine runD (And.intro hx ha) ?_
    refine aw_tree ((.one 0 (.one 1 (.one 5 (.alt 2 (.one 3 (.alt 4 (.alt 6 (.one 7 (.alt 8 .done .nil)) .nil) (.alt 6 (.alt 4 (.one 7 (.alt 8 .done .nil)) .nil) .nil))) (.alt 6 (.alt 2 (.one 3 (.alt 4 (.one 7 (.alt 8 .done .nil)) .nil)) .nil) .nil)))))) ?_
    refine runTree hx ?_
    refine run ?_
    exact finW (wk_vcs _ _ _ _ _)
   ·refine runW (And.intro hx (eq_false ha)) ?_
    exact round (k+1) ⟨hlt,take_snoc hall hx (decide_eq_false ha)⟩ (by omega)
  ·rw[htv (find_no' (take_all hall hlt))]
   refine run ?_
   refine call (den_timedRef L r f d rs hr hf hok hfm hd hnil hmem (by omega)) ?_
   refine run ?_
   exact fin rfl
end Go.Arc
set_option maxRecDepth 100000
namespace Go.Arc
open Go.Ab Go.RowKit Go.Proofs
variable {T : Lay}
theorem denS_sortI11 (zs:List Int) (kk:Option (TypeId×Nat×Nat)) (hl:zs.length≤1048576):
  DenS Tryz.prog T 220 [(999000,.var (zs.map vint) none kk)] [] [.s 999000 0 zs.length 1] [(999000,.var ((sortI zs).map vint) none kk)] [] (.v (.tup [])):=
 denS_sort (fun args w=>Tryz.call220 args w) (fun blk cap zs w hH hb hz=>Any.slices_Sort_int Tryz.lays189 blk 0 cap zs w hH hb hz) zs kk hl
theorem ints_chunk11 (l:List Int):chunk 0 l.length 1 (l.map vint)=l.map Cint:=chunk_one vint l
theorem findK_i (b j:Nat) (es:List (V×V)) (cur:Option (V×V)) (r:List (Nat×Blk)):findK b ((j,.itr es cur none)::r)=findK b r:=rfl
theorem ups (ps:List (Int×Bool)) (x:Int):upsert (V.val (.int .i64 x)) (V.val (.bool true)) (mapG ps)=some (mapG (upG ps x true)):=upsert_mapG x true ps
theorem ups0 (x:Int):upsert (V.val (.int .i64 x)) (V.val (.bool true)) []=some (mapG (upG [] x true)):=upsert_mapG x true []
theorem denS_cuts1 (ps:List (Int×Bool)) (b:Nat) (f u:Int):DenS Tryz.prog T 219 (gBlk ps b) [] [.v (span f u),.v (.row [.val (.map (some b))])] (gBlk (upG (upG ps f true) u true) b) [] (.v (.tup [])):=by
 have hf:=ups ps f
 have hu:=ups (upG ps f true) u
 refine denS_of_body follows (fun args w=>Tryz.call219 args w) Tryz.func219 rfl 9 rfl rfl ?_
 refine runD trivial ?_
 refine aw_graph [⟨[ff,ff,ff,ff,ff,ff,ff,ff],8,.one 1 0⟩,⟨[ff,tt,ff,ff,ff,ff,ff,ff],7,.one 4 0⟩,⟨[ff,tt,ff,ff,tt,ff,ff,ff],6,.alt [(0,0),(2,2),(3,1),(5,3)]⟩,⟨[tt,tt,ff,ff,tt,ff,ff,ff],5,.alt [(2,4),(3,5),(5,6)]⟩,⟨[ff,tt,ff,tt,tt,ff,ff,ff],5,.alt [(0,4),(2,7),(5,6)]⟩,⟨[ff,tt,tt,ff,tt,ff,ff,ff],5,.alt [(0,2),(3,6),(5,1)]⟩,⟨[ff,tt,ff,ff,tt,tt,ff,ff],5,.alt [(0,3),(2,0),(3,4)]⟩,⟨[ff,tt,tt,ff,tt,tt,ff,ff],4,.alt [(0,7),(3,8)]⟩,⟨[tt,tt,tt,ff,tt,ff,ff,ff],4,.alt [(3,5),(5,6),(6,8)]⟩,⟨[tt,tt,ff,tt,tt,ff,ff,ff],4,.alt [(2,4),(5,3)]⟩,⟨[tt,tt,ff,ff,tt,tt,ff,ff],4,.alt [(2,4),(3,2)]⟩,⟨[ff,tt,ff,tt,tt,tt,ff,ff],4,.alt [(0,1),(2,4)]⟩,⟨[ff,tt,tt,tt,tt,ff,ff,ff],4,.alt [(0,1),(5,3)]⟩,⟨[tt,tt,ff,tt,tt,tt,ff,ff],3,.alt [(2,5)]⟩,⟨[tt,tt,tt,tt,tt,ff,ff,ff],3,.alt [(5,4),(6,3)]⟩,⟨[tt,tt,tt,ff,tt,tt,ff,ff],3,.alt [(3,3),(6,4)]⟩,⟨[ff,tt,tt,tt,tt,tt,ff,ff],3,.alt [(0,2)]⟩,⟨[tt,tt,tt,ff,tt,ff,tt,ff],3,.alt [(3,0),(5,2)]⟩,⟨[tt,tt,tt,tt,tt,ff,tt,ff],2,.alt [(5,2)]⟩,⟨[tt,tt,tt,tt,tt,tt,ff,ff],2,.alt [(6,1)]⟩,⟨[tt,tt,tt,ff,tt,tt,tt,ff],2,.alt [(3,0)]⟩,⟨[tt,tt,tt,tt,tt,tt,tt,ff],1,.alt [(7,0)]⟩,⟨[tt,tt,tt,tt,tt,tt,tt,tt],0,.fin⟩] ?_
 refine runGraph (And.intro hf hu) ?_
 refine run ?_
 exact finSm (.v (.refl _))
abbrev cutV (b:Nat):V:= .func 219 [.row [.val (.map (some b))]]
set_option maxHeartbeats 8000000 in
theorem den_cuts (r:Rgs) (f:Fil) (a b:Int) (hr:r.Fit) (hok:OkG r) (hfm:f∈r.fls) (hab:a<b):DenO Tryz.prog T 168 [.agg r.cs,.agg f.cs,span a b] 3 (ints (cutL r f a b)):=by
 have hff:=hr.fls.2 f hfm
 have hnb:=hff.2.2.1
 have hob:=hr.ofs.1
 have hpb:=hr.pls.1
 have hrb:=hr.rls.1
 have hhb:=hr.hls.1
 have hsb:=hr.sls.1
 have hcb:=hr.crs.1
 have hdb:=hr.dps
 refine denO_of_body follows (fun args w=>Tryz.call168 args w) Tryz.func168 rfl 151 rfl ?_
 refine aw_own ?_
 refine runD trivial ?_
 refine aw_graph (⟨[ff,ff,ff,ff,ff,ff,ff,ff,ff,ff,ff,ff,ff],13,.one 1 0⟩::⟨[ff,tt,ff,ff,ff,ff,ff,ff,ff,ff,ff,ff,ff],12,.one 4 0⟩::⟨[ff,tt,ff,ff,tt,ff,ff,ff,ff,ff,ff,ff,ff],11,.one 7 0⟩::⟨[ff,tt,ff,ff,tt,ff,ff,tt,ff,ff,ff,ff,ff],10,.alt [(0,0),(2,2),(5,3),(8,1),(11,4)]⟩::⟨[tt,tt,ff,ff,tt,ff,ff,tt,ff,ff,ff,ff,ff],9,.alt [(2,5),(5,6),(8,7),(11,8)]⟩::⟨[ff,tt,ff,ff,tt,ff,ff,tt,tt,ff,ff,ff,ff],9,.alt [(0,6),(2,9),(5,3),(11,12)]⟩::⟨[ff,tt,tt,ff,tt,ff,ff,tt,ff,ff,ff,ff,ff],9,.alt [(0,3),(5,7),(8,8),(11,10)]⟩::⟨[ff,tt,ff,ff,tt,tt,ff,tt,ff,ff,ff,ff,ff],9,.alt [(0,3),(2,6),(8,1),(11,8)]⟩::⟨[ff,tt,ff,ff,tt,ff,ff,tt,ff,ff,ff,tt,ff],9,.alt [(0,4),(2,8),(5,7),(8,9)]⟩::⟨[ff,tt,ff,ff,tt,tt,ff,tt,tt,ff,ff,ff,ff],8,.alt [(0,9),(2,15),(11,21)]⟩::⟨[tt,tt,tt,ff,tt,ff,ff,tt,ff,ff,ff,ff,ff],8,.alt [(3,9),(5,10),(8,11),(11,12)]⟩::⟨[tt,tt,ff,ff,tt,tt,ff,tt,ff,ff,ff,ff,ff],8,.alt [(2,9),(6,12),(8,7),(11,14)]⟩::⟨[tt,tt,ff,ff,tt,ff,ff,tt,tt,ff,ff,ff,ff],8,.alt [(2,9),(5,6),(9,14),(11,15)]⟩::⟨[tt,tt,ff,ff,tt,ff,ff,tt,ff,ff,ff,tt,ff],8,.alt [(2,9),(5,12),(8,14)]⟩::⟨[ff,tt,tt,ff,tt,tt,ff,tt,ff,ff,ff,ff,ff],8,.alt [(0,6),(8,10),(11,15)]⟩::⟨[ff,tt,tt,ff,tt,ff,ff,tt,tt,ff,ff,ff,ff],8,.alt [(0,6),(5,9),(11,13)]⟩::⟨[ff,tt,ff,ff,tt,tt,ff,tt,ff,ff,ff,tt,ff],8,.alt [(0,9),(2,13),(8,14)]⟩::⟨[ff,tt,tt,ff,tt,ff,ff,tt,ff,ff,ff,tt,ff],8,.alt [(0,5),(5,12),(8,11)]⟩::⟨[ff,tt,ff,ff,tt,ff,ff,tt,tt,ff,ff,tt,ff],8,.alt [(0,9),(2,10),(5,12)]⟩::⟨[tt,tt,ff,ff,tt,tt,ff,tt,tt,ff,ff,ff,ff],7,.alt [(2,18),(6,21),(9,23),(11,22)]⟩::⟨[tt,tt,tt,tt,tt,ff,ff,tt,ff,ff,ff,ff,ff],7,.alt [(5,12),(8,13),(11,14)]⟩::⟨[tt,tt,tt,ff,tt,tt,ff,tt,ff,ff,ff,ff,ff],7,.alt [(3,11),(6,14),(8,16),(11,10)]⟩::⟨[tt,tt,tt,ff,tt,ff,ff,tt,tt,ff,ff,ff,ff],7,.alt [(3,11),(5,15),(9,16),(11,17)]⟩::⟨[tt,tt,tt,ff,tt,ff,ff,tt,ff,ff,ff,tt,ff],7,.alt [(3,11),(5,8),(8,16)]⟩::⟨[tt,tt,ff,ff,tt,tt,tt,tt,ff,ff,ff,ff,ff],7,.alt [(2,11),(8,16),(11,12)]⟩::⟨[ff,tt,tt,ff,tt,tt,ff,tt,tt,ff,ff,ff,ff],7,.alt [(0,12),(11,19)]⟩::⟨[tt,tt,ff,ff,tt,tt,ff,tt,ff,ff,ff,tt,ff],7,.alt [(2,5),(6,10),(8,15)]⟩::⟨[tt,tt,ff,ff,tt,ff,ff,tt,tt,tt,ff,ff,ff],7,.alt [(2,11),(5,15),(11,16)]⟩::⟨[tt,tt,ff,ff,tt,ff,ff,tt,tt,ff,ff,tt,ff],7,.alt [(2,11),(5,13),(9,15)]⟩::⟨[ff,tt,tt,ff,tt,ff,ff,tt,tt,ff,ff,tt,ff],7,.alt [(0,10),(5,15)]⟩::⟨[ff,tt,tt,ff,tt,tt,ff,tt,ff,ff,ff,tt,ff],7,.alt [(0,1),(8,14)]⟩::⟨[ff,tt,ff,ff,tt,tt,ff,tt,tt,ff,ff,tt,ff],7,.alt [(0,10),(2,13)]⟩::⟨[tt,tt,tt,ff,tt,tt,ff,tt,ff,ff,ff,tt,ff],6,.alt [(3,16),(6,20),(8,22)]⟩::⟨[tt,tt,tt,tt,tt,tt,ff,tt,ff,ff,ff,ff,ff],6,.alt [(6,13),(8,14),(11,15)]⟩::⟨[tt,tt,tt,tt,tt,ff,ff,tt,tt,ff,ff,ff,ff],6,.alt [(5,13),(9,15),(11,16)]⟩::⟨[tt,tt,tt,tt,tt,ff,ff,tt,ff,ff,ff,tt,ff],6,.alt [(5,13),(8,15)]⟩::⟨[tt,tt,tt,ff,tt,tt,tt,tt,ff,ff,ff,ff,ff],6,.alt [(3,10),(8,15),(11,16)]⟩::⟨[tt,tt,ff,ff,tt,tt,tt,tt,ff,ff,ff,tt,ff],6,.alt [(2,15),(8,18)]⟩::⟨[tt,tt,tt,ff,tt,tt,ff,tt,tt,ff,ff,ff,ff],6,.alt [(3,9),(6,13),(9,15),(11,16)]⟩::⟨[tt,tt,tt,ff,tt,ff,ff,tt,tt,tt,ff,ff,ff],6,.alt [(3,10),(5,14),(11,17)]⟩::⟨[tt,tt,tt,ff,tt,ff,ff,tt,tt,ff,ff,tt,ff],6,.alt [(3,10),(5,14),(9,16)]⟩::⟨[tt,tt,ff,ff,tt,tt,tt,tt,tt,ff,ff,ff,ff],6,.alt [(2,10),(9,4),(11,14)]⟩::⟨[tt,tt,ff,ff,tt,tt,ff,tt,tt,ff,ff,tt,ff],6,.alt [(2,12),(6,13),(9,15)]⟩::⟨[tt,tt,ff,ff,tt,tt,ff,tt,tt,tt,ff,ff,ff],6,.alt [(2,10),(6,2),(11,14)]⟩::⟨[tt,tt,ff,ff,tt,ff,ff,tt,tt,tt,ff,tt,ff],6,.alt [(2,12),(5,13)]⟩::⟨[ff,tt,tt,ff,tt,tt,ff,tt,tt,ff,ff,tt,ff],6,.alt [(0,9)]⟩::⟨[tt,tt,ff,ff,tt,tt,tt,tt,tt,tt,ff,ff,ff],5,.alt [(2,19),(11,20)]⟩::⟨[tt,tt,tt,tt,tt,tt,tt,tt,ff,ff,ff,ff,ff],5,.alt [(8,12),(11,13)]⟩::⟨[tt,tt,tt,tt,tt,tt,ff,tt,tt,ff,ff,ff,ff],5,.alt [(6,11),(9,13),(11,14)]⟩::⟨[tt,tt,tt,tt,tt,tt,ff,tt,ff,ff,ff,tt,ff],5,.alt [(6,11),(8,13)]⟩::⟨[tt,tt,tt,tt,tt,ff,ff,tt,tt,tt,ff,ff,ff],5,.alt [(5,11),(11,13)]⟩::⟨[tt,tt,tt,tt,tt,ff,ff,tt,tt,ff,ff,tt,ff],5,.alt [(5,11),(9,12)]⟩::⟨[tt,tt,tt,ff,tt,tt,tt,tt,tt,ff,ff,ff,ff],5,.alt [(3,7),(9,13),(11,6)]⟩::⟨[tt,tt,tt,ff,tt,tt,tt,tt,ff,ff,ff,tt,ff],5,.alt [(3,7),(8,5)]⟩::⟨[tt,tt,tt,ff,tt,tt,ff,tt,tt,tt,ff,ff,ff],5,.alt [(3,7),(6,11),(11,10)]⟩::⟨[tt,tt,tt,ff,tt,tt,ff,tt,tt,ff,ff,tt,ff],5,.alt [(3,7),(6,3),(9,9)]⟩::⟨[tt,tt,ff,ff,tt,tt,tt,tt,tt,ff,ff,tt,ff],5,.alt [(2,2),(9,10)]⟩::⟨[tt,tt,tt,ff,tt,ff,ff,tt,tt,tt,ff,tt,ff],5,.alt [(3,6),(5,7)]⟩::⟨[tt,tt,ff,ff,tt,tt,ff,tt,tt,tt,ff,tt,ff],5,.alt [(2,6),(6,8)]⟩::⟨[tt,tt,tt,ff,tt,tt,tt,tt,tt,ff,ff,tt,ff],4,.alt [(3,11),(9,10)]⟩::⟨[tt,tt,tt,tt,tt,tt,tt,tt,tt,ff,ff,ff,ff],4,.alt [(9,8),(11,10)]⟩::⟨[tt,tt,tt,tt,tt,tt,tt,tt,ff,ff,ff,tt,ff],4,.alt [(8,9)]⟩::⟨[tt,tt,tt,tt,tt,tt,ff,tt,tt,tt,ff,ff,ff],4,.alt [(6,6),(11,5)]⟩::⟨[tt,tt,tt,tt,tt,tt,ff,tt,tt,ff,ff,tt,ff],4,.alt [(6,7),(9,4)]⟩::⟨[tt,tt,tt,tt,tt,ff,ff,tt,tt,tt,ff,tt,ff],4,.alt [(5,3)]⟩::⟨[tt,tt,tt,ff,tt,tt,ff,tt,tt,tt,ff,tt,ff],4,.alt [(3,2),(6,4)]⟩::⟨[tt,tt,tt,ff,tt,tt,tt,tt,tt,tt,ff,ff,ff],4,.alt [(3,2),(11,3)]⟩::⟨[tt,tt,ff,ff,tt,tt,tt,tt,tt,tt,ff,tt,ff],4,.alt [(2,2)]⟩::⟨[tt,tt,tt,tt,tt,tt,ff,tt,tt,tt,ff,tt,ff],3,.alt [(6,4)]⟩::⟨[tt,tt,tt,tt,tt,tt,tt,tt,tt,tt,ff,ff,ff],3,.one 10 2⟩::⟨[tt,tt,tt,ff,tt,tt,tt,tt,tt,tt,ff,tt,ff],3,.alt [(3,2)]⟩::⟨[tt,tt,tt,tt,tt,tt,tt,tt,tt,ff,ff,tt,ff],3,.alt [(9,1)]⟩::⟨[tt,tt,tt,tt,tt,tt,tt,tt,tt,tt,tt,ff,ff],2,.alt [(11,1)]⟩::⟨[tt,tt,tt,tt,tt,tt,tt,tt,tt,tt,ff,tt,ff],2,.one 10 0⟩::⟨[tt,tt,tt,tt,tt,tt,tt,tt,tt,tt,tt,tt,ff],1,.nam 27 0⟩::⟨[tt,tt,tt,tt,tt,tt,tt,tt,tt,tt,tt,tt,ff],1,.alt [(12,0)]⟩::⟨[tt,tt,tt,tt,tt,tt,tt,tt,tt,tt,tt,tt,tt],0,.fin⟩::[]) ?_
 refine graph_to (fun y:List (Int×Bool)×Nat=>Gat y.1 [a,f.opn,f.cld]) ⟨[3,4,5,7],[3,4,5,7,27],[],[]⟩ (fun y=>⟨151,[(3,.p 3 0),(4,.p 4 0),(5,.p 5 0),(7,.p 7 0)],
  [(3,.var r.cs),(4,.var f.cs),(5,.var [vi a,vi b]),(7,.var [.val (.map (some y.2))]),(27,.map (mapG y.1) (some y.2))],[]⟩) (fun st st' hk h=>aw_keep _ hk h) (fun y hy=> ?_) (fun K' hK=> ?_)
 ·obtain ⟨ps0,b0⟩:=y
  have hG0:Gat ps0 [a,f.opn,f.cld]:=hy
  clear hy
  refine run ?_
  refine loop ⟨[3,5,7,8,37,38,39],[3,5,7,27],[],[]⟩ (fun k:Nat=>k≤f.nts.length) (fun k=>f.nts.length-k)
   (fun k=>⟨151,[(3,.p 3 0),(5,.p 5 0),(7,.p 7 0),(8,.v (cutV b0)),(37,.v (ntss f.nts)),(38,.v (vi f.nts.length)),(39,.v (vi k))],[(3,.var r.cs),(5,.var [vi a,vi b]),(7,.con [.val (.map (some b0))]),(27,.map (mapG (setG ps0 ((f.nts.take k).map fun o=>o.rcd))) (some b0))],[]⟩) 0 (Nat.zero_le _) ?_
  intro k hk
  by_cases hlt:k<f.nts.length
  ·obtain ⟨x,hx,-,-⟩:=drop_at hlt
   have hsn:=setG_snoc ps0 (fun o=>o.rcd) hx
   obtain ⟨cur,hcur⟩:∃cur,setG ps0 ((f.nts.take k).map fun o=>o.rcd)=cur:=⟨_,rfl⟩
   rw[hcur] at hsn ⊢
   refine runB (And.intro hx (ups cur x.rcd)) ?_
   refine round (k+1) hlt (by omega) ?_
   rw[hsn]
   rfl
  have hkl:k=f.nts.length:=by omega
  subst hkl
  rw[List.take_length]
  have hG1:=hG0.set (f.nts.map fun o=>o.rcd)
  obtain ⟨ps1,hps1⟩:∃q,setG ps0 (f.nts.map fun o=>o.rcd)=q:=⟨_,rfl⟩
  rw[hps1] at hG1 ⊢
  clear hps1 hk hlt
  refine run ?_
  refine loop ⟨[3,5,7,8,48,49,50],[3,5,7,27],[],[]⟩ (fun k:Nat=>k≤r.ofs.length) (fun k=>r.ofs.length-k)
   (fun k=>⟨151,[(3,.p 3 0),(5,.p 5 0),(7,.p 7 0),(8,.v (cutV b0)),(48,.v (ofcs r.ofs)),(49,.v (vi r.ofs.length)),(50,.v (vi k))],[(3,.var r.cs),(5,.var [vi a,vi b]),(7,.con [.val (.map (some b0))]),(27,.map (mapG (setG ps1 (((r.ofs.take k).map fun o=>[o.frm,o.til]).flatten))) (some b0))],[]⟩) 0 (Nat.zero_le _) ?_
  intro k hk
  by_cases hlt:k<r.ofs.length
  ·obtain ⟨x,hx,-,-⟩:=drop_at hlt
   have hsn:=setG_span ps1 (fun o=>o.frm) (fun o=>o.til) hx
   obtain ⟨cur,hcur⟩:∃cur,setG ps1 (((r.ofs.take k).map fun o=>[o.frm,o.til]).flatten)=cur:=⟨_,rfl⟩
   rw[hcur] at hsn ⊢
   refine runW hx ?_
   refine callX (callS [(999000,27)] (denS_cuts1 cur b0 x.frm x.til) (.cons (.v _) (.cons (.v _) .nil)) ?_ ?_)
   ·intro y hy
    simp only[List.mem_singleton] at hy
    subst hy
    exact ⟨27,_,rfl,rfl,rfl,.inr rfl,rfl⟩
   refine run ?_
   refine round (k+1) hlt (by omega) ?_
   rw[hsn]
   rfl
  have hkl:k=r.ofs.length:=by omega
  subst hkl
  rw[List.take_length]
  have hG2:=hG1.set ((r.ofs.map fun o=>[o.frm,o.til]).flatten)
  obtain ⟨ps2,hps2⟩:∃q,setG ps1 ((r.ofs.map fun o=>[o.frm,o.til]).flatten)=q:=⟨_,rfl⟩
  rw[hps2] at hG2 ⊢
  clear hps2 hk hlt
  refine run ?_
  refine loop ⟨[3,5,7,8,60,61,62],[3,5,7,27],[],[]⟩ (fun k:Nat=>k≤r.pls.length) (fun k=>r.pls.length-k)
   (fun k=>⟨151,[(3,.p 3 0),(5,.p 5 0),(7,.p 7 0),(8,.v (cutV b0)),(60,.v (plans r.pls)),(61,.v (vi r.pls.length)),(62,.v (vi k))],[(3,.var r.cs),(5,.var [vi a,vi b]),(7,.con [.val (.map (some b0))]),(27,.map (mapG (setG ps2 (((r.pls.take k).map fun o=>[o.frm,o.til]).flatten))) (some b0))],[]⟩) 0 (Nat.zero_le _) ?_
  intro k hk
  by_cases hlt:k<r.pls.length
  ·obtain ⟨x,hx,-,-⟩:=drop_at hlt
   have hsn:=setG_span ps2 (fun o=>o.frm) (fun o=>o.til) hx
   obtain ⟨cur,hcur⟩:∃cur,setG ps2 (((r.pls.take k).map fun o=>[o.frm,o.til]).flatten)=cur:=⟨_,rfl⟩
   rw[hcur] at hsn ⊢
   refine runW hx ?_
   refine callX (callS [(999000,27)] (denS_cuts1 cur b0 x.frm x.til) (.cons (.v _) (.cons (.v _) .nil)) ?_ ?_)
   ·intro y hy
    simp only[List.mem_singleton] at hy
    subst hy
    exact ⟨27,_,rfl,rfl,rfl,.inr rfl,rfl⟩
   refine run ?_
   refine round (k+1) hlt (by omega) ?_
   rw[hsn]
   rfl
  have hkl:k=r.pls.length:=by omega
  subst hkl
  rw[List.take_length]
  have hG3:=hG2.set ((r.pls.map fun o=>[o.frm,o.til]).flatten)
  obtain ⟨ps3,hps3⟩:∃q,setG ps2 ((r.pls.map fun o=>[o.frm,o.til]).flatten)=q:=⟨_,rfl⟩
  rw[hps3] at hG3 ⊢
  clear hps3 hk hlt
  refine run ?_
  refine loop ⟨[3,5,7,8,72,73,74],[3,5,7,27],[],[]⟩ (fun k:Nat=>k≤r.rls.length) (fun k=>r.rls.length-k)
   (fun k=>⟨151,[(3,.p 3 0),(5,.p 5 0),(7,.p 7 0),(8,.v (cutV b0)),(72,.v (ruls r.rls)),(73,.v (vi r.rls.length)),(74,.v (vi k))],[(3,.var r.cs),(5,.var [vi a,vi b]),(7,.con [.val (.map (some b0))]),(27,.map (mapG (setG ps3 (((r.rls.take k).map fun o=>[o.frm,o.til]).flatten))) (some b0))],[]⟩) 0 (Nat.zero_le _) ?_
  intro k hk
  by_cases hlt:k<r.rls.length
  ·obtain ⟨x,hx,-,-⟩:=drop_at hlt
   have hsn:=setG_span ps3 (fun o=>o.frm) (fun o=>o.til) hx
   obtain ⟨cur,hcur⟩:∃cur,setG ps3 (((r.rls.take k).map fun o=>[o.frm,o.til]).flatten)=cur:=⟨_,rfl⟩
   rw[hcur] at hsn ⊢
   refine runW hx ?_
   refine callX (callS [(999000,27)] (denS_cuts1 cur b0 x.frm x.til) (.cons (.v _) (.cons (.v _) .nil)) ?_ ?_)
   ·intro y hy
    simp only[List.mem_singleton] at hy
    subst hy
    exact ⟨27,_,rfl,rfl,rfl,.inr rfl,rfl⟩
   refine run ?_
   refine round (k+1) hlt (by omega) ?_
   rw[hsn]
   rfl
  have hkl:k=r.rls.length:=by omega
  subst hkl
  rw[List.take_length]
  have hG4:=hG3.set ((r.rls.map fun o=>[o.frm,o.til]).flatten)
  obtain ⟨ps4,hps4⟩:∃q,setG ps3 ((r.rls.map fun o=>[o.frm,o.til]).flatten)=q:=⟨_,rfl⟩
  rw[hps4] at hG4 ⊢
  clear hps4 hk hlt
  refine run ?_
  refine loop ⟨[3,5,7,8,84,85,86],[3,5,7,27],[],[]⟩ (fun k:Nat=>k≤r.hls.length) (fun k=>r.hls.length-k)
   (fun k=>⟨151,[(3,.p 3 0),(5,.p 5 0),(7,.p 7 0),(8,.v (cutV b0)),(84,.v (hlds r.hls)),(85,.v (vi r.hls.length)),(86,.v (vi k))],[(3,.var r.cs),(5,.var [vi a,vi b]),(7,.con [.val (.map (some b0))]),(27,.map (mapG (setG ps4 (((r.hls.take k).map fun o=>[o.frm,o.til]).flatten))) (some b0))],[]⟩) 0 (Nat.zero_le _) ?_
  intro k hk
  by_cases hlt:k<r.hls.length
  ·obtain ⟨x,hx,-,-⟩:=drop_at hlt
   have hsn:=setG_span ps4 (fun o=>o.frm) (fun o=>o.til) hx
   obtain ⟨cur,hcur⟩:∃cur,setG ps4 (((r.hls.take k).map fun o=>[o.frm,o.til]).flatten)=cur:=⟨_,rfl⟩
   rw[hcur] at hsn ⊢
   refine runW hx ?_
   refine callX (callS [(999000,27)] (denS_cuts1 cur b0 x.frm x.til) (.cons (.v _) (.cons (.v _) .nil)) ?_ ?_)
   ·intro y hy
    simp only[List.mem_singleton] at hy
    subst hy
    exact ⟨27,_,rfl,rfl,rfl,.inr rfl,rfl⟩
   refine run ?_
   refine round (k+1) hlt (by omega) ?_
   rw[hsn]
   rfl
  have hkl:k=r.hls.length:=by omega
  subst hkl
  rw[List.take_length]
  have hG5:=hG4.set ((r.hls.map fun o=>[o.frm,o.til]).flatten)
  obtain ⟨ps5,hps5⟩:∃q,setG ps4 ((r.hls.map fun o=>[o.frm,o.til]).flatten)=q:=⟨_,rfl⟩
  rw[hps5] at hG5 ⊢
  clear hps5 hk hlt
  refine run ?_
  refine loop ⟨[3,5,7,8,96,97,98],[3,5,7,27],[],[]⟩ (fun k:Nat=>k≤r.sls.length) (fun k=>r.sls.length-k)
   (fun k=>⟨151,[(3,.p 3 0),(5,.p 5 0),(7,.p 7 0),(8,.v (cutV b0)),(96,.v (sels r.sls)),(97,.v (vi r.sls.length)),(98,.v (vi k))],[(3,.var r.cs),(5,.var [vi a,vi b]),(7,.con [.val (.map (some b0))]),(27,.map (mapG (setG ps5 ((r.sls.take k).map fun o=>o.day))) (some b0))],[]⟩) 0 (Nat.zero_le _) ?_
  intro k hk
  by_cases hlt:k<r.sls.length
  ·obtain ⟨x,hx,-,-⟩:=drop_at hlt
   have hsn:=setG_snoc ps5 (fun o=>o.day) hx
   obtain ⟨cur,hcur⟩:∃cur,setG ps5 ((r.sls.take k).map fun o=>o.day)=cur:=⟨_,rfl⟩
   rw[hcur] at hsn ⊢
   refine runB (And.intro hx (ups cur x.day)) ?_
   refine round (k+1) hlt (by omega) ?_
   rw[hsn]
   rfl
  have hkl:k=r.sls.length:=by omega
  subst hkl
  rw[List.take_length]
  have hG6:=hG5.set (r.sls.map fun o=>o.day)
  obtain ⟨ps6,hps6⟩:∃q,setG ps5 (r.sls.map fun o=>o.day)=q:=⟨_,rfl⟩
  rw[hps6] at hG6 ⊢
  clear hps6 hk hlt
  refine run ?_
  refine loop ⟨[3,5,7,8,107,108,109],[3,5,7,27],[],[]⟩ (fun k:Nat=>k≤r.crs.length) (fun k=>r.crs.length-k)
   (fun k=>⟨151,[(3,.p 3 0),(5,.p 5 0),(7,.p 7 0),(8,.v (cutV b0)),(107,.v (crts r.crs)),(108,.v (vi r.crs.length)),(109,.v (vi k))],[(3,.var r.cs),(5,.var [vi a,vi b]),(7,.con [.val (.map (some b0))]),(27,.map (mapG (setG ps6 ((r.crs.take k).map fun o=>o.day))) (some b0))],[]⟩) 0 (Nat.zero_le _) ?_
  intro k hk
  by_cases hlt:k<r.crs.length
  ·obtain ⟨x,hx,-,-⟩:=drop_at hlt
   have hsn:=setG_snoc ps6 (fun o=>o.day) hx
   obtain ⟨cur,hcur⟩:∃cur,setG ps6 ((r.crs.take k).map fun o=>o.day)=cur:=⟨_,rfl⟩
   rw[hcur] at hsn ⊢
   refine runB (And.intro hx (ups cur x.day)) ?_
   refine round (k+1) hlt (by omega) ?_
   rw[hsn]
   rfl
  have hkl:k=r.crs.length:=by omega
  subst hkl
  rw[List.take_length]
  have hG7:=hG6.set (r.crs.map fun o=>o.day)
  obtain ⟨ps7,hps7⟩:∃q,setG ps6 (r.crs.map fun o=>o.day)=q:=⟨_,rfl⟩
  rw[hps7] at hG7 ⊢
  clear hps7 hk hlt
  refine run ?_
  refine loop ⟨[3,5,7,8,118,119,120],[3,5,7,27],[],[]⟩ (fun k:Nat=>k≤r.dps.length) (fun k=>r.dps.length-k)
   (fun k=>⟨151,[(3,.p 3 0),(5,.p 5 0),(7,.p 7 0),(8,.v (cutV b0)),(118,.v (deps r.dps)),(119,.v (vi r.dps.length)),(120,.v (vi k))],[(3,.var r.cs),(5,.var [vi a,vi b]),(7,.con [.val (.map (some b0))]),(27,.map (mapG (setG ps7 ((r.dps.take k).map fun o=>o.day))) (some b0))],[]⟩) 0 (Nat.zero_le _) ?_
  intro k hk
  by_cases hlt:k<r.dps.length
  ·obtain ⟨x,hx,-,-⟩:=drop_at hlt
   have hsn:=setG_snoc ps7 (fun o=>o.day) hx
   obtain ⟨cur,hcur⟩:∃cur,setG ps7 ((r.dps.take k).map fun o=>o.day)=cur:=⟨_,rfl⟩
   rw[hcur] at hsn ⊢
   refine runB (And.intro hx (ups cur x.day)) ?_
   refine round (k+1) hlt (by omega) ?_
   rw[hsn]
   rfl
  have hkl:k=r.dps.length:=by omega
  subst hkl
  rw[List.take_length]
  have hGF:=hG7.set (r.dps.map fun o=>o.day)
  obtain ⟨psF,hpsF⟩:∃q,setG ps7 (r.dps.map fun o=>o.day)=q:=⟨_,rfl⟩
  rw[hpsF] at hGF ⊢
  clear hpsF hk hlt
  refine run ?_
  have hlen:psF.length≤4001:=by
   have h1:=hGF.len
   have h2:=hok.cuts hfm
   have h3:(a::cutsB r f).length≤4001:=by rw[List.length_cons]; omega
   exact Nat.le_trans h1 h3
  refine loopV (fun y:List (Int×Bool)×Option (V×V)×List Int×Nat×Nat=>if y.2.2.1=[] then ⟨[5,25,129],[5,129],[],[]⟩ else ⟨[5,25,129],[5,129,147],[],[]⟩)
   (fun y=>(y.2.2.1++(keysG y.1).filter (inB a b)).Perm ((keysG psF).filter (inB a b))∧(y.2.2.1≠[]→y.2.2.1.length≤y.2.2.2.2∧y.2.2.2.2≤maxLen)) (fun y=>y.1.length)
   (fun y=>if y.2.2.1=[] then ⟨151,[(5,.p 5 0),(25,.v (.val (.slice none 0 0))),(129,.p 129 0)],[(5,.var [vi a,vi b]),(129,.itr (mapG y.1) y.2.1)],[]⟩ else
    ⟨151,[(5,.p 5 0),(25,.v (.val (.slice (some ⟨y.2.2.2.1,0,none⟩) y.2.2.1.length y.2.2.2.2))),(129,.p 129 0)],[(5,.var [vi a,vi b]),(129,.itr (mapG y.1) y.2.1),(147,.var (y.2.2.1.map vint) (some y.2.2.2.1) (some (3,1,y.2.2.2.2)))],[]⟩)
   (psF,none,[],0,0) ⟨List.Perm.refl _,fun h=>absurd rfl h⟩ rfl ?_
  rintro ⟨qs,cur,out,r',cap⟩ ⟨hperm,hout⟩
  simp only at hperm hout
  have hol:out.length≤4001:=by
   have h1:=hperm.length_eq
   have h2:=List.length_filter_le (inB a b) (keysG psF)
   have h3:(keysG psF).length=psF.length:=List.length_map _
   rw[List.length_append] at h1
   omega
  have hnn:∀x:Int,[x]≠[]:=fun x=>List.cons_ne_nil _ _
  by_cases hout0:out=[]
  ·subst hout0
   simp only[if_true]
   refine run ?_
   refine ⟨fun he=> ?_,fun i k v hi=> ?_⟩
   ·exfalso
    have hq:qs=[]:=List.map_eq_nil_iff.1 he
    subst hq
    have ha:a∈(keysG psF).filter (inB a b):=List.mem_filter.2 ⟨(hGF.mem a).2 (.head _),by unfold inB; rw[decide_eq_true (Int.le_refl a),decide_eq_true hab]; rfl⟩
    have:=hperm.mem_iff.2 ha
    simp[keysG] at this
   ·obtain ⟨x,c,hqx,rfl,rfl⟩:=mapG_at hi
    have hil:=(List.getElem?_eq_some_iff.1 hqx).1
    have hel:(qs.eraseIdx i).length<qs.length:=by rw[List.length_eraseIdx_of_lt hil]; omega
    rw[mapG_erase]
    by_cases h1:a≤x
    ·by_cases h2:x<b
     ·have hin:inB a b x=true:=by unfold inB; rw[decide_eq_true h1,decide_eq_true h2]; rfl
      refine runB (And.intro (eq_true h1) (eq_true h2)) ?_
      refine appO_r ?_
      unfold appR
      refine run ?_
      intro r2 cap2 hnm g1 g2
      refine run ?_
      refine roundV (qs.eraseIdx i,some (vi x,vb c),[x],r2,cap2) ⟨out_in hperm hqx hin,fun _=>⟨by simpa using g1,g2⟩⟩ hel ?_
      show keepS (if [x]=[] then _ else _) _=some (if [x]=[] then _ else _)
      rw[if_neg (hnn x),if_neg (hnn x)]
      rfl
     ·have hin:inB a b x=false:=by unfold inB; rw[decide_eq_false h2,Bool.and_false]
      refine runW (And.intro (eq_true h1) (eq_false h2)) ?_
      refine roundV (qs.eraseIdx i,some (vi x,vb c),[],r',cap) ⟨out_no hperm hqx hin,fun h=>absurd rfl h⟩ hel ?_
      rfl
    ·have hin:inB a b x=false:=by unfold inB; rw[decide_eq_false h1,Bool.false_and]
     refine runW (eq_false h1) ?_
     refine roundV (qs.eraseIdx i,some (vi x,vb c),[],r',cap) ⟨out_no hperm hqx hin,fun h=>absurd rfl h⟩ hel ?_
     rfl
  ·simp only[hout0,if_false]
   obtain ⟨hc1,hc2⟩:=hout hout0
   have hp:=List.length_pos_iff.2 hout0
   refine run ?_
   refine ⟨fun he=> ?_,fun i k v hi=> ?_⟩
   ·have hq:qs=[]:=List.map_eq_nil_iff.1 he
    subst hq
    have hperm':out.Perm ((keysG psF).filter (inB a b)):=by
     have h2:(keysG ([]:List (Int×Bool))).filter (inB a b)=[]:=rfl
     rw[h2,List.append_nil] at hperm
     exact hperm
    have hcut:=cut_of hGF hperm'
    have hres:chunk 0 out.length 1 ((sortI out).map vint)=(cutL r f a b).map Cint:=by rw[← sortI_len out,ints_chunk11,hcut]
    refine run ?_
    refine callX (callS [(999000,147)] (denS_sortI11 out (some (3,1,cap)) (by omega)) (.cons (.sn rfl rfl hc1 hc2 hp) .nil) ?_ ?_)
    ·intro x hx
     simp only[List.mem_singleton] at hx
     subst hx
     exact ⟨147,_,rfl,rfl,rfl,.inl rfl,rfl⟩
    refine run ?_
    refine ownR 6 (id:=147) (r:=r') (n:=out.length) (cap:=cap) (size:=1) (cs:=(sortI out).map vint) (e:=3) hc1 (by rw[List.length_map,sortI_len,Nat.mul_one]) rfl (finO (.of ?_)) ?_
    ·show V.slice 1 (chunk 0 out.length 1 ((sortI out).map vint))=_
     rw[hres]
    ·simp[findN,findK,Blk.nm,nmOf,look_cons']
   ·obtain ⟨x,c,hqx,rfl,rfl⟩:=mapG_at hi
    have hil:=(List.getElem?_eq_some_iff.1 hqx).1
    have hel:(qs.eraseIdx i).length<qs.length:=by rw[List.length_eraseIdx_of_lt hil]; omega
    rw[mapG_erase]
    by_cases h1:a≤x
    ·by_cases h2:x<b
     ·have hin:inB a b x=true:=by unfold inB; rw[decide_eq_true h1,decide_eq_true h2]; rfl
      refine runB (And.intro (eq_true h1) (eq_true h2)) ?_
      refine appO_r ?_
      unfold appR
      refine runB findK_i ?_
      refine ⟨.inl trivial,?_⟩
      intro r2 cap2 hnm g1 g2
      have e1:out.map vint++[[vi x]].flatten=(out++[x]).map vint:=by simp[vint]
      have e2:out.length+[[vi x]].length=(out++[x]).length:=by simp
      rw[e1,e2]
      rw[e2] at g1
      have hne1:out++[x]≠[]:=by simp
      have hpm:=out_in hperm hqx hin
      obtain ⟨out1,ho1⟩:∃o1,out++[x]=o1:=⟨_,rfl⟩
      rw[ho1] at g1 hne1 hpm ⊢
      refine run ?_
      refine roundV (qs.eraseIdx i,some (vi x,vb c),out1,r2,cap2) ⟨hpm,fun _=>⟨g1,g2⟩⟩ hel ?_
      show keepS (if out1=[] then _ else _) _=some (if out1=[] then _ else _)
      rw[if_neg hne1,if_neg hne1]
      rfl
     ·have hin:inB a b x=false:=by unfold inB; rw[decide_eq_false h2,Bool.and_false]
      refine runW (And.intro (eq_true h1) (eq_false h2)) ?_
      refine roundV (qs.eraseIdx i,some (vi x,vb c),out,r',cap) ⟨out_no hperm hqx hin,fun _=>⟨hc1,hc2⟩⟩ hel ?_
      show keepS (if out=[] then _ else _) _=some (if out=[] then _ else _)
      rw[if_neg hout0,if_neg hout0]
      rfl
    ·have hin:inB a b x=false:=by unfold inB; rw[decide_eq_false h1,Bool.false_and]
     refine runW (eq_false h1) ?_
     refine roundV (qs.eraseIdx i,some (vi x,vb c),out,r',cap) ⟨out_no hperm hqx hin,fun _=>⟨hc1,hc2⟩⟩ hel ?_
     show keepS (if out=[] then _ else _) _=some (if out=[] then _ else _)
     rw[if_neg hout0,if_neg hout0]
     rfl
 ·have e1:=ups0 a
  have e2:=ups0 f.opn
  have e3:=ups0 f.cld
  have hL:∀ps b0,Gat ps [a,f.opn,f.cld]→K' ⟨151,[(7,.p 7 0),(34,.m 27),(33,.v (vi f.cld)),(32,.p 4 3),(31,.v (vi f.opn)),(30,.p 4 2),(29,.v (vi a)),(28,.p 5 0),(27,.m 27),(6,.v (.val (.slice none 0 0))),(5,.p 5 0),(4,.p 4 0),(3,.p 3 0),(0,.v (.agg r.cs)),(1,.v (.agg f.cs)),(2,.v (span a b))],
    [(7,.var [.val (.map (some b0))]),(27,.map (mapG ps) (some b0)),(5,.var [vi a,vi b]),(4,.var f.cs),(3,.var r.cs)],[]⟩:=fun ps b0 h=>leafK hK (ps,b0) h
  have hL2:∀ps b0,Gat ps [a,f.opn,f.cld]→K' ⟨151,[(7,.p 7 0),(34,.m 27),(33,.v (vi f.cld)),(32,.p 4 3),(31,.v (vi f.opn)),(30,.p 4 2),(29,.v (vi a)),(28,.p 5 0),(27,.m 27),(6,.v (.val (.slice none 0 0))),(5,.p 5 0),(4,.p 4 0),(3,.p 3 0),(0,.v (.agg r.cs)),(1,.v (.agg f.cs)),(2,.v (span a b))],
    [(27,.map (mapG ps) (some b0)),(7,.var [.val (.map (some b0))]),(5,.var [vi a,vi b]),(4,.var f.cs),(3,.var r.cs)],[]⟩:=fun ps b0 h=>leafK hK (ps,b0) h
  have g0:=Gat.three a f.opn f.cld (S:=[a,f.opn,f.cld]) (by intro w; simp only[List.mem_cons,List.not_mem_nil,or_false] <;> omega) rfl
  have l0:=fun b0=>hL _ b0 g0
  have m0:=fun b0=>hL2 _ b0 g0
  have g1:=Gat.three a f.cld f.opn (S:=[a,f.opn,f.cld]) (by intro w; simp only[List.mem_cons,List.not_mem_nil,or_false] <;> omega) rfl
  have l1:=fun b0=>hL _ b0 g1
  have m1:=fun b0=>hL2 _ b0 g1
  have g2:=Gat.three f.opn a f.cld (S:=[a,f.opn,f.cld]) (by intro w; simp only[List.mem_cons,List.not_mem_nil,or_false] <;> omega) rfl
  have l2:=fun b0=>hL _ b0 g2
  have m2:=fun b0=>hL2 _ b0 g2
  have g3:=Gat.three f.opn f.cld a (S:=[a,f.opn,f.cld]) (by intro w; simp only[List.mem_cons,List.not_mem_nil,or_false] <;> omega) rfl
  have l3:=fun b0=>hL _ b0 g3
  have m3:=fun b0=>hL2 _ b0 g3
  have g4:=Gat.three f.cld a f.opn (S:=[a,f.opn,f.cld]) (by intro w; simp only[List.mem_cons,List.not_mem_nil,or_false] <;> omega) rfl
  have l4:=fun b0=>hL _ b0 g4
  have m4:=fun b0=>hL2 _ b0 g4
  have g5:=Gat.three f.cld f.opn a (S:=[a,f.opn,f.cld]) (by intro w; simp only[List.mem_cons,List.not_mem_nil,or_false] <;> omega) rfl
  have l5:=fun b0=>hL _ b0 g5
  have m5:=fun b0=>hL2 _ b0 g5
  exact doneGraph (And.intro e1 (And.intro e2 (And.intro e3 (And.intro ups (And.intro (fun b0:Nat=>one_map' (some b0)) (And.intro l0 (And.intro m0 (And.intro l1 (And.intro m1 (And.intro l2 (And.intro m2 (And.intro l3 (And.intro m3 (And.intro l4 (And.intro m4 (And.intro l5 (And.intro m5 (implies_true Nat))))))))))))))))))
end Go.Arc
set_option maxRecDepth 100000
namespace Go.Arc
open Go.Ab Go.RowKit Go.Proofs
variable {T : Lay}
def pceC (p:Pce):List V:=[vi p.frm,vi p.til,vi p.val]
def rowP (out:List Pce) (r cap:Nat):Blk:= .var (out.map pceC).flatten (some r) (some (101,3,cap))
def outP (out:List Pce) (r cap:Nat):List V:=if out=[] then [.val (.slice none 0 0)] else [.val (.slice (some ⟨r,0,none⟩) out.length cap)]
def rowOP (out:List Pce) (r cap:Nat):Option Blk:=if out=[] then none else some (rowP out r cap)
theorem outP_nil (r cap:Nat):outP [] r cap=[.val (.slice none 0 0)]:=if_pos rfl
theorem outP_ne {out:List Pce} (h:out≠[]) (r cap:Nat):outP out r cap=[.val (.slice (some ⟨r,0,none⟩) out.length cap)]:=if_neg h
def PostP (a:Nat) (out':List Pce) (ks:List (Nat×Blk)) (bb:Blk) (v:V):Prop:=
 out'≠[]∧∃r cap,r≠a∧out'.length≤cap∧cap≤maxLen∧ks=[(999000,.var (outP out' r cap) (some a))]∧bb=rowP out' r cap∧v= .tup []
theorem flat_len (out:List Pce):((out.map pceC).flatten).length=out.length*3:=by
 induction out with
 | nil=>rfl
 | cons x r ih=>
  rw[List.map_cons,List.flatten_cons,List.length_append,ih,List.length_cons]
  show 3+_=_
  omega
theorem flat_snoc (l:List Pce) (p:Pce):((l++[p]).map pceC).flatten=(l.map pceC).flatten++[vi p.frm,vi p.til,vi p.val]:=by
 rw[List.map_append,List.flatten_append]
 rfl
set_option maxHeartbeats 2000000 in
theorem denV_add (out:List Pce) (a r cap:Nat) (c e k:Int) (hlen:out.length≤100000) (hn:out≠[]→r≠a∧out.length≤cap∧cap≤maxLen):
  DenV Tryz.prog T 167 [(999000,.var (outP out r cap) (some a))] 999050 (rowOP out r cap) [.v (vi c),.v (vi e),.v (vi k),.p 999000 0] (PostP a (addP out c e k)):=by
 by_cases h0:out=[]
 ·subst h0
  refine denV_of_body follows (fun args w=>Tryz.call167 args w) Tryz.func167 rfl 37 rfl rfl ?_ ?_
  ·simp only[outP_nil,rowOP,rowL,if_true,List.append_nil]
   refine runB trivial ?_
   refine appO_r ?_
   unfold appR
   refine run ?_
   intro r' cap' hnm h1 h2
   have ha:r'≠a:=fun he=>hnm 999000 _ a rfl rfl he.symm
   refine run ?_
   refine ⟨rfl,?_⟩
   refine finVr (ks:=[(999000,.var (outP [⟨c,e,k⟩] r' cap') (some a))]) (i:=36) (cs:=([(⟨c,e,k⟩:Pce)].map pceC).flatten) (nm:=some r') (kk:=some (101,3,cap')) (r:= .tup []) (r':= .tup []) ⟨List.cons_ne_nil _ _,r',cap',ha,(by have:(addP [] c e k).length=1:=rfl; rw[this]; simpa using h1),h2,rfl,rfl,rfl⟩ ?_ rfl (by simp) (.refl _) rfl (fun _ h=>nomatch h)
   intro x hx
   simp only[List.mem_singleton] at hx
   subst hx
   exact ⟨_,_,_,rfl,rfl⟩
  ·rintro ks k v ⟨_,r',cap',_,_,_,rfl,_,_⟩
   exact ⟨rfl,rfl⟩
 ·obtain ⟨hra,h1,h2⟩:=hn h0
  obtain ⟨l,p,rfl⟩:∃l p,out=l++[p]:=⟨out.dropLast,out.getLast h0,(List.dropLast_concat_getLast h0).symm⟩
  have hlp:(l++[p]).length=l.length+1:=by simp
  have hcs:=flat_snoc l p
  have hfl:=flat_len l
  obtain ⟨cs,hcl⟩:∃cs,(l.map pceC).flatten=cs:=⟨_,rfl⟩
  rw[hcl] at hcs hfl
  refine denV_of_body follows (fun args w=>Tryz.call167 args w) Tryz.func167 rfl 37 rfl rfl ?_ ?_
  ·simp only[outP_ne h0,rowOP,if_neg h0,rowL,rowP,hcs,List.cons_append,List.nil_append]
   rw[hlp]
   have hb:l.length+1≤100000:=by rw[← hlp]; exact hlen
   have d0:List.drop ((l.length+1-1)*3+2) (cs++[vi p.frm,vi p.til,vi p.val])=[vi p.val]:=by
    rw[Nat.add_sub_cancel,← hfl,List.drop_length_add_append]
    rfl
   have d1:List.drop ((l.length+1-1)*3+1+1) (cs++[vi p.frm,vi p.til,vi p.val])=[vi p.val]:=by
    rw[Nat.add_assoc]
    exact d0
   have d2:List.take ((l.length+1-1)*3+1) (cs++[vi p.frm,vi p.til,vi p.val])=cs++[vi p.frm]:=by
    rw[Nat.add_sub_cancel,← hfl,List.take_length_add_append]
    rfl
   have d3:List.drop ((l.length+1-1)*3+1) (cs++[vi p.frm,vi p.til,vi p.val])=[vi p.til,vi p.val]:=by
    rw[Nat.add_sub_cancel,← hfl,List.drop_length_add_append]
    rfl
   by_cases hk:p.val=k
   ·subst hk
    have ha:addP (l++[p]) c e p.val=l++[⟨p.frm,e,p.val⟩]:=by rw[addP_last,if_pos rfl]
    have hcs2:=flat_snoc l ⟨p.frm,e,p.val⟩
    rw[hcl] at hcs2
    have hlp2:(l++[(⟨p.frm,e,p.val⟩:Pce)]).length=(l++[p]).length:=by simp
    have hne2:l++[(⟨p.frm,e,p.val⟩:Pce)]≠[]:=by simp
    refine runB (And.intro (eq_false hra) (And.intro hfl (And.intro d0 (And.intro d1 (And.intro d2 d3))))) ?_
    rw[ha]
    have e1:cs++[vi p.frm]++[vi e]++[vi p.val]=((l++[(⟨p.frm,e,p.val⟩:Pce)]).map pceC).flatten:=by rw[hcs2,List.append_assoc,List.append_assoc]; rfl
    rw[e1]
    have hlp3:(l++[(⟨p.frm,e,p.val⟩:Pce)]).length=l.length+1:=by simp
    refine finVr (ks:=[(999000,.var (outP (l++[⟨p.frm,e,p.val⟩]) r cap) (some a))]) (i:=999050) (cs:=((l++[(⟨p.frm,e,p.val⟩:Pce)]).map pceC).flatten) (nm:=some r) (kk:=some (101,3,cap)) (r:= .tup []) (r':= .tup []) ⟨hne2,r,cap,hra,by rw[hlp3,← hlp]; exact h1,h2,rfl,rfl,rfl⟩ ?_ rfl (by simp) (.refl _) rfl (fun _ h=>nomatch h)
    intro x hx
    simp only[List.mem_singleton] at hx
    subst hx
    rw[outP_ne hne2,hlp3]
    exact ⟨_,_,_,rfl,rfl⟩
   ·have ha:addP (l++[p]) c e k=l++[p,⟨c,e,k⟩]:=by rw[addP_last,if_neg hk]
    refine runB (And.intro (eq_false hra) (And.intro hfl (And.intro d0 (eq_false hk)))) ?_
    refine appO_r ?_
    unfold appR
    refine runB (And.intro (eq_false hra) hfl) ?_
    refine ⟨.inr trivial,?_⟩
    intro r' cap' hnm g1 g2
    have ha':r'≠a:=fun he=>hnm 999000 _ a rfl rfl he.symm
    have e1:(cs++[vi p.frm,vi p.til,vi p.val])++[[vi c,vi e,vi k]].flatten=((l++[p,⟨c,e,k⟩]).map pceC).flatten:=by
     rw[show l++[p,⟨c,e,k⟩]=(l++[p])++[⟨c,e,k⟩] by simp,flat_snoc,hcs]
     rfl
    have hlp3:(l++[p,(⟨c,e,k⟩:Pce)]).length=l.length+1+[[vi c,vi e,vi k]].length:=by simp
    have hne2:l++[p,(⟨c,e,k⟩:Pce)]≠[]:=by simp
    rw[e1,← hlp3]
    rw[← hlp3] at g1
    rw[ha]
    obtain ⟨o2,ho2⟩:∃o2,l++[p,(⟨c,e,k⟩:Pce)]=o2:=⟨_,rfl⟩
    rw[ho2] at g1 hne2 ⊢
    refine run ?_
    refine ⟨rfl,?_⟩
    refine finVr (ks:=[(999000,.var (outP o2 r' cap') (some a))]) (i:=36) (cs:=(o2.map pceC).flatten) (nm:=some r') (kk:=some (101,3,cap')) (r:= .tup []) (r':= .tup []) ⟨hne2,r',cap',ha',g1,g2,rfl,rfl,rfl⟩ ?_ rfl (by simp) (.refl _) rfl (fun _ h=>nomatch h)
    intro x hx
    simp only[List.mem_singleton] at hx
    subst hx
    rw[outP_ne hne2]
    exact ⟨_,_,_,rfl,rfl⟩
  ·rintro ks k v ⟨_,r',cap',_,_,_,rfl,_,_⟩
   exact ⟨rfl,rfl⟩
end Go.Arc
set_option maxRecDepth 100000
namespace Go.Arc
open Go.Ab Go.RowKit Go.Proofs
variable {T : Lay}
theorem dueF_le {f:Fil} {d:Int} {q:Rul} {t:Int} (h:dueF f d q=some t):0≤t∧t≤1048575:=by
 unfold dueF at h
 cases e:trig f q.trg d with
 | none=>rw[e] at h; cases h
 | some x=>
  rw[e] at h
  have h:dueR q x.1 x.2=some t:=h
  unfold dueR at h
  split at h
  ·cases h
   have h1:=yearsN_le x.2.toNat q.yrs.toNat
   have h2:=yearEndN_le (yearsN x.2.toNat q.yrs.toNat)
   split <;> omega
  ·cases h
theorem lateF_le (f:Fil) (d:Int):∀(l:List Rul) (x:Int×Int),-1≤x.1→x.1≤1048575→ -1≤(lateF f d l x).1∧(lateF f d l x).1≤1048575
 | [],x,h1,h2=>⟨h1,h2⟩
 | q::l,x,h1,h2=>by
  unfold lateF
  cases e:dueF f d q with
  | none=>exact lateF_le f d l x h1 h2
  | some t=>
   have:=dueF_le e
   simp only
   split
   ·exact lateF_le f d l _ (by simp only; omega) (by simp only; omega)
   ·exact lateF_le f d l x h1 h2
theorem vdt_due_le (r:Rgs) (f:Fil) (d:Int): -1≤(vdt r f d).due∧(vdt r f d).due≤1048575:=by
 have h:=lateF_le f d (rulesF r f d) (-1,0) (by decide) (by decide)
 have z0:(-1:Int)≤0∧(0:Int)≤1048575:=by decide
 unfold vdt
 simp only
 split
 ·exact z0
 split
 ·exact z0
 split
 ·exact z0
 split
 ·exact z0
 split
 ·exact z0
 cases (rulesF r f d).find? keepB with
 | some q=>exact z0
 | none=>
  cases (rulesF r f d).find? (waitB f d) with
  | some q=>exact z0
  | none=>
   simp only
   split
   ·exact h
   split
   ·exact h
   split <;> exact h
def lineI (r:Rgs) (f:Fil) (ds:List Int):Nat→List Pce
 | 0=>[]
 | i+1=>match ds[i]?,ds[i+1]? with
  | some d,some e=>segP r f (lineI r f ds i) d e
  | _,_=>lineI r f ds i
theorem lineI_succ {r:Rgs} {f:Fil} {ds:List Int} {i:Nat} {d e:Int} (hd:ds[i]? = some d) (he:ds[i+1]? = some e):lineI r f ds (i+1)=segP r f (lineI r f ds i) d e:=by
 show (match ds[i]?,ds[i+1]? with | some d,some e=>segP r f (lineI r f ds i) d e | _,_=>lineI r f ds i)=_
 rw[hd,he]
theorem lineI_inv (r:Rgs) (f:Fil) (ds:List Int):∀i,i+1≤ds.length→lineF r f ds []=lineF r f (ds.drop i) (lineI r f ds i)
 | 0,_=>rfl
 | i+1,h=>by
  rw[lineI_inv r f ds i (by omega)]
  obtain ⟨d,hd,hd2,-⟩:=drop_at (l:=ds) (k:=i) (by omega)
  obtain ⟨e,he,he2,-⟩:=drop_at (l:=ds) (k:=i+1) (by omega)
  rw[lineI_succ hd he,hd2,he2]
  rfl
theorem lineI_end (r:Rgs) (f:Fil) {ds:List Int} {n:Nat} (h:ds.length=n+1):lineI r f ds n=lineF r f ds []:=by
 rw[lineI_inv r f ds n (by omega)]
 obtain ⟨d,-,hd2,-⟩:=drop_at (l:=ds) (k:=n) (by omega)
 rw[hd2,List.drop_of_length_le (by omega)]
 rfl
theorem addP_len:∀(l:List Pce) (c e k:Int),(addP l c e k).length≤l.length+1∧1≤(addP l c e k).length
 | [],c,e,k=>⟨Nat.le_refl _,Nat.le_refl _⟩
 | [p],c,e,k=>by
  unfold addP
  split <;> simp
 | p::q::l,c,e,k=>by
  have:=addP_len (q::l) c e k
  unfold addP
  simp only[List.length_cons] at this ⊢
  omega
theorem addP_ne (l:List Pce) (c e k:Int):addP l c e k≠[]:=fun h=>by
 have:=(addP_len l c e k).2
 rw[h] at this
 cases this
theorem segP_len (r:Rgs) (f:Fil) (l:List Pce) (d e:Int):(segP r f l d e).length≤l.length+2∧segP r f l d e≠[]:=by
 unfold segP
 split
 ·have h1:=(addP_len l d ((vdt r f d).due+1) 6).1
  have h2:=(addP_len (addP l d ((vdt r f d).due+1) 6) ((vdt r f d).due+1) e (vdt r f ((vdt r f d).due+1)).kind).1
  exact ⟨by omega,addP_ne _ _ _ _⟩
 ·have h1:=(addP_len l d e (vdt r f d).kind).1
  exact ⟨by omega,addP_ne _ _ _ _⟩
theorem lineI_len (r:Rgs) (f:Fil) (ds:List Int):∀i,(lineI r f ds i).length≤2*i
 | 0=>Nat.le_refl _
 | i+1=>by
  have ih:=lineI_len r f ds i
  show (match ds[i]?,ds[i+1]? with | some d,some e=>segP r f (lineI r f ds i) d e | _,_=>lineI r f ds i).length≤_
  cases hd:ds[i]? with
  | none=>simp only; omega
  | some d=>
   cases he:ds[i+1]? with
   | none=>simp only; omega
   | some e=>
    have:=(segP_len r f (lineI r f ds i) d e).1
    simp only
    omega
theorem keysG_len (ps:List (Int×Bool)):(keysG ps).length=ps.length:=List.length_map _
theorem cutL_len {r:Rgs} (h:OkG r) {f:Fil} (hf:f∈r.fls) (a b:Int):(cutL r f a b).length≤4001:=by
 have h1:=h.cuts hf
 have hg:Gat [] []:=⟨fun x=>Iff.rfl,List.nodup_nil,Nat.le_refl _⟩
 have h2:=(hg.set (a::cutsB r f)).len
 have h3:=List.length_filter_le (inB a b) (keysG (setG [] (a::cutsB r f)))
 rw[keysG_len] at h3
 unfold cutL
 rw[sortI_len]
 rw[List.nil_append,List.length_cons] at h2
 omega
theorem flat_drop:∀(l:List Pce) (i:Nat),((l.map pceC).flatten).drop (i*3)=((l.drop i).map pceC).flatten
 | l,0=>by rw[Nat.zero_mul]; rfl
 | [],i+1=>by rw[List.drop_of_length_le (Nat.zero_le _)]; rfl
 | p::l,i+1=>by
  have ih:=flat_drop l i
  rw[List.map_cons,List.flatten_cons,List.drop_succ_cons,← ih,show (i+1)*3=(pceC p).length+i*3 by show (i+1)*3=3+i*3; omega,List.drop_length_add_append]
theorem chunk_pces (l:List Pce):chunk 0 l.length 3 ((l.map pceC).flatten)=l.map Pce.cs:=by
 apply List.ext_getElem?
 intro i
 simp only[chunk,List.getElem?_map,Nat.zero_add]
 by_cases h:i<l.length
 ·rw[List.getElem?_range h,List.getElem?_eq_getElem h]
  simp only[Option.map_some]
  rw[flat_drop,List.drop_eq_getElem_cons h,List.map_cons,List.flatten_cons]
  rfl
 ·rw[List.getElem?_eq_none (by simpa using h),List.getElem?_eq_none (by omega)]; rfl
abbrev addV (v:Nat):V:= .func 167 [.val (.pointer (some ⟨v,0,none⟩))]
set_option maxHeartbeats 8000000 in
theorem den_line (L:LibC T) (r:Rgs) (f:Fil) (a b:Int) (hr:r.Fit) (hok:OkG r) (hfm:f∈r.fls) (hab:a<b):Den Tryz.prog T 86 [.agg r.cs,.agg f.cs,span a b] (pces (lineS r f a b)):=by
 have hf:=hr.fls.2 f hfm
 have hg:=hok.goodR
 have hcl:=cutL_len hok hfm a b
 obtain ⟨l0,hl0⟩:=cutL_head (r:=r) (f:=f) hab
 have hcp:0<(cutL r f a b).length:=by rw[hl0]; simp
 have hds:(cutL r f a b).map Cint++[[vi b]]=(cutL r f a b++[b]).map Cint:=by simp
 have hdl:(cutL r f a b++[b]).length=(cutL r f a b).length+1:=by simp
 have hend:=lineI_end r f hdl
 have hls:lineS r f a b=lineF r f (cutL r f a b++[b]) []:=rfl
 rw[hls,← hend]
 refine den_of_body follows (fun args w=>Tryz.call86 args w) Tryz.func86 rfl 78 rfl ?_
 refine runMk trivial ?_
 refine aw_name 7 ?_
 intro v0 hv
 clear hv
 refine runD trivial ?_
 refine aw_chn [18,22] 8 ?_
 refine run ?_
 refine callO (den_cuts r f a b hr hok hfm hab) ?_
 obtain ⟨C,hC⟩:∃C,cutL r f a b=C:=⟨_,rfl⟩
 rw[hC] at hcl hcp hds hdl ⊢
 obtain ⟨ds,hD⟩:∃ds,C++[b]=ds:=⟨_,rfl⟩
 rw[hD] at hds hdl ⊢
 have htk:(ds.map Cint).take (C.length+1-1)=C.map Cint:=by rw[Nat.add_sub_cancel,← List.map_take,← hD,List.take_left]
 have hcb:C.length≤1048576:=by omega
 refine runB hds ?_
 refine runW (And.intro hds (And.intro hdl htk)) ?_
 refine loopV (fun y:Nat×Nat×Nat=>if y.1=0 then ⟨[3,4,7,8,9,27,28,29],[3,4,7],[],[]⟩ else ⟨[3,4,7,8,9,27,28,29],[3,4,7,77],[],[]⟩)
  (fun y=>y.1≤C.length∧(y.1≠0→y.2.1≠v0∧(lineI r f ds y.1).length≤y.2.2∧y.2.2≤maxLen)) (fun y=>C.length-y.1)
  (fun y=>if y.1=0 then ⟨78,[(3,.p 3 0),(4,.p 4 0),(7,.p 7 0),(8,.v (addV v0)),(9,.v (ints ds)),(27,.v (ints C)),(28,.v (vi C.length)),(29,.v (vi y.1))],[(3,.var r.cs),(4,.var f.cs),(7,.var [.val (.slice none 0 0)] (some v0))],[]⟩ else
   ⟨78,[(3,.p 3 0),(4,.p 4 0),(7,.p 7 0),(8,.v (addV v0)),(9,.v (ints ds)),(27,.v (ints C)),(28,.v (vi C.length)),(29,.v (vi y.1))],[(3,.var r.cs),(4,.var f.cs),(7,.var (outP (lineI r f ds y.1) y.2.1 y.2.2) (some v0)),(77,rowP (lineI r f ds y.1) y.2.1 y.2.2)],[]⟩)
  (0,0,0) ⟨Nat.zero_le _,fun h=>absurd rfl h⟩ rfl ?_
 rintro ⟨i,r',cap'⟩ ⟨hi,hrow⟩
 simp only at hi hrow
 by_cases hlt:i<C.length
 ·obtain ⟨d,hx,-,-⟩:=drop_at hlt
  have hd:ds[i]? = some d:=by rw[← hD,List.getElem?_append_left hlt]; exact hx
  obtain ⟨e,he,-,-⟩:=drop_at (l:=ds) (k:=i+1) (by omega)
  have hseg:=lineI_succ (r:=r) (f:=f) hd he
  unfold segP at hseg
  obtain ⟨w0,hV⟩:∃w0,vdt r f d=w0:=⟨_,rfl⟩
  have hol0:=lineI_len r f ds i
  by_cases h0:i=0
  ·subst h0
   have hlI:lineI r f ds 0=[]:=rfl
   rw[hlI] at hseg
   have hol:([]:List Pce).length≤90000:=Nat.zero_le _
   simp only[if_true]
   refine runW hx ?_
   refine call (den_newLook L r f d hr hf hg) ?_
   refine run ?_
   refine call (den_vdt L r f d hr hf) ?_
   have hdu:=vdt_due_le r f d
   rw[hV] at hseg hdu ⊢
   by_cases hc6:w0.kind=6∧w0.due+1<e
   ·obtain ⟨hk6,hlt6⟩:=hc6
    rw[if_pos ⟨hk6,hlt6⟩] at hseg
    have hsucc:=hseg
    refine runB (And.intro hk6 (And.intro he (eq_true hlt6))) ?_
    have hadd1:=denV_add (T:=T) [] v0 0 0 d (w0.due+1) 6 (Nat.zero_le _) (fun h=>absurd rfl h)
    rw[outP_nil,show rowOP [] 0 0=none from if_pos rfl] at hadd1
    refine callX (callV ⟨[(999000,7)],999050,77,_,_,_,_,hadd1,.cons (.v _) (.cons (.v _) (.cons (.v _) (.cons (.pn rfl rfl) .nil))),rfl,rfl,?_,(fun _=>rfl),(by show (77:Nat)<78; decide),?_⟩)
    ·intro x hx
     simp only[rowL,List.append_nil,List.mem_singleton] at hx
     subst hx
     exact ⟨7,_,rfl,rfl,rfl,.inr rfl,rfl⟩
    rintro ks1 bb1 vv1 ⟨hne1,r1,cap1,hv1,hl1,hm1,rfl,rfl,rfl⟩
    refine ⟨rfl,fun hnm1=> ?_⟩
    rw[outP_ne hne1]
    simp only[rowP,setbs,setb,lk,look_cons',unH_cons,unH_nil,unT_v,unT_p,unT_nil,Nat.reduceEqDiff,↓reduceIte,Blk.wn,Blk.nm,remK,remBs,hasC_nil,cond_false]
    obtain ⟨o1,ho1⟩:∃o1,addP [] d (w0.due+1) 6=o1:=⟨_,rfl⟩
    have ho1l:o1.length≤100000:=by
     have:=(addP_len [] d (w0.due+1) 6).1
     rw[ho1] at this
     have:=hol
     omega
    rw[ho1] at hne1 hl1 hsucc ⊢
    refine run ?_
    refine call (den_newLook L r f (w0.due+1) hr hf hg) ?_
    refine run ?_
    refine call (den_vdt L r f (w0.due+1) hr hf) ?_
    obtain ⟨w1,hV2⟩:∃w1,vdt r f (w0.due+1)=w1:=⟨_,rfl⟩
    rw[hV2] at hsucc ⊢
    refine runD trivial ?_
    refine aw_graph [⟨[ff,ff,ff,ff,ff,ff,ff,ff,ff,ff],10,.one 0 0⟩,⟨[tt,ff,ff,ff,ff,ff,ff,ff,ff,ff],9,.one 1 0⟩,⟨[tt,tt,ff,ff,ff,ff,ff,ff,ff,ff],8,.one 2 0⟩,⟨[tt,tt,tt,ff,ff,ff,ff,ff,ff,ff],7,.one 3 0⟩,⟨[tt,tt,tt,tt,ff,ff,ff,ff,ff,ff],6,.one 7 0⟩,⟨[tt,tt,tt,tt,ff,ff,ff,tt,ff,ff],5,.alt [(4,0),(8,1)]⟩,⟨[tt,tt,tt,tt,tt,ff,ff,tt,ff,ff],4,.alt [(5,1),(8,2)]⟩,⟨[tt,tt,tt,tt,ff,ff,ff,tt,tt,ff],4,.alt [(4,1)]⟩,⟨[tt,tt,tt,tt,tt,tt,ff,tt,ff,ff],3,.alt [(6,1),(8,2)]⟩,⟨[tt,tt,tt,tt,tt,ff,ff,tt,tt,ff],3,.alt [(5,1)]⟩,⟨[tt,tt,tt,tt,tt,tt,tt,tt,ff,ff],2,.alt [(8,1)]⟩,⟨[tt,tt,tt,tt,tt,tt,ff,tt,tt,ff],2,.alt [(6,0)]⟩,⟨[tt,tt,tt,tt,tt,tt,tt,tt,tt,ff],1,.alt [(9,0)]⟩,⟨[tt,tt,tt,tt,tt,tt,tt,tt,tt,tt],0,.fin⟩] ?_
    refine graph_to (fun z:Nat×Nat=>z.1≠v0∧(addP o1 (w0.due+1) e w1.kind).length≤z.2∧z.2≤maxLen) ⟨[3,4,7,8,9,27,28,29],[3,4,7,77],[],[]⟩ (fun z=>⟨78,[(3,.p 3 0),(4,.p 4 0),(7,.p 7 0),(8,.v (addV v0)),(9,.v (ints ds)),(27,.v (ints C)),(28,.v (vi C.length)),(29,.v (vi (0:Nat)))],[(3,.var r.cs),(4,.var f.cs),(7,.var [.val (.slice (some ⟨z.1,0,none⟩) (addP o1 (w0.due+1) e w1.kind).length z.2)] (some v0)),(77,rowP (addP o1 (w0.due+1) e w1.kind) z.1 z.2)],[]⟩) (fun st st' hk h=>aw_keep _ hk h) (fun z hz=> ?_) (fun K' hK=> ?_)
    ·refine run ?_
     refine roundV (1,z.1,z.2) ⟨hlt,fun _=>by rw[hsucc]; exact hz⟩ (by simp only; omega) ?_
     show keepS (if 1=0 then _ else _) _=some (if 1=0 then _ else _)
     rw[if_neg (Nat.one_ne_zero),if_neg (Nat.one_ne_zero),hsucc,outP_ne (addP_ne _ _ _ _)]
     rfl
    ·refine runGraph he ?_
     repeat' (with_reducible refine And.intro ?_ ?_)
     all_goals
      have hadd2:=denV_add (T:=T) o1 v0 r1 cap1 (w0.due+1) e w1.kind ho1l (fun _=>⟨hv1,hl1,hm1⟩)
      rw[outP_ne hne1,show rowOP o1 r1 cap1=some (rowP o1 r1 cap1) from if_neg hne1] at hadd2
      refine callX (callV ⟨[(999000,7)],999050,77,_,_,_,_,hadd2,.cons (.v _) (.cons (.v _) (.cons (.v _) (.cons (.pn rfl rfl) .nil))),rfl,rfl,?_,(fun h=>nomatch h),(by show (77:Nat)<78; decide),?_⟩)
      ·intro x hx
       simp only[rowL,List.cons_append,List.nil_append,List.mem_cons,List.not_mem_nil,or_false] at hx
       rcases hx with rfl | rfl
       ·exact ⟨7,_,rfl,rfl,rfl,.inr rfl,rfl⟩
       ·exact ⟨77,_,rfl,rfl,rfl,.inr rfl,rfl⟩
      rintro ks2 bb2 vv2 ⟨hne2,r2,cap2,hv2,hl2,hm2,rfl,rfl,rfl⟩
      refine ⟨rfl,fun hnm2=> ?_⟩
      rw[outP_ne hne2]
      simp only[rowP,setbs,setb,lk,look_cons',unH_cons,unH_nil,unT_v,unT_p,unT_nil,Nat.reduceEqDiff,↓reduceIte,Blk.wn,Blk.nm,remK,remBs,hasC_nil,cond_false]
      refine runGraph trivial ?_
      exact leafK hK (r2,cap2) ⟨hv2,hl2,hm2⟩
   ·rw[if_neg hc6] at hseg
    have hsucc:=hseg
    by_cases hk6:w0.kind=6
    ·have hlt6:¬w0.due+1<e:=fun h=>hc6 ⟨hk6,h⟩
     rw[hk6] at hsucc
     refine runD (And.intro hk6 (And.intro he (eq_false hlt6))) ?_
     refine aw_graph [⟨[ff,ff,ff,ff,ff,ff,ff,ff,ff,ff],10,.one 0 0⟩,⟨[tt,ff,ff,ff,ff,ff,ff,ff,ff,ff],9,.one 1 0⟩,⟨[tt,tt,ff,ff,ff,ff,ff,ff,ff,ff],8,.one 2 0⟩,⟨[tt,tt,tt,ff,ff,ff,ff,ff,ff,ff],7,.one 3 0⟩,⟨[tt,tt,tt,tt,ff,ff,ff,ff,ff,ff],6,.one 7 0⟩,⟨[tt,tt,tt,tt,ff,ff,ff,tt,ff,ff],5,.alt [(4,0),(8,1)]⟩,⟨[tt,tt,tt,tt,tt,ff,ff,tt,ff,ff],4,.alt [(5,1),(8,2)]⟩,⟨[tt,tt,tt,tt,ff,ff,ff,tt,tt,ff],4,.alt [(4,1)]⟩,⟨[tt,tt,tt,tt,tt,tt,ff,tt,ff,ff],3,.alt [(6,1),(8,2)]⟩,⟨[tt,tt,tt,tt,tt,ff,ff,tt,tt,ff],3,.alt [(5,1)]⟩,⟨[tt,tt,tt,tt,tt,tt,tt,tt,ff,ff],2,.alt [(8,1)]⟩,⟨[tt,tt,tt,tt,tt,tt,ff,tt,tt,ff],2,.alt [(6,0)]⟩,⟨[tt,tt,tt,tt,tt,tt,tt,tt,tt,ff],1,.alt [(9,0)]⟩,⟨[tt,tt,tt,tt,tt,tt,tt,tt,tt,tt],0,.fin⟩] ?_
     refine graph_to (fun z:Nat×Nat=>z.1≠v0∧(addP [] d e 6).length≤z.2∧z.2≤maxLen) ⟨[3,4,7,8,9,27,28,29],[3,4,7,77],[],[]⟩ (fun z=>⟨78,[(3,.p 3 0),(4,.p 4 0),(7,.p 7 0),(8,.v (addV v0)),(9,.v (ints ds)),(27,.v (ints C)),(28,.v (vi C.length)),(29,.v (vi (0:Nat)))],[(3,.var r.cs),(4,.var f.cs),(7,.var [.val (.slice (some ⟨z.1,0,none⟩) (addP [] d e 6).length z.2)] (some v0)),(77,rowP (addP [] d e 6) z.1 z.2)],[]⟩) (fun st st' hk h=>aw_keep _ hk h) (fun z hz=> ?_) (fun K' hK=> ?_)
     ·refine run ?_
      refine roundV (1,z.1,z.2) ⟨hlt,fun _=>by rw[hsucc]; exact hz⟩ (by simp only; omega) ?_
      show keepS (if 1=0 then _ else _) _=some (if 1=0 then _ else _)
      rw[if_neg (Nat.one_ne_zero),if_neg (Nat.one_ne_zero),hsucc,outP_ne (addP_ne _ _ _ _)]
      rfl
     ·refine runGraph (And.intro he hk6) ?_
      repeat' (with_reducible refine And.intro ?_ ?_)
      all_goals
       have hadd3:=denV_add (T:=T) [] v0 0 0 d e 6 (Nat.zero_le _) (fun h=>absurd rfl h)
       rw[outP_nil,show rowOP [] 0 0=none from if_pos rfl] at hadd3
       refine callX (callV ⟨[(999000,7)],999050,77,_,_,_,_,hadd3,.cons (.v _) (.cons (.v _) (.cons (.v _) (.cons (.pn rfl rfl) .nil))),rfl,rfl,?_,(fun _=>rfl),(by show (77:Nat)<78; decide),?_⟩)
       ·intro x hx
        simp only[rowL,List.append_nil,List.mem_singleton] at hx
        subst hx
        exact ⟨7,_,rfl,rfl,rfl,.inr rfl,rfl⟩
       rintro ks3 bb3 vv3 ⟨hne3,r3,cap3,hv3,hl3,hm3,rfl,rfl,rfl⟩
       refine ⟨rfl,fun hnm3=> ?_⟩
       rw[outP_ne hne3]
       simp only[rowP,setbs,setb,lk,look_cons',unH_cons,unH_nil,unT_v,unT_p,unT_nil,Nat.reduceEqDiff,↓reduceIte,Blk.wn,Blk.nm,remK,remBs,hasC_nil,cond_false]
       refine runGraph trivial ?_
       exact leafK hK (r3,cap3) ⟨hv3,hl3,hm3⟩
    ·refine runD (And.intro (eq_false hk6) he) ?_
     refine aw_graph [⟨[ff,ff,ff,ff,ff,ff,ff,ff,ff,ff],10,.one 0 0⟩,⟨[tt,ff,ff,ff,ff,ff,ff,ff,ff,ff],9,.one 1 0⟩,⟨[tt,tt,ff,ff,ff,ff,ff,ff,ff,ff],8,.one 2 0⟩,⟨[tt,tt,tt,ff,ff,ff,ff,ff,ff,ff],7,.one 3 0⟩,⟨[tt,tt,tt,tt,ff,ff,ff,ff,ff,ff],6,.one 7 0⟩,⟨[tt,tt,tt,tt,ff,ff,ff,tt,ff,ff],5,.alt [(4,0),(8,1)]⟩,⟨[tt,tt,tt,tt,tt,ff,ff,tt,ff,ff],4,.alt [(5,1),(8,2)]⟩,⟨[tt,tt,tt,tt,ff,ff,ff,tt,tt,ff],4,.alt [(4,1)]⟩,⟨[tt,tt,tt,tt,tt,tt,ff,tt,ff,ff],3,.alt [(6,1),(8,2)]⟩,⟨[tt,tt,tt,tt,tt,ff,ff,tt,tt,ff],3,.alt [(5,1)]⟩,⟨[tt,tt,tt,tt,tt,tt,tt,tt,ff,ff],2,.alt [(8,1)]⟩,⟨[tt,tt,tt,tt,tt,tt,ff,tt,tt,ff],2,.alt [(6,0)]⟩,⟨[tt,tt,tt,tt,tt,tt,tt,tt,tt,ff],1,.alt [(9,0)]⟩,⟨[tt,tt,tt,tt,tt,tt,tt,tt,tt,tt],0,.fin⟩] ?_
     refine graph_to (fun z:Nat×Nat=>z.1≠v0∧(addP [] d e w0.kind).length≤z.2∧z.2≤maxLen) ⟨[3,4,7,8,9,27,28,29],[3,4,7,77],[],[]⟩ (fun z=>⟨78,[(3,.p 3 0),(4,.p 4 0),(7,.p 7 0),(8,.v (addV v0)),(9,.v (ints ds)),(27,.v (ints C)),(28,.v (vi C.length)),(29,.v (vi (0:Nat)))],[(3,.var r.cs),(4,.var f.cs),(7,.var [.val (.slice (some ⟨z.1,0,none⟩) (addP [] d e w0.kind).length z.2)] (some v0)),(77,rowP (addP [] d e w0.kind) z.1 z.2)],[]⟩) (fun st st' hk h=>aw_keep _ hk h) (fun z hz=> ?_) (fun K' hK=> ?_)
     ·refine run ?_
      refine roundV (1,z.1,z.2) ⟨hlt,fun _=>by rw[hsucc]; exact hz⟩ (by simp only; omega) ?_
      show keepS (if 1=0 then _ else _) _=some (if 1=0 then _ else _)
      rw[if_neg (Nat.one_ne_zero),if_neg (Nat.one_ne_zero),hsucc,outP_ne (addP_ne _ _ _ _)]
      rfl
     ·refine runGraph he ?_
      repeat' (with_reducible refine And.intro ?_ ?_)
      all_goals
       have hadd3:=denV_add (T:=T) [] v0 0 0 d e w0.kind (Nat.zero_le _) (fun h=>absurd rfl h)
       rw[outP_nil,show rowOP [] 0 0=none from if_pos rfl] at hadd3
       refine callX (callV ⟨[(999000,7)],999050,77,_,_,_,_,hadd3,.cons (.v _) (.cons (.v _) (.cons (.v _) (.cons (.pn rfl rfl) .nil))),rfl,rfl,?_,(fun _=>rfl),(by show (77:Nat)<78; decide),?_⟩)
       ·intro x hx
        simp only[rowL,List.append_nil,List.mem_singleton] at hx
        subst hx
        exact ⟨7,_,rfl,rfl,rfl,.inr rfl,rfl⟩
       rintro ks3 bb3 vv3 ⟨hne3,r3,cap3,hv3,hl3,hm3,rfl,rfl,rfl⟩
       refine ⟨rfl,fun hnm3=> ?_⟩
       rw[outP_ne hne3]
       simp only[rowP,setbs,setb,lk,look_cons',unH_cons,unH_nil,unT_v,unT_p,Nat.reduceEqDiff,↓reduceIte,Blk.wn,Blk.nm,remK,remBs,hasC_nil,cond_false]
       refine runGraph trivial ?_
       exact leafK hK (r3,cap3) ⟨hv3,hl3,hm3⟩
  ·simp only[h0,if_false]
   obtain ⟨hv',hl',hm'⟩:=hrow h0
   have hne0:lineI r f ds i≠[]:=by
    obtain ⟨j,rfl⟩:∃j,i=j+1:=⟨i-1,by omega⟩
    obtain ⟨d1,hd1,-,-⟩:=drop_at (l:=ds) (k:=j) (by omega)
    obtain ⟨e1,he1,-,-⟩:=drop_at (l:=ds) (k:=j+1) (by omega)
    rw[lineI_succ hd1 he1]
    exact (segP_len _ _ _ _ _).2
   obtain ⟨out,hout⟩:∃out,lineI r f ds i=out:=⟨_,rfl⟩
   rw[hout] at hne0 hl' hseg hol0 ⊢
   have hol:out.length≤90000:=by omega
   rw[outP_ne hne0]
   refine runW hx ?_
   refine call (den_newLook L r f d hr hf hg) ?_
   refine run ?_
   refine call (den_vdt L r f d hr hf) ?_
   have hdu:=vdt_due_le r f d
   rw[hV] at hseg hdu ⊢
   by_cases hc6:w0.kind=6∧w0.due+1<e
   ·obtain ⟨hk6,hlt6⟩:=hc6
    rw[if_pos ⟨hk6,hlt6⟩] at hseg
    have hsucc:=hseg
    refine runB (And.intro hk6 (And.intro he (eq_true hlt6))) ?_
    have hadd1:=denV_add (T:=T) out v0 r' cap' d (w0.due+1) 6 (by omega) (fun _=>⟨hv',hl',hm'⟩)
    rw[outP_ne hne0,show rowOP out r' cap'=some (rowP out r' cap') from if_neg hne0] at hadd1
    refine callX (callV ⟨[(999000,7)],999050,77,_,_,_,_,hadd1,.cons (.v _) (.cons (.v _) (.cons (.v _) (.cons (.pn rfl rfl) .nil))),rfl,rfl,?_,(fun h=>nomatch h),(by show (77:Nat)<78; decide),?_⟩)
    ·intro x hx
     simp only[rowL,List.cons_append,List.nil_append,List.mem_cons,List.not_mem_nil,or_false] at hx
     rcases hx with rfl | rfl
     ·exact ⟨7,_,rfl,rfl,rfl,.inr rfl,rfl⟩
     ·exact ⟨77,_,rfl,rfl,rfl,.inr rfl,rfl⟩
    rintro ks1 bb1 vv1 ⟨hne1,r1,cap1,hv1,hl1,hm1,rfl,rfl,rfl⟩
    refine ⟨rfl,fun hnm1=> ?_⟩
    rw[outP_ne hne1]
    simp only[rowP,setbs,setb,lk,look_cons',unH_cons,unH_nil,unT_v,unT_p,unT_nil,Nat.reduceEqDiff,↓reduceIte,Blk.wn,Blk.nm,remK,remBs,hasC_nil,cond_false]
    obtain ⟨o1,ho1⟩:∃o1,addP out d (w0.due+1) 6=o1:=⟨_,rfl⟩
    have ho1l:o1.length≤100000:=by
     have:=(addP_len out d (w0.due+1) 6).1
     rw[ho1] at this
     have:=hol
     omega
    rw[ho1] at hne1 hl1 hsucc ⊢
    refine run ?_
    refine call (den_newLook L r f (w0.due+1) hr hf hg) ?_
    refine run ?_
    refine call (den_vdt L r f (w0.due+1) hr hf) ?_
    obtain ⟨w1,hV2⟩:∃w1,vdt r f (w0.due+1)=w1:=⟨_,rfl⟩
    rw[hV2] at hsucc ⊢
    refine runD trivial ?_
    refine aw_graph [⟨[ff,ff,ff,ff,ff,ff,ff,ff,ff,ff],10,.one 0 0⟩,⟨[tt,ff,ff,ff,ff,ff,ff,ff,ff,ff],9,.one 1 0⟩,⟨[tt,tt,ff,ff,ff,ff,ff,ff,ff,ff],8,.one 2 0⟩,⟨[tt,tt,tt,ff,ff,ff,ff,ff,ff,ff],7,.one 3 0⟩,⟨[tt,tt,tt,tt,ff,ff,ff,ff,ff,ff],6,.one 7 0⟩,⟨[tt,tt,tt,tt,ff,ff,ff,tt,ff,ff],5,.alt [(4,0),(8,1)]⟩,⟨[tt,tt,tt,tt,tt,ff,ff,tt,ff,ff],4,.alt [(5,1),(8,2)]⟩,⟨[tt,tt,tt,tt,ff,ff,ff,tt,tt,ff],4,.alt [(4,1)]⟩,⟨[tt,tt,tt,tt,tt,tt,ff,tt,ff,ff],3,.alt [(6,1),(8,2)]⟩,⟨[tt,tt,tt,tt,tt,ff,ff,tt,tt,ff],3,.alt [(5,1)]⟩,⟨[tt,tt,tt,tt,tt,tt,tt,tt,ff,ff],2,.alt [(8,1)]⟩,⟨[tt,tt,tt,tt,tt,tt,ff,tt,tt,ff],2,.alt [(6,0)]⟩,⟨[tt,tt,tt,tt,tt,tt,tt,tt,tt,ff],1,.alt [(9,0)]⟩,⟨[tt,tt,tt,tt,tt,tt,tt,tt,tt,tt],0,.fin⟩] ?_
    refine graph_to (fun z:Nat×Nat=>z.1≠v0∧(addP o1 (w0.due+1) e w1.kind).length≤z.2∧z.2≤maxLen) ⟨[3,4,7,8,9,27,28,29],[3,4,7,77],[],[]⟩ (fun z=>⟨78,[(3,.p 3 0),(4,.p 4 0),(7,.p 7 0),(8,.v (addV v0)),(9,.v (ints ds)),(27,.v (ints C)),(28,.v (vi C.length)),(29,.v (vi i))],[(3,.var r.cs),(4,.var f.cs),(7,.var [.val (.slice (some ⟨z.1,0,none⟩) (addP o1 (w0.due+1) e w1.kind).length z.2)] (some v0)),(77,rowP (addP o1 (w0.due+1) e w1.kind) z.1 z.2)],[]⟩) (fun st st' hk h=>aw_keep _ hk h) (fun z hz=> ?_) (fun K' hK=> ?_)
    ·refine run ?_
     refine roundV (i+1,z.1,z.2) ⟨hlt,fun _=>by rw[hsucc]; exact hz⟩ (by simp only; omega) ?_
     show keepS (if i+1=0 then _ else _) _=some (if i+1=0 then _ else _)
     rw[if_neg (Nat.succ_ne_zero i),if_neg (Nat.succ_ne_zero i),hsucc,outP_ne (addP_ne _ _ _ _)]
     rfl
    ·refine runGraph he ?_
     repeat' (with_reducible refine And.intro ?_ ?_)
     all_goals
      have hadd2:=denV_add (T:=T) o1 v0 r1 cap1 (w0.due+1) e w1.kind ho1l (fun _=>⟨hv1,hl1,hm1⟩)
      rw[outP_ne hne1,show rowOP o1 r1 cap1=some (rowP o1 r1 cap1) from if_neg hne1] at hadd2
      refine callX (callV ⟨[(999000,7)],999050,77,_,_,_,_,hadd2,.cons (.v _) (.cons (.v _) (.cons (.v _) (.cons (.pn rfl rfl) .nil))),rfl,rfl,?_,(fun h=>nomatch h),(by show (77:Nat)<78; decide),?_⟩)
      ·intro x hx
       simp only[rowL,List.cons_append,List.nil_append,List.mem_cons,List.not_mem_nil,or_false] at hx
       rcases hx with rfl | rfl
       ·exact ⟨7,_,rfl,rfl,rfl,.inr rfl,rfl⟩
       ·exact ⟨77,_,rfl,rfl,rfl,.inr rfl,rfl⟩
      rintro ks2 bb2 vv2 ⟨hne2,r2,cap2,hv2,hl2,hm2,rfl,rfl,rfl⟩
      refine ⟨rfl,fun hnm2=> ?_⟩
      rw[outP_ne hne2]
      simp only[rowP,setbs,setb,lk,look_cons',unH_cons,unH_nil,unT_v,unT_p,unT_nil,Nat.reduceEqDiff,↓reduceIte,Blk.wn,Blk.nm,remK,remBs,hasC_nil,cond_false]
      refine runGraph trivial ?_
      exact leafK hK (r2,cap2) ⟨hv2,hl2,hm2⟩
   ·rw[if_neg hc6] at hseg
    have hsucc:=hseg
    by_cases hk6:w0.kind=6
    ·have hlt6:¬w0.due+1<e:=fun h=>hc6 ⟨hk6,h⟩
     rw[hk6] at hsucc
     refine runD (And.intro hk6 (And.intro he (eq_false hlt6))) ?_
     refine aw_graph [⟨[ff,ff,ff,ff,ff,ff,ff,ff,ff,ff],10,.one 0 0⟩,⟨[tt,ff,ff,ff,ff,ff,ff,ff,ff,ff],9,.one 1 0⟩,⟨[tt,tt,ff,ff,ff,ff,ff,ff,ff,ff],8,.one 2 0⟩,⟨[tt,tt,tt,ff,ff,ff,ff,ff,ff,ff],7,.one 3 0⟩,⟨[tt,tt,tt,tt,ff,ff,ff,ff,ff,ff],6,.one 7 0⟩,⟨[tt,tt,tt,tt,ff,ff,ff,tt,ff,ff],5,.alt [(4,0),(8,1)]⟩,⟨[tt,tt,tt,tt,tt,ff,ff,tt,ff,ff],4,.alt [(5,1),(8,2)]⟩,⟨[tt,tt,tt,tt,ff,ff,ff,tt,tt,ff],4,.alt [(4,1)]⟩,⟨[tt,tt,tt,tt,tt,tt,ff,tt,ff,ff],3,.alt [(6,1),(8,2)]⟩,⟨[tt,tt,tt,tt,tt,ff,ff,tt,tt,ff],3,.alt [(5,1)]⟩,⟨[tt,tt,tt,tt,tt,tt,tt,tt,ff,ff],2,.alt [(8,1)]⟩,⟨[tt,tt,tt,tt,tt,tt,ff,tt,tt,ff],2,.alt [(6,0)]⟩,⟨[tt,tt,tt,tt,tt,tt,tt,tt,tt,ff],1,.alt [(9,0)]⟩,⟨[tt,tt,tt,tt,tt,tt,tt,tt,tt,tt],0,.fin⟩] ?_
     refine graph_to (fun z:Nat×Nat=>z.1≠v0∧(addP out d e 6).length≤z.2∧z.2≤maxLen) ⟨[3,4,7,8,9,27,28,29],[3,4,7,77],[],[]⟩ (fun z=>⟨78,[(3,.p 3 0),(4,.p 4 0),(7,.p 7 0),(8,.v (addV v0)),(9,.v (ints ds)),(27,.v (ints C)),(28,.v (vi C.length)),(29,.v (vi i))],[(3,.var r.cs),(4,.var f.cs),(7,.var [.val (.slice (some ⟨z.1,0,none⟩) (addP out d e 6).length z.2)] (some v0)),(77,rowP (addP out d e 6) z.1 z.2)],[]⟩) (fun st st' hk h=>aw_keep _ hk h) (fun z hz=> ?_) (fun K' hK=> ?_)
     ·refine run ?_
      refine roundV (i+1,z.1,z.2) ⟨hlt,fun _=>by rw[hsucc]; exact hz⟩ (by simp only; omega) ?_
      show keepS (if i+1=0 then _ else _) _=some (if i+1=0 then _ else _)
      rw[if_neg (Nat.succ_ne_zero i),if_neg (Nat.succ_ne_zero i),hsucc,outP_ne (addP_ne _ _ _ _)]
      rfl
     ·refine runGraph (And.intro he hk6) ?_
      repeat' (with_reducible refine And.intro ?_ ?_)
      all_goals
       have hadd3:=denV_add (T:=T) out v0 r' cap' d e 6 (by omega) (fun _=>⟨hv',hl',hm'⟩)
       rw[outP_ne hne0,show rowOP out r' cap'=some (rowP out r' cap') from if_neg hne0] at hadd3
       refine callX (callV ⟨[(999000,7)],999050,77,_,_,_,_,hadd3,.cons (.v _) (.cons (.v _) (.cons (.v _) (.cons (.pn rfl rfl) .nil))),rfl,rfl,?_,(fun h=>nomatch h),(by show (77:Nat)<78; decide),?_⟩)
       ·intro x hx
        simp only[rowL,List.cons_append,List.nil_append,List.mem_cons,List.not_mem_nil,or_false] at hx
        rcases hx with rfl | rfl
        ·exact ⟨7,_,rfl,rfl,rfl,.inr rfl,rfl⟩
        ·exact ⟨77,_,rfl,rfl,rfl,.inr rfl,rfl⟩
       rintro ks3 bb3 vv3 ⟨hne3,r3,cap3,hv3,hl3,hm3,rfl,rfl,rfl⟩
       refine ⟨rfl,fun hnm3=> ?_⟩
       rw[outP_ne hne3]
       simp only[rowP,setbs,setb,lk,look_cons',unH_cons,unH_nil,unT_v,unT_p,unT_nil,Nat.reduceEqDiff,↓reduceIte,Blk.wn,Blk.nm,remK,remBs,hasC_nil,cond_false]
       refine runGraph trivial ?_
       exact leafK hK (r3,cap3) ⟨hv3,hl3,hm3⟩
    ·refine runD (And.intro (eq_false hk6) he) ?_
     refine aw_graph [⟨[ff,ff,ff,ff,ff,ff,ff,ff,ff,ff],10,.one 0 0⟩,⟨[tt,ff,ff,ff,ff,ff,ff,ff,ff,ff],9,.one 1 0⟩,⟨[tt,tt,ff,ff,ff,ff,ff,ff,ff,ff],8,.one 2 0⟩,⟨[tt,tt,tt,ff,ff,ff,ff,ff,ff,ff],7,.one 3 0⟩,⟨[tt,tt,tt,tt,ff,ff,ff,ff,ff,ff],6,.one 7 0⟩,⟨[tt,tt,tt,tt,ff,ff,ff,tt,ff,ff],5,.alt [(4,0),(8,1)]⟩,⟨[tt,tt,tt,tt,tt,ff,ff,tt,ff,ff],4,.alt [(5,1),(8,2)]⟩,⟨[tt,tt,tt,tt,ff,ff,ff,tt,tt,ff],4,.alt [(4,1)]⟩,⟨[tt,tt,tt,tt,tt,tt,ff,tt,ff,ff],3,.alt [(6,1),(8,2)]⟩,⟨[tt,tt,tt,tt,tt,ff,ff,tt,tt,ff],3,.alt [(5,1)]⟩,⟨[tt,tt,tt,tt,tt,tt,tt,tt,ff,ff],2,.alt [(8,1)]⟩,⟨[tt,tt,tt,tt,tt,tt,ff,tt,tt,ff],2,.alt [(6,0)]⟩,⟨[tt,tt,tt,tt,tt,tt,tt,tt,tt,ff],1,.alt [(9,0)]⟩,⟨[tt,tt,tt,tt,tt,tt,tt,tt,tt,tt],0,.fin⟩] ?_
     refine graph_to (fun z:Nat×Nat=>z.1≠v0∧(addP out d e w0.kind).length≤z.2∧z.2≤maxLen) ⟨[3,4,7,8,9,27,28,29],[3,4,7,77],[],[]⟩ (fun z=>⟨78,[(3,.p 3 0),(4,.p 4 0),(7,.p 7 0),(8,.v (addV v0)),(9,.v (ints ds)),(27,.v (ints C)),(28,.v (vi C.length)),(29,.v (vi i))],[(3,.var r.cs),(4,.var f.cs),(7,.var [.val (.slice (some ⟨z.1,0,none⟩) (addP out d e w0.kind).length z.2)] (some v0)),(77,rowP (addP out d e w0.kind) z.1 z.2)],[]⟩) (fun st st' hk h=>aw_keep _ hk h) (fun z hz=> ?_) (fun K' hK=> ?_)
     ·refine run ?_
      refine roundV (i+1,z.1,z.2) ⟨hlt,fun _=>by rw[hsucc]; exact hz⟩ (by simp only; omega) ?_
      show keepS (if i+1=0 then _ else _) _=some (if i+1=0 then _ else _)
      rw[if_neg (Nat.succ_ne_zero i),if_neg (Nat.succ_ne_zero i),hsucc,outP_ne (addP_ne _ _ _ _)]
      rfl
     ·refine runGraph he ?_
      repeat' (with_reducible refine And.intro ?_ ?_)
      all_goals
       have hadd3:=denV_add (T:=T) out v0 r' cap' d e w0.kind (by omega) (fun _=>⟨hv',hl',hm'⟩)
       rw[outP_ne hne0,show rowOP out r' cap'=some (rowP out r' cap') from if_neg hne0] at hadd3
       refine callX (callV ⟨[(999000,7)],999050,77,_,_,_,_,hadd3,.cons (.v _) (.cons (.v _) (.cons (.v _) (.cons (.pn rfl rfl) .nil))),rfl,rfl,?_,(fun h=>nomatch h),(by show (77:Nat)<78; decide),?_⟩)
       ·intro x hx
        simp only[rowL,List.cons_append,List.nil_append,List.mem_cons,List.not_mem_nil,or_false] at hx
        rcases hx with rfl | rfl
        ·exact ⟨7,_,rfl,rfl,rfl,.inr rfl,rfl⟩
        ·exact ⟨77,_,rfl,rfl,rfl,.inr rfl,rfl⟩
       rintro ks3 bb3 vv3 ⟨hne3,r3,cap3,hv3,hl3,hm3,rfl,rfl,rfl⟩
       refine ⟨rfl,fun hnm3=> ?_⟩
       rw[outP_ne hne3]
       simp only[rowP,setbs,setb,lk,look_cons',unH_cons,unH_nil,unT_v,unT_p,Nat.reduceEqDiff,↓reduceIte,Blk.wn,Blk.nm,remK,remBs,hasC_nil,cond_false]
       refine runGraph trivial ?_
       exact leafK hK (r3,cap3) ⟨hv3,hl3,hm3⟩
 ·have hin:i=C.length:=by omega
  subst hin
  have h0:¬C.length=0:=by omega
  simp only[h0,if_false]
  obtain ⟨hv',hl',hm'⟩:=hrow h0
  have hne0:lineI r f ds C.length≠[]:=by
   obtain ⟨j,hj⟩:∃j,C.length=j+1:=⟨C.length-1,by omega⟩
   obtain ⟨d1,hd1,-,-⟩:=drop_at (l:=ds) (k:=j) (by omega)
   obtain ⟨e1,he1,-,-⟩:=drop_at (l:=ds) (k:=j+1) (by omega)
   rw[hj,lineI_succ hd1 he1]
   exact (segP_len _ _ _ _ _).2
  obtain ⟨out,hout⟩:∃out,lineI r f ds C.length=out:=⟨_,rfl⟩
  rw[hout] at hne0 hl' ⊢
  rw[outP_ne hne0]
  refine run ?_
  refine finFr (id:=77) (r:=r') (n:=out.length) (cap:=cap') (e:=101) (size:=3) (cs:=(out.map pceC).flatten) ?_ hl' (by rw[flat_len]; omega) ?_
  ·rw[chunk_pces]
   exact .refl _
  ·simp[findN,findK,Blk.nm,nmOf,look_cons',rowP,hv']
end Go.Arc
set_option maxRecDepth 100000
namespace Go.Arc
open Go.Ab Go.RowKit Go.Proofs
variable {T : Lay}
def lineE (r:Rgs) (id a b:Int):Int:=if askE r id≠0 then askE r id else if a<0∨b≤a∨1048576<b then 2 else 0
def lineG (r:Rgs) (id a b:Int):List Pce:=if lineE r id a b=0 then lineS r (filA r id) a b else []
theorem wk_nilP (e:Int):Wk (.tup [.val (.slice none 0 0),vi e]) (.tup [pces [],vi e]):=wk_tups (.cons (.nil 3) (.cons (.refl _) .nil))
theorem den_LineG (L:LibC T) (r:Rgs) (h:r.Fit) (id a b:Int):Den Tryz.prog T 26 [.agg r.cs,vi id,span a b] (.tup [pces (lineG r id a b),vi (lineE r id a b)]):=by
 refine den_of_body follows (fun args w=>Tryz.call26 args w) Tryz.func26 rfl 38 rfl ?_
 refine run ?_
 refine call (den_find11 L r h id) ?_
 unfold lineG
 by_cases h0:askE r id=0
 ·rw[if_pos h0]
  obtain ⟨h1,h2⟩:=ask_ok h0
  have hok:=okG_of h1
  obtain ⟨k,-,-,-,hm,-⟩:=find_fil h2
  by_cases g1:a<0
  ·have he:lineE r id a b=2:=by unfold lineE; rw[if_neg (fun e=>e h0),if_pos (.inl g1)]
   rw[he,if_neg (by decide)]
   refine runW (eq_true g1) ?_
   exact finW (wk_nilP 2)
  by_cases g2:b≤a
  ·have he:lineE r id a b=2:=by unfold lineE; rw[if_neg (fun e=>e h0),if_pos (.inr (.inl g2))]
   rw[he,if_neg (by decide)]
   refine runW (And.intro (eq_false g1) (eq_true g2)) ?_
   exact finW (wk_nilP 2)
  by_cases g3:1048576<b
  ·have he:lineE r id a b=2:=by unfold lineE; rw[if_neg (fun e=>e h0),if_pos (.inr (.inr g3))]
   rw[he,if_neg (by decide)]
   refine runW (And.intro (eq_false g1) (And.intro (eq_false g2) (eq_true g3))) ?_
   exact finW (wk_nilP 2)
  have he:lineE r id a b=0:=by
   unfold lineE
   rw[if_neg (fun e=>e h0),if_neg]
   rintro (e | e | e)
   ·exact g1 e
   ·exact g2 e
   ·exact g3 e
  rw[he,if_pos rfl]
  refine runW (And.intro (eq_false g1) (And.intro (eq_false g2) (eq_false g3))) ?_
  refine call (den_line L r (filA r id) a b h hok hm (by omega)) ?_
  refine run ?_
  exact fin rfl
 ·have he:lineE r id a b=askE r id:=by unfold lineE; rw[if_pos h0]
  rw[if_neg h0,he,if_neg h0]
  refine runW h0 ?_
  exact finW (wk_nilP _)
theorem den_eqP (l:List Pce) (hl:l.length≤1048576):Den Tryz.prog T 42 [pces l,pces l] (vb true):=by
 refine den_of_body follows (fun args w=>Tryz.call42 args w) Tryz.func42 rfl 26 rfl ?_
 refine run ?_
 refine loop ⟨[0,1,12,13],[],[],[]⟩ (fun k:Nat=>k≤l.length) (fun k=>l.length-k)
  (fun k=>⟨26,[(0,.v (pces l)),(1,.v (pces l)),(12,.v (vi l.length)),(13,.v (vi k))],[],[]⟩) 0 (Nat.zero_le _) ?_
 intro k hk
 by_cases hlt:k<l.length
 ·obtain ⟨x,hx,-,-⟩:=drop_at hlt
  refine runW hx ?_
  exact round (k+1) hlt (by omega)
 ·refine run ?_
  exact fin rfl
inductive WkR (size:Nat):List (List V)→List (List V)→Prop
 | nil:WkR size [] []
 | cons {a b:List V} {l m:List (List V)} (h:Wks a b) (hs:b.length=size) (ho:(b.all fun v=>v.one)=true) (t:WkR size l m):WkR size (a::l) (b::m)
theorem WkR.wk {size:Nat} {l m:List (List V)} (h:WkR size l m):Wk (.slice size l) (.slice size m):=by
  have hl:l.length=m.length:=by induction h with | nil=>rfl | cons _ _ _ _ ih=>simp[ih]
  refine Wk.slice hl (fun e he=> ?_) (fun e he c hc=> ?_) ?_
  · clear hl
    induction h with
    | nil=>cases he
    | cons _ hs _ _ ih => rcases List.mem_cons.1 he with rfl | he; · exact hs
                          · exact ih he
  · clear hl
    induction h with
    | nil=>cases he
    | cons _ _ ho _ ih => rcases List.mem_cons.1 he with rfl | he; · exact List.all_eq_true.1 ho c hc
                          · exact ih he
  · clear hl
    induction h with
    | nil=>intro i j e u v c h1; simp at h1
    | cons hw _ _ _ ih=>
      intro i j e u v c h1 h2 h3 h4
      cases i with
      | zero=>
        simp only[List.getElem?_cons_zero,Option.some.injEq] at h1 h2
        subst h1 h2
        obtain ⟨v',q1,q2⟩:=hw.get h4
        rw[h3] at q1
        cases q1
        exact q2
      | succ i=>exact ih i j e u v c (by simpa using h1) (by simpa using h2) h3 h4
def exG:Rgs:=⟨[⟨1,[65],0,1048576,[]⟩],[⟨1,0,1048576,[⟨[49],[84]⟩,⟨[49,46,49],[84]⟩],[]⟩],[⟨7,1,5,10,[49,46,49],[84],0,[]⟩],[⟨3,[49],[99,108,111,115,101,100],0,false,1,0,1048576⟩],[⟨2,1,7,[],[82],12,20⟩],[],[],[],[],[],[],0⟩
theorem exG_fit:exG.Fit:=by
 refine ⟨⟨by decide,fun o ho=> ?_⟩,⟨by decide,fun p hp=> ?_⟩,⟨by decide,fun f hf=> ?_⟩,⟨by decide,fun q hq=> ?_⟩,⟨by decide,fun q hq=> ?_⟩,⟨by decide,fun q hq=>(by cases hq)⟩,⟨by decide,fun q hq=>(by cases hq)⟩,⟨by decide,fun q hq=>(by cases hq)⟩,by decide,⟨by decide,fun q hq=>(by cases hq)⟩,by decide⟩
 ·simp only[exG,List.mem_cons,List.not_mem_nil,or_false] at ho
  subst ho
  exact ⟨by decide,by decide⟩
 ·simp only[exG,List.mem_cons,List.not_mem_nil,or_false] at hp
  subst hp
  refine ⟨by decide,by decide,fun c hc=> ?_,fun c hc=>(by cases hc)⟩
  simp only[List.mem_cons,List.not_mem_nil,or_false] at hc
  rcases hc with rfl | rfl <;> exact ⟨by decide,by decide⟩
 ·simp only[exG,List.mem_cons,List.not_mem_nil,or_false] at hf
  subst hf
  exact ⟨by decide,by decide,by decide,fun n hn=>(by cases hn)⟩
 ·simp only[exG,List.mem_cons,List.not_mem_nil,or_false] at hq
  subst hq
  exact ⟨by decide,by decide⟩
 ·simp only[exG,List.mem_cons,List.not_mem_nil,or_false] at hq
  subst hq
  exact ⟨by decide,by decide⟩
theorem den_example11:Den Tryz.prog T 41 [] (.agg exG.cs):=by
 refine den_of_body follows (fun args w=>Tryz.call41 args w) Tryz.func41 rfl 21 rfl ?_
 refine run ?_
 refine finW (wk_aggs ?_ rfl)
 refine .cons (WkR.wk (.cons ?_ rfl rfl .nil)) (.cons (WkR.wk (.cons ?_ rfl rfl .nil)) (.cons (WkR.wk (.cons ?_ rfl rfl .nil)) (.cons (.refl _) (.cons (.refl _) ?_))))
 all_goals repeat (first | exact .nil | refine .cons (.refl _) ?_ | refine .cons (.nil _) ?_)
def exG7:Fil:=⟨7,1,5,10,[49,46,49],[84],0,[]⟩
def exX:List Pce:=[⟨0,5,0⟩,⟨5,10,3⟩,⟨10,11,6⟩,⟨11,12,8⟩,⟨12,20,7⟩,⟨20,30,8⟩]
theorem kd_range {a n:Nat} {v:Int} (h:((List.range n).all fun i=>decide (kdF exG exG7 ((a+i:Nat):Int)=v))=true) {d:Int} (h1:(a:Int)≤d) (h2:d<(a+n:Nat)):kdF exG exG7 d=v:=by
 have:=List.all_eq_true.1 h (d.toNat-a) (by rw[List.mem_range]; omega)
 have h3:=of_decide_eq_true this
 rw[show ((a+(d.toNat-a):Nat):Int)=d by omega] at h3
 exact h3
theorem exX_runs:Runs (kdF exG exG7) 30 0 exX:=by
 refine ⟨rfl,by decide,fun d h1 h2=>kd_range (a:=0) (n:=5) (by decide +kernel) h1 h2,fun q hq=> ?_,rfl,by decide,fun d h1 h2=>kd_range (a:=5) (n:=5) (by decide +kernel) h1 h2,fun q hq=> ?_,rfl,by decide,fun d h1 h2=>kd_range (a:=10) (n:=1) (by decide +kernel) h1 h2,fun q hq=> ?_,rfl,by decide,fun d h1 h2=>kd_range (a:=11) (n:=1) (by decide +kernel) h1 h2,fun q hq=> ?_,rfl,by decide,fun d h1 h2=>kd_range (a:=12) (n:=8) (by decide +kernel) h1 h2,fun q hq=> ?_,rfl,by decide,fun d h1 h2=>kd_range (a:=20) (n:=10) (by decide +kernel) h1 h2,fun q hq=> ?_,rfl⟩
 all_goals first | (cases hq; decide) | cases hq
theorem ex_check:checkG exG=0:=by decide +kernel
theorem ex_ask:askE exG 7=0:=by decide +kernel
theorem ex_fil:filA exG 7=exG7:=rfl
theorem ex_lineE:lineE exG 7 0 30=0:=by unfold lineE; rw[ex_ask]; decide
theorem ex_line:lineG exG 7 0 30=exX:=by
 unfold lineG
 rw[ex_lineE,if_pos rfl,ex_fil]
 exact (line_runs exG exG7 (by decide)).unique exX_runs
theorem ex_onE:onE exG 7 15=0:=by unfold onE; rw[ex_ask]; decide
theorem ex_on:onV exG 7 15=⟨7,7,15,3,10,[2]⟩:=by
 unfold onV
 rw[ex_onE,if_pos rfl,ex_fil]
 have h1:(vdt exG exG7 15).kind=7:=by decide +kernel
 have h2:(vdt exG exG7 15).fil=7:=by decide +kernel
 have h3:(vdt exG exG7 15).day=15:=by decide +kernel
 have h4:(vdt exG exG7 15).rule=3:=by decide +kernel
 have h5:(vdt exG exG7 15).due=10:=by decide +kernel
 have h6:(vdt exG exG7 15).hls=[2]:=by decide +kernel
 cases hv:vdt exG exG7 15
 rw[hv] at h1 h2 h3 h4 h5 h6
 simp only at h1 h2 h3 h4 h5 h6
 rw[h1,h2,h3,h4,h5,h6]
set_option maxHeartbeats 2000000 in
theorem den_awake11 (L:LibC T):Den Tryz.prog T 10 [] (vb true):=by
 have c0:=den_example11 (T:=T)
 have c1:Den Tryz.prog T 26 [.agg exG.cs,vi 7,span 0 30] (.tup [pces exX,vi 0]):=by
  have:=den_LineG (T:=T) L exG exG_fit 7 0 30
  rwa [ex_lineE,ex_line] at this
 have c2:Den Tryz.prog T 14 [.agg exG.cs,vi 7,vi 15] (.tup [.agg (Vdt.cs ⟨7,7,15,3,10,[2]⟩),vi 0]):=by
  have:=den_On (T:=T) L exG exG_fit 7 15
  rwa [ex_onE,ex_on] at this
 have c3:Den Tryz.prog T 12 [.agg exG.cs] (vi 0):=by
  have:=den_CheckG (T:=T) L exG exG_fit
  rwa [ex_check] at this
 have c4:Den Tryz.prog T 42 [pces exX,.slice 3 [[vi 0,vi 5,vi 0],[vi 5,vi 10,vi 3],[vi 10,vi 11,vi 6],[vi 11,vi 12,vi 8],[vi 12,vi 20,vi 7],[vi 20,vi 30,vi 8]]] (vb true):=den_eqP (T:=T) exX (by decide)
 have c5:Den Tryz.prog T 43 [.slice 1 [[vi 2]],.slice 1 [[vi 2]]] (vb true):=den_eqInts (T:=T) [2] [2] (by decide)
 obtain ⟨r,hr⟩:∃r,exG=r:=⟨_,rfl⟩
 obtain ⟨X,hX⟩:∃X,pces exX=X:=⟨_,rfl⟩
 rw[hr] at c0 c1 c2 c3
 rw[hX] at c1 c4
 clear hr hX
 refine den_of_body follows (fun args w=>Tryz.call10 args w) Tryz.func10 rfl 67 rfl ?_
 refine run ?_
 refine call c0 ?_
 refine run ?_
 refine call c1 ?_
 refine run ?_
 refine call c2 ?_
 refine run ?_
 refine call c3 ?_
 refine run ?_
 refine call c4 ?_
 refine run ?_
 refine call c5 ?_
 refine run ?_
 exact fin rfl
end Go.Arc
set_option maxRecDepth 100000
namespace Go.Arc
open Go.Ab Go.RowKit Go.Proofs
variable {T : Lay}
def manyS (l:List Sel):Bool:=l.any fun s=>decide (12<s.fls.length)
def manyC (l:List Crt):Bool:=l.any fun s=>decide (12<s.fls.length)
def fewG0 (r:Rgs):Bool:=fewO r.ofs && few r.pls && fewF r.fls && fewR r.rls && fewH r.hls && !decide (8<r.sls.length) && !decide (8<r.crs.length) && !decide (8<r.dps.length)
def fewG (r:Rgs):Bool:=fewG0 r && !manyS r.sls && !manyC r.crs
theorem den_FewG (r:Rgs) (h:r.Fit):Den Tryz.prog T 11 [.agg r.cs] (vb (fewG r)):=by
 have hs:=h.sls.1
 have hc:=h.crs.1
 have hd:=h.dps
 refine den_of_body follows (fun args w=>Tryz.call11 args w) Tryz.func11 rfl 81 rfl ?_
 unfold fewG fewG0
 refine run ?_
 refine call (den_FewO r.ofs h.ofs) ?_
 cases e1:fewO r.ofs
 ·refine run ?_
  exact fin rfl
 refine run ?_
 refine call (den_Few r.pls h.pls) ?_
 cases e2:few r.pls
 ·refine run ?_
  exact fin rfl
 refine run ?_
 refine call (den_FewF r.fls h.fls) ?_
 cases e3:fewF r.fls
 ·refine run ?_
  exact fin rfl
 refine run ?_
 refine call (den_FewR r.rls h.rls) ?_
 cases e4:fewR r.rls
 ·refine run ?_
  exact fin rfl
 refine run ?_
 refine call (den_FewH r.hls h.hls) ?_
 cases e5:fewH r.hls
 ·refine run ?_
  exact fin rfl
 by_cases g1:8<r.sls.length
 ·rw[decide_eq_true g1]
  refine runW (eq_true g1) ?_
  exact fin rfl
 by_cases g2:8<r.crs.length
 ·rw[decide_eq_true g2,decide_eq_false g1]
  refine runW (And.intro (eq_false g1) (eq_true g2)) ?_
  exact fin rfl
 by_cases g3:8<r.dps.length
 ·rw[decide_eq_true g3,decide_eq_false g2,decide_eq_false g1]
  refine runW (And.intro (eq_false g1) (And.intro (eq_false g2) (eq_true g3))) ?_
  exact fin rfl
 rw[decide_eq_false g3,decide_eq_false g2,decide_eq_false g1]
 refine runW (And.intro (eq_false g1) (And.intro (eq_false g2) (eq_false g3))) ?_
 refine loop ⟨[1,3],[1],[],[]⟩ (fun k:Nat=>k≤r.sls.length∧∀s∈r.sls.take k,decide (12<s.fls.length)=false) (fun k=>r.sls.length-k)
  (fun k=>⟨81,[(1,.p 1 0),(3,.v (vi k))],[(1,.var r.cs)],[]⟩) 0 ⟨Nat.zero_le _,by simp⟩ ?_
 rintro k ⟨hk,hall⟩
 by_cases hlt:k<r.sls.length
 ·obtain ⟨x,hx,-,hm⟩:=drop_at hlt
  have hxf:=h.sls.2 x hm
  by_cases hb:12<x.fls.length
  ·have hmany:manyS r.sls=true:=List.any_eq_true.2 ⟨x,hm,decide_eq_true hb⟩
   rw[hmany]
   refine runW (And.intro hx (eq_true hb)) ?_
   exact fin rfl
  ·refine runW (And.intro hx (eq_false hb)) ?_
   exact round (k+1) ⟨hlt,take_snoc hall hx (decide_eq_false hb)⟩ (by omega)
 have hms:manyS r.sls=false:=List.any_eq_false.2 fun x hx=>by rw[take_all hall hlt x hx]; decide
 rw[hms]
 clear hall
 refine run ?_
 refine loop ⟨[1,4],[1],[],[]⟩ (fun k:Nat=>k≤r.crs.length∧∀s∈r.crs.take k,decide (12<s.fls.length)=false) (fun k=>r.crs.length-k)
  (fun k=>⟨81,[(1,.p 1 0),(4,.v (vi k))],[(1,.var r.cs)],[]⟩) 0 ⟨Nat.zero_le _,by simp⟩ ?_
 rintro j ⟨hj,hall⟩
 by_cases hjl:j<r.crs.length
 ·obtain ⟨x,hx,-,hm⟩:=drop_at hjl
  have hxf:=(h.crs.2 x hm).1
  by_cases hb:12<x.fls.length
  ·have hmany:manyC r.crs=true:=List.any_eq_true.2 ⟨x,hm,decide_eq_true hb⟩
   rw[hmany]
   refine runW (And.intro hx (eq_true hb)) ?_
   exact fin rfl
  ·refine runW (And.intro hx (eq_false hb)) ?_
   exact round (j+1) ⟨hjl,take_snoc hall hx (decide_eq_false hb)⟩ (by omega)
 have hmc:manyC r.crs=false:=List.any_eq_false.2 fun x hx=>by rw[take_all hall hjl x hx]; decide
 rw[hmc]
 refine run ?_
 exact fin rfl
end Go.Arc
set_option maxRecDepth 100000
namespace Go.Arc
open Go.Ab Go.RowKit Go.Proofs
variable {T : Lay}
theorem dayG_le {d:Int} (h:dayG d=true):d≤1048575:=by
 unfold dayG at h
 rw[Bool.and_eq_true,decide_eq_true_eq,decide_eq_true_eq] at h
 exact h.2
theorem den_asks (L:LibC T) (r:Rgs) (h:r.Fit) (id:Int):Den Tryz.prog T 87 [.agg r.cs,vi id] (if askE r id=0 then .tup [vi (findF r.fls id),vi 0] else .tup [vi 0,vi (askE r id)]):=by
 have hf:=h.fls.1
 refine den_of_body follows (fun args w=>Tryz.call87 args w) Tryz.func87 rfl 17 rfl ?_
 refine run ?_
 refine call (den_CheckGRef L r h) ?_
 by_cases h1:checkG r=0
 ·refine runW h1 ?_
  refine call (den_FindFRef r.fls id hf) ?_
  by_cases h2:findF r.fls id<0
  ·rw[askE_7 h1 h2,if_neg (by decide)]
   refine runW (eq_true h2) ?_
   exact fin rfl
  ·rw[askE_0 h1 h2,if_pos rfl]
   refine runW (eq_false h2) ?_
   exact fin rfl
 ·rw[askE_1 h1,if_neg (by decide)]
  refine runW h1 ?_
  exact fin rfl
end Go.Arc
set_option maxRecDepth 100000
namespace Go.Arc
open Go.Ab Go.RowKit Go.Proofs
variable {T : Lay}
theorem takeB_all {α:Type} {l:List α} {k:Nat} (hk:k≤l.length) (h:¬k<l.length):l.take k=l:=List.take_of_length_le (by omega)
theorem aw_meet {P:Program} {α:Type} {G:Prop} {c:Code} {Q:AX→St→Prop} (k:Kp) (φ:α→Prop) (S:α→St) (h:(∀st x,φ x→keepS k st=some (S x)→aw P T c st Q)→G) (h2:∀x,φ x→aw P T c (S x) Q):G:=h fun _ x hx hk=>aw_keep k hk (h2 x hx)
end Go.Arc
namespace Go.Arc
open Go.Ab Go.RowKit Go.Proofs
variable {T : Lay}
theorem twoL_nil {α:Type} (u v:α→Int):twoL u v []=[]:=rfl
theorem twoL_snoc {α:Type} (pre:List Int) (u v:α→Int) {l:List α} {k:Nat} {x:α} (h:l[k]? = some x):pre++twoL u v (l.take (k+1))=(pre++twoL u v (l.take k))++[u x,v x]:=by
 obtain ⟨hlt,rfl⟩:=List.getElem?_eq_some_iff.1 h
 unfold twoL
 rw[List.take_succ_eq_append_getElem hlt,List.map_append,List.flatten_append,List.append_assoc]
 rfl
theorem twoL_len {α:Type} (pre:List Int) (u v:α→Int) (l:List α) (k:Nat):(pre++twoL u v (l.take k)).length≤pre.length+2*l.length:=by
 unfold twoL
 rw[List.length_append,flat2,List.length_take]
 omega
theorem map_snocA {α:Type} (pre:List Int) (u:α→Int) {l:List α} {k:Nat} {x:α} (h:l[k]? = some x):pre++(l.take (k+1)).map u=(pre++(l.take k).map u)++[u x]:=by
 obtain ⟨hlt,rfl⟩:=List.getElem?_eq_some_iff.1 h
 rw[List.take_succ_eq_append_getElem hlt,List.map_append,List.append_assoc]
 rfl
theorem ruleA_snoc (pre:List Int) (t:List (Int×Int)) {l:List Rul} {k:Nat} {x:Rul} (h:l[k]? = some x):pre++((l.take (k+1)).map fun q=>ruleA q t).flatten=(pre++((l.take k).map fun q=>ruleA q t).flatten)++ruleA x t:=by
 obtain ⟨hlt,rfl⟩:=List.getElem?_eq_some_iff.1 h
 rw[List.take_succ_eq_append_getElem hlt,List.map_append,List.flatten_append,List.append_assoc]
 simp
theorem dueA_snoc (q:Rul) {t:List (Int×Int)} {j:Nat} {y:Int×Int} (h:t[j]? = some y):dueA q (t.take (j+1))=dueA q (t.take j)++(match dueR q y.1 y.2 with | some z=>[z+1] | none=>[]):=by
 obtain ⟨hlt,rfl⟩:=List.getElem?_eq_some_iff.1 h
 unfold dueA
 rw[List.take_succ_eq_append_getElem hlt,List.filterMap_append]
 congr 1
 cases e:dueR q t[j].1 t[j].2 <;> simp[e]
theorem dueR_le {q:Rul} {a b z:Int} (h:dueR q a b=some z):0≤z∧z≤1048575:=by
 unfold dueR at h
 split at h
 ·cases h
  have h1:=yearsN_le b.toNat q.yrs.toNat
  have h2:=yearEndN_le (yearsN b.toNat q.yrs.toNat)
  split <;> omega
 ·cases h
theorem dueA_len (q:Rul) (t:List (Int×Int)):(dueA q t).length≤t.length:=List.length_filterMap_le _ _
theorem ruleA_len (t:List (Int×Int)):∀l:List Rul,((l.map fun q=>ruleA q t).flatten).length≤l.length*(t.length+2)
 | []=>Nat.zero_le _
 | q::l=>by
  have h1:=ruleA_len t l
  have h2:=dueA_len q t
  rw[List.map_cons,List.flatten_cons,List.length_append,List.length_cons,Nat.succ_mul]
  show ([q.frm,q.til]++dueA q t).length+_≤_
  rw[List.length_append]
  show 2+(dueA q t).length+_≤_
  omega
theorem OkG.bnds {r:Rgs} {f:Fil} (hok:OkG r) (hfm:f∈r.fls):r.ofs.length≤32∧r.pls.length≤16∧r.rls.length≤64∧r.hls.length≤64∧r.sls.length≤1024∧f.nts.length≤16:=by
 have b1:r.ofs.length≤32:=by have:=(chk_zero hok.ofs).1; omega
 have b4:r.rls.length≤64:=by have:=(chk_zero hok.rls).1; omega
 have b5:r.hls.length≤64:=by have:=(chk_zero hok.hls).1; omega
 have b2:r.pls.length≤16:=by
  have:=hok.pls
  unfold check at this
  split at this
  ·cases this
  ·omega
 have b6:r.sls.length≤1024:=by have:=(listE_ok' hok.sls); unfold selE at this; rw[List.length_map] at this; exact this
 have b9:f.nts.length≤16:=by
  obtain ⟨i,hi⟩:=List.getElem?_of_mem hfm
  have hlt:=(List.getElem?_eq_some_iff.1 hi).1
  have hz:=hok.fls
  unfold checkF at hz
  split at hz
  ·cases hz
  have h0:=(chk_zero hz).2 i hlt
  obtain ⟨-,-,-,-,-,hn⟩:=faultF_zero hi h0
  have:=(notesErr_zero hn).1
  omega
 exact ⟨b1,b2,b4,b5,b6,b9⟩
theorem endsL_len {r:Rgs} {f:Fil} (hok:OkG r) (hfm:f∈r.fls):(endsL r f).length≤17592186044416:=by
 obtain ⟨b1,b2,b4,b5,b6,b9⟩:=hok.bnds hfm
 have h1:=ruleA_len (trigL f) r.rls
 have h2:(trigL f).length≤18:=by unfold trigL; rw[List.length_append,List.length_map]; show 2+_≤_; omega
 have h3:=Nat.mul_le_mul b4 (show (trigL f).length+2≤20 by omega)
 have h4:(goneL (goneF r f)).length≤1:=by unfold goneL; split <;> simp
 unfold endsL ends0 twoL
 simp only[List.length_append,List.length_map,flat2,List.length_cons,List.length_nil]
 omega
abbrev gr5:List Gent:=[⟨[ff,ff,ff,ff,ff,ff,ff,ff,ff,ff,ff,ff,ff,ff,ff,ff,ff,ff],18,.one 0 0⟩,⟨[tt,ff,ff,ff,ff,ff,ff,ff,ff,ff,ff,ff,ff,ff,ff,ff,ff,ff],17,.one 1 0⟩,⟨[tt,tt,ff,ff,ff,ff,ff,ff,ff,ff,ff,ff,ff,ff,ff,ff,ff,ff],16,.one 3 0⟩,⟨[tt,tt,ff,tt,ff,ff,ff,ff,ff,ff,ff,ff,ff,ff,ff,ff,ff,ff],15,.one 8 0⟩,⟨[tt,tt,ff,tt,ff,ff,ff,ff,tt,ff,ff,ff,ff,ff,ff,ff,ff,ff],14,.one 10 0⟩,⟨[tt,tt,ff,tt,ff,ff,ff,ff,tt,ff,tt,ff,ff,ff,ff,ff,ff,ff],13,.alt [(2,0),(9,1)]⟩,⟨[tt,tt,tt,tt,ff,ff,ff,ff,tt,ff,tt,ff,ff,ff,ff,ff,ff,ff],12,.alt [(4,3),(9,1)]⟩,⟨[tt,tt,ff,tt,ff,ff,ff,ff,tt,tt,tt,ff,ff,ff,ff,ff,ff,ff],12,.alt [(2,0),(11,1)]⟩,⟨[tt,tt,tt,tt,ff,ff,ff,ff,tt,tt,tt,ff,ff,ff,ff,ff,ff,ff],11,.alt [(4,4),(11,5)]⟩,⟨[tt,tt,ff,tt,ff,ff,ff,ff,tt,tt,tt,tt,ff,ff,ff,ff,ff,ff],11,.one 12 1⟩,⟨[tt,tt,tt,tt,tt,ff,ff,ff,tt,ff,tt,ff,ff,ff,ff,ff,ff,ff],11,.one 5 1⟩,⟨[tt,tt,ff,tt,ff,ff,ff,ff,tt,tt,tt,tt,tt,ff,ff,ff,ff,ff],10,.one 13 6⟩,⟨[tt,tt,tt,tt,tt,tt,ff,ff,tt,ff,tt,ff,ff,ff,ff,ff,ff,ff],10,.one 6 3⟩,⟨[tt,tt,tt,tt,tt,ff,ff,ff,tt,tt,tt,ff,ff,ff,ff,ff,ff,ff],10,.one 5 1⟩,⟨[tt,tt,tt,tt,ff,ff,ff,ff,tt,tt,tt,tt,ff,ff,ff,ff,ff,ff],10,.one 12 2⟩,⟨[tt,tt,tt,tt,tt,tt,ff,ff,tt,tt,tt,ff,ff,ff,ff,ff,ff,ff],9,.one 6 5⟩,⟨[tt,tt,tt,tt,tt,tt,tt,ff,tt,ff,tt,ff,ff,ff,ff,ff,ff,ff],9,.alt [(7,2),(9,4)]⟩,⟨[tt,tt,tt,tt,ff,ff,ff,ff,tt,tt,tt,tt,tt,ff,ff,ff,ff,ff],9,.one 13 2⟩,⟨[tt,tt,ff,tt,ff,ff,ff,ff,tt,tt,tt,tt,tt,tt,ff,ff,ff,ff],9,.alt [(2,1),(14,3)]⟩,⟨[tt,tt,tt,tt,tt,tt,tt,tt,tt,ff,tt,ff,ff,ff,ff,ff,ff,ff],8,.alt [(9,3)]⟩,⟨[tt,tt,tt,tt,ff,ff,ff,ff,tt,tt,tt,tt,tt,tt,ff,ff,ff,ff],8,.alt [(4,3),(14,5)]⟩,⟨[tt,tt,tt,tt,tt,tt,tt,ff,tt,tt,tt,ff,ff,ff,ff,ff,ff,ff],8,.alt [(7,1),(11,3)]⟩,⟨[tt,tt,ff,tt,ff,ff,ff,ff,tt,tt,tt,tt,tt,tt,tt,ff,ff,ff],8,.alt [(2,3)]⟩,⟨[tt,tt,tt,tt,tt,tt,tt,tt,tt,tt,tt,ff,ff,ff,ff,ff,ff,ff],7,.alt [(11,4)]⟩,⟨[tt,tt,tt,tt,tt,ff,ff,ff,tt,tt,tt,tt,tt,tt,ff,ff,ff,ff],7,.one 5 2⟩,⟨[tt,tt,tt,tt,tt,tt,tt,ff,tt,tt,tt,tt,ff,ff,ff,ff,ff,ff],7,.one 12 4⟩,⟨[tt,tt,tt,tt,ff,ff,ff,ff,tt,tt,tt,tt,tt,tt,tt,ff,ff,ff],7,.alt [(4,2)]⟩,⟨[tt,tt,tt,tt,tt,tt,ff,ff,tt,tt,tt,tt,tt,tt,ff,ff,ff,ff],6,.one 6 5⟩,⟨[tt,tt,tt,tt,tt,tt,tt,tt,tt,tt,tt,tt,ff,ff,ff,ff,ff,ff],6,.one 12 2⟩,⟨[tt,tt,tt,tt,tt,ff,ff,ff,tt,tt,tt,tt,tt,tt,tt,ff,ff,ff],6,.one 5 2⟩,⟨[tt,tt,tt,tt,tt,tt,tt,ff,tt,tt,tt,tt,tt,ff,ff,ff,ff,ff],6,.one 13 2⟩,⟨[tt,tt,tt,tt,tt,tt,tt,tt,tt,tt,tt,tt,tt,ff,ff,ff,ff,ff],5,.one 13 2⟩,⟨[tt,tt,tt,tt,tt,tt,ff,ff,tt,tt,tt,tt,tt,tt,tt,ff,ff,ff],5,.one 6 2⟩,⟨[tt,tt,tt,tt,tt,tt,tt,ff,tt,tt,tt,tt,tt,tt,ff,ff,ff,ff],5,.alt [(7,0),(14,1)]⟩,⟨[tt,tt,tt,tt,tt,tt,tt,tt,tt,tt,tt,tt,tt,tt,ff,ff,ff,ff],4,.alt [(14,1)]⟩,⟨[tt,tt,tt,tt,tt,tt,tt,ff,tt,tt,tt,tt,tt,tt,tt,ff,ff,ff],4,.alt [(7,0)]⟩,⟨[tt,tt,tt,tt,tt,tt,tt,tt,tt,tt,tt,tt,tt,tt,tt,ff,ff,ff],3,.alt [(15,0)]⟩,⟨[tt,tt,tt,tt,tt,tt,tt,tt,tt,tt,tt,tt,tt,tt,tt,tt,ff,ff],2,.alt [(16,0)]⟩,⟨[tt,tt,tt,tt,tt,tt,tt,tt,tt,tt,tt,tt,tt,tt,tt,tt,tt,ff],1,.alt [(17,0)]⟩,⟨[tt,tt,tt,tt,tt,tt,tt,tt,tt,tt,tt,tt,tt,tt,tt,tt,tt,tt],0,.fin⟩]
abbrev gr34:List Gent:=[⟨[ff,ff,ff,ff,ff,ff,ff,ff,ff,ff,ff,ff,ff,ff,ff],15,.one 0 0⟩,⟨[tt,ff,ff,ff,ff,ff,ff,ff,ff,ff,ff,ff,ff,ff,ff],14,.one 2 0⟩,⟨[tt,ff,tt,ff,ff,ff,ff,ff,ff,ff,ff,ff,ff,ff,ff],13,.one 5 0⟩,⟨[tt,ff,tt,ff,ff,tt,ff,ff,ff,ff,ff,ff,ff,ff,ff],12,.one 6 0⟩,⟨[tt,ff,tt,ff,ff,tt,tt,ff,ff,ff,ff,ff,ff,ff,ff],11,.alt [(1,0),(7,1)]⟩,⟨[tt,tt,tt,ff,ff,tt,tt,ff,ff,ff,ff,ff,ff,ff,ff],10,.alt [(3,2),(7,1)]⟩,⟨[tt,ff,tt,ff,ff,tt,tt,tt,ff,ff,ff,ff,ff,ff,ff],10,.alt [(1,0),(8,2)]⟩,⟨[tt,tt,tt,ff,ff,tt,tt,tt,ff,ff,ff,ff,ff,ff,ff],9,.alt [(3,2),(8,3)]⟩,⟨[tt,tt,tt,tt,ff,tt,tt,ff,ff,ff,ff,ff,ff,ff,ff],9,.alt [(4,3),(7,1)]⟩,⟨[tt,ff,tt,ff,ff,tt,tt,tt,tt,ff,ff,ff,ff,ff,ff],9,.alt [(1,1)]⟩,⟨[tt,tt,tt,tt,ff,tt,tt,tt,ff,ff,ff,ff,ff,ff,ff],8,.alt [(4,3),(8,2)]⟩,⟨[tt,tt,tt,ff,ff,tt,tt,tt,tt,ff,ff,ff,ff,ff,ff],8,.alt [(3,1)]⟩,⟨[tt,tt,tt,tt,tt,tt,tt,ff,ff,ff,ff,ff,ff,ff,ff],8,.alt [(7,1)]⟩,⟨[tt,tt,tt,tt,ff,tt,tt,tt,tt,ff,ff,ff,ff,ff,ff],7,.alt [(4,1)]⟩,⟨[tt,tt,tt,tt,tt,tt,tt,tt,ff,ff,ff,ff,ff,ff,ff],7,.alt [(8,0)]⟩,⟨[tt,tt,tt,tt,tt,tt,tt,tt,tt,ff,ff,ff,ff,ff,ff],6,.alt [(9,0)]⟩,⟨[tt,tt,tt,tt,tt,tt,tt,tt,tt,tt,ff,ff,ff,ff,ff],5,.one 10 0⟩,⟨[tt,tt,tt,tt,tt,tt,tt,tt,tt,tt,tt,ff,ff,ff,ff],4,.alt [(11,1),(12,0)]⟩,⟨[tt,tt,tt,tt,tt,tt,tt,tt,tt,tt,tt,ff,tt,ff,ff],3,.alt [(11,1)]⟩,⟨[tt,tt,tt,tt,tt,tt,tt,tt,tt,tt,tt,tt,ff,ff,ff],3,.alt [(12,0),(13,1)]⟩,⟨[tt,tt,tt,tt,tt,tt,tt,tt,tt,tt,tt,tt,tt,ff,ff],2,.alt [(13,1)]⟩,⟨[tt,tt,tt,tt,tt,tt,tt,tt,tt,tt,tt,tt,ff,tt,ff],2,.alt [(12,0)]⟩,⟨[tt,tt,tt,tt,tt,tt,tt,tt,tt,tt,tt,tt,tt,tt,ff],1,.alt [(14,0)]⟩,⟨[tt,tt,tt,tt,tt,tt,tt,tt,tt,tt,tt,tt,tt,tt,tt],0,.fin⟩]
abbrev Cdat (t:Int×Int):List V:=[vi t.1,vi t.2]
set_option maxHeartbeats 4000000 in
theorem den_ends (r:Rgs) (f:Fil) (h:r.Fit) (hok:OkG r) (hfm:f∈r.fls):Den Tryz.prog T 89 [.agg r.cs,.agg f.cs] (ints (endsL r f)):=by
 obtain ⟨b1,b2,b4,b5,b6,b9⟩:=hok.bnds hfm
 have hcl:=h.crs.1
 have hdl:=h.dps
 have hend:endsL r f=ends0 r f++(r.rls.map fun q=>ruleA q (trigL f)).flatten:=rfl
 unfold ends0 at hend
 rw[hend]
 clear hend
 obtain ⟨gl,hgl⟩:∃gl,goneL (goneF r f)=gl:=⟨_,rfl⟩
 rw[hgl]
 refine den_of_body follows (fun args w=>Tryz.call89 args w) Tryz.func89 rfl 217 rfl ?_
 obtain ⟨o0,ho0⟩:∃o,([f.opn,f.cld]:List Int)=o:=⟨_,rfl⟩
 have hap0:([[V.val (.int .i64 f.opn)],[V.val (.int .i64 f.cld)]]:List (List V))=o0.map Cint:=by rw[← ho0]; rfl
 have lo0:o0.length=2:=by rw[← ho0]; rfl
 rw[ho0]
 refine runW hap0 ?_
 refine loop ⟨[2,3,5,6],[2,3],[5],[(5,3,1)]⟩ (fun k:Nat=>k≤r.ofs.length) (fun k=>r.ofs.length-k)
  (fun k=>⟨217,[(2,.p 2 0),(3,.p 3 0),(5,.v (ints (o0++twoL Ofc.frm Ofc.til (r.ofs.take k)))),(6,.v (vi k))],[(2,.var r.cs),(3,.var f.cs)],[(3,[5])]⟩) 0 (Nat.zero_le _) ?_ (by simp only[List.take_zero,twoL_nil,List.append_nil]; rfl)
 intro k hk
 by_cases hlt:k<r.ofs.length
 ·obtain ⟨x,hx,-,-⟩:=drop_at hlt
  have hsn:=twoL_snoc o0 Ofc.frm Ofc.til hx
  have hlen:=twoL_len o0 Ofc.frm Ofc.til r.ofs k
  obtain ⟨out,ho⟩:∃out,o0++twoL Ofc.frm Ofc.til (r.ofs.take k)=out:=⟨_,rfl⟩
  rw[ho] at hsn hlen ⊢
  have hlen:out.length≤100000:=by omega
  have hap:out.map Cint++[[V.val (.int .i64 (Ofc.frm x))],[V.val (.int .i64 (Ofc.til x))]]=(out++[Ofc.frm x,Ofc.til x]).map Cint:=by simp
  refine runD hx ?_
  refine aw_graph gr5 ?_
  refine graph_to (fun _:Unit=>True) ⟨[2,3,5,6],[2,3],[5],[]⟩ (fun _=>⟨217,[(2,.p 2 0),(3,.p 3 0),(5,.v (ints (out++[Ofc.frm x,Ofc.til x]))),(6,.v (vi k))],[(2,.var r.cs),(3,.var f.cs)],[(3,[5])]⟩) (fun st st' hk h=>aw_keep _ hk h) (fun _ _=> ?_) (fun K' hK=> ?_)
  ·refine run ?_
   refine round (k+1) hlt (by omega) ?_
   rw[hsn]; rfl
  ·refine runGraph (And.intro hx hap) ?_
   repeat' (with_reducible refine And.intro ?_ ?_)
   all_goals exact leafK hK () trivial
 rw[takeB_all hk hlt]
 obtain ⟨o1,ho1⟩:∃o,o0++twoL Ofc.frm Ofc.til r.ofs=o:=⟨_,rfl⟩
 have lo1:o1.length≤70:=by
  have:=twoL_len o0 Ofc.frm Ofc.til r.ofs r.ofs.length
  rw[List.take_length,ho1] at this
  omega
 rw[ho1]
 refine run ?_
 refine loop ⟨[2,3,5,7],[2,3],[5],[(5,3,1)]⟩ (fun k:Nat=>k≤r.pls.length) (fun k=>r.pls.length-k)
  (fun k=>⟨217,[(2,.p 2 0),(3,.p 3 0),(5,.v (ints (o1++twoL Plan.frm Plan.til (r.pls.take k)))),(7,.v (vi k))],[(2,.var r.cs),(3,.var f.cs)],[(3,[5])]⟩) 0 (Nat.zero_le _) ?_ (by simp only[List.take_zero,twoL_nil,List.append_nil]; rfl)
 intro k hk
 by_cases hlt:k<r.pls.length
 ·obtain ⟨x,hx,-,-⟩:=drop_at hlt
  have hsn:=twoL_snoc o1 Plan.frm Plan.til hx
  have hlen:=twoL_len o1 Plan.frm Plan.til r.pls k
  obtain ⟨out,ho⟩:∃out,o1++twoL Plan.frm Plan.til (r.pls.take k)=out:=⟨_,rfl⟩
  rw[ho] at hsn hlen ⊢
  have hlen:out.length≤100000:=by omega
  have hap:out.map Cint++[[V.val (.int .i64 (Plan.frm x))],[V.val (.int .i64 (Plan.til x))]]=(out++[Plan.frm x,Plan.til x]).map Cint:=by simp
  refine runD hx ?_
  refine aw_graph gr5 ?_
  refine graph_to (fun _:Unit=>True) ⟨[2,3,5,7],[2,3],[5],[]⟩ (fun _=>⟨217,[(2,.p 2 0),(3,.p 3 0),(5,.v (ints (out++[Plan.frm x,Plan.til x]))),(7,.v (vi k))],[(2,.var r.cs),(3,.var f.cs)],[(3,[5])]⟩) (fun st st' hk h=>aw_keep _ hk h) (fun _ _=> ?_) (fun K' hK=> ?_)
  ·refine run ?_
   refine round (k+1) hlt (by omega) ?_
   rw[hsn]; rfl
  ·refine runGraph (And.intro hx hap) ?_
   repeat' (with_reducible refine And.intro ?_ ?_)
   all_goals exact leafK hK () trivial
 rw[takeB_all hk hlt]
 obtain ⟨o2,ho2⟩:∃o,o1++twoL Plan.frm Plan.til r.pls=o:=⟨_,rfl⟩
 have lo2:o2.length≤110:=by
  have:=twoL_len o1 Plan.frm Plan.til r.pls r.pls.length
  rw[List.take_length,ho2] at this
  omega
 rw[ho2]
 refine run ?_
 refine loop ⟨[2,3,5,8],[2,3],[5],[(5,3,1)]⟩ (fun k:Nat=>k≤r.hls.length) (fun k=>r.hls.length-k)
  (fun k=>⟨217,[(2,.p 2 0),(3,.p 3 0),(5,.v (ints (o2++twoL Hld.frm Hld.til (r.hls.take k)))),(8,.v (vi k))],[(2,.var r.cs),(3,.var f.cs)],[(3,[5])]⟩) 0 (Nat.zero_le _) ?_ (by simp only[List.take_zero,twoL_nil,List.append_nil]; rfl)
 intro k hk
 by_cases hlt:k<r.hls.length
 ·obtain ⟨x,hx,-,-⟩:=drop_at hlt
  have hsn:=twoL_snoc o2 Hld.frm Hld.til hx
  have hlen:=twoL_len o2 Hld.frm Hld.til r.hls k
  obtain ⟨out,ho⟩:∃out,o2++twoL Hld.frm Hld.til (r.hls.take k)=out:=⟨_,rfl⟩
  rw[ho] at hsn hlen ⊢
  have hlen:out.length≤100000:=by omega
  have hap:out.map Cint++[[V.val (.int .i64 (Hld.frm x))],[V.val (.int .i64 (Hld.til x))]]=(out++[Hld.frm x,Hld.til x]).map Cint:=by simp
  refine runD hx ?_
  refine aw_graph gr5 ?_
  refine graph_to (fun _:Unit=>True) ⟨[2,3,5,8],[2,3],[5],[]⟩ (fun _=>⟨217,[(2,.p 2 0),(3,.p 3 0),(5,.v (ints (out++[Hld.frm x,Hld.til x]))),(8,.v (vi k))],[(2,.var r.cs),(3,.var f.cs)],[(3,[5])]⟩) (fun st st' hk h=>aw_keep _ hk h) (fun _ _=> ?_) (fun K' hK=> ?_)
  ·refine run ?_
   refine round (k+1) hlt (by omega) ?_
   rw[hsn]; rfl
  ·refine runGraph (And.intro hx hap) ?_
   repeat' (with_reducible refine And.intro ?_ ?_)
   all_goals exact leafK hK () trivial
 rw[takeB_all hk hlt]
 obtain ⟨o3,ho3⟩:∃o,o2++twoL Hld.frm Hld.til r.hls=o:=⟨_,rfl⟩
 have lo3:o3.length≤250:=by
  have:=twoL_len o2 Hld.frm Hld.til r.hls r.hls.length
  rw[List.take_length,ho3] at this
  omega
 rw[ho3]
 refine run ?_
 refine loop ⟨[2,3,5,9],[2,3],[5],[(5,3,1)]⟩ (fun k:Nat=>k≤r.sls.length) (fun k=>r.sls.length-k)
  (fun k=>⟨217,[(2,.p 2 0),(3,.p 3 0),(5,.v (ints (o3++(r.sls.take k).map (·.day)))),(9,.v (vi k))],[(2,.var r.cs),(3,.var f.cs)],[(3,[5])]⟩) 0 (Nat.zero_le _) ?_ (by simp only[List.take_zero,List.map_nil,List.append_nil]; rfl)
 intro k hk
 by_cases hlt:k<r.sls.length
 ·obtain ⟨x,hx,-,-⟩:=drop_at hlt
  have hsn:=map_snocA o3 (fun s:Sel=>s.day) hx
  have hlen:(o3++(r.sls.take k).map (·.day)).length≤100000:=by rw[List.length_append,List.length_map,List.length_take]; omega
  obtain ⟨out,ho⟩:∃out,o3++(r.sls.take k).map (·.day)=out:=⟨_,rfl⟩
  rw[ho] at hsn hlen ⊢
  have hap:out.map Cint++[[V.val (.int .i64 x.day)]]=(out++[x.day]).map Cint:=by simp
  refine runW (And.intro hx hap) ?_
  refine round (k+1) hlt (by omega) ?_
  rw[hsn]; rfl
 rw[takeB_all hk hlt]
 obtain ⟨o4,ho4⟩:∃o,o3++r.sls.map (·.day)=o:=⟨_,rfl⟩
 have lo4:o4.length≤1300:=by rw[← ho4,List.length_append,List.length_map]; omega
 rw[ho4]
 refine run ?_
 refine call (den_Gone r h f.id r.crs.length r.dps.length (Nat.le_refl _) (Nat.le_refl _)) ?_
 obtain ⟨⟨t,by'⟩,hg⟩:∃y,goneF r f=y:=⟨_,rfl⟩
 rw[hg] at hgl
 rw[show goneR r f.id r.crs.length r.dps.length=(t,by') from hg]
 have lgl:gl.length≤1:=by rw[← hgl]; unfold goneL; split <;> simp
 obtain ⟨t0,ht0⟩:∃o,([(f.opn,f.opn),(f.cld,f.cld)]:List (Int×Int))=o:=⟨_,rfl⟩
 have hap0:([[V.val (.int .i64 f.opn),V.val (.int .i64 f.opn)],[V.val (.int .i64 f.cld),V.val (.int .i64 f.cld)]]:List (List V))=t0.map Cdat:=by rw[← ht0]; rfl
 have lt0:t0.length=2:=by rw[← ht0]; rfl
 apply aw_meet ⟨[2,3,5,12,13],[2,3],[5,12],[(5,3,1),(12,55,2)]⟩ (fun _:Unit=>True)
  (fun _=>⟨217,[(2,.p 2 0),(3,.p 3 0),(5,.v (ints (o4++gl))),(12,.v (.slice 2 (t0.map Cdat))),(13,.v (vi 0))],[(2,.var r.cs),(3,.var f.cs)],[(3,[5]),(55,[12])]⟩)
 ·intro tail
  by_cases hb:by'=0
  ·have e:gl=[]:=by rw[← hgl]; exact if_neg (fun e=>e hb)
   refine runW (And.intro hb hap0) ?_
   refine tail _ () trivial ?_
   rw[e,List.append_nil]
   rfl
  ·have e:gl=[t]:=by rw[← hgl]; exact if_pos hb
   have hap:o4.map Cint++[[V.val (.int .i64 t)]]=(o4++[t]).map Cint:=by simp
   refine runW (And.intro (eq_false hb) (And.intro hap hap0)) ?_
   refine tail _ () trivial ?_
   rw[e]
   rfl
 rintro ⟨⟩ -
 obtain ⟨o5,ho5⟩:∃o,o4++gl=o:=⟨_,rfl⟩
 have lo5:o5.length≤1301:=by rw[← ho5,List.length_append]; omega
 rw[ho5]
 have htr:trigL f=t0++f.nts.map fun n=>(n.fst,n.lst):=by rw[← ht0]; rfl
 refine loop ⟨[2,3,5,12,13],[2,3],[5,12],[(5,3,1),(12,55,2)]⟩ (fun k:Nat=>k≤f.nts.length) (fun k=>f.nts.length-k)
  (fun k=>⟨217,[(2,.p 2 0),(3,.p 3 0),(5,.v (ints (o5++(f.nts.take k).map (·.rcd)))),(12,.v (.slice 2 ((t0++(f.nts.take k).map fun n=>(n.fst,n.lst)).map Cdat))),(13,.v (vi k))],[(2,.var r.cs),(3,.var f.cs)],[(3,[5]),(55,[12])]⟩) 0 (Nat.zero_le _) ?_ (by simp only[List.take_zero,List.map_nil,List.append_nil]; rfl)
 intro k hk
 by_cases hlt:k<f.nts.length
 ·obtain ⟨x,hx,-,-⟩:=drop_at hlt
  have hsn:=map_snocA o5 (fun n:Note=>n.rcd) hx
  have hlen:(o5++(f.nts.take k).map (·.rcd)).length≤100000:=by rw[List.length_append,List.length_map,List.length_take]; omega
  obtain ⟨out,ho⟩:∃out,o5++(f.nts.take k).map (·.rcd)=out:=⟨_,rfl⟩
  rw[ho] at hsn hlen ⊢
  have hsn2:t0++(f.nts.take (k+1)).map (fun n=>(n.fst,n.lst))=(t0++(f.nts.take k).map fun n=>(n.fst,n.lst))++[(x.fst,x.lst)]:=by
   obtain ⟨hlt,rfl⟩:=List.getElem?_eq_some_iff.1 hx
   rw[List.take_succ_eq_append_getElem hlt,List.map_append,List.append_assoc]
   rfl
  have hlen2:(t0++(f.nts.take k).map fun n=>(n.fst,n.lst)).length≤100000:=by rw[List.length_append,List.length_map,List.length_take]; omega
  obtain ⟨ts,hts⟩:∃ts,(t0++(f.nts.take k).map fun n=>(n.fst,n.lst))=ts:=⟨_,rfl⟩
  rw[hts] at hsn2 hlen2 ⊢
  have hap:out.map Cint++[[V.val (.int .i64 x.rcd)]]=(out++[x.rcd]).map Cint:=by simp
  have hap2:ts.map Cdat++[[V.val (.int .i64 x.fst),V.val (.int .i64 x.lst)]]=(ts++[(x.fst,x.lst)]).map Cdat:=by simp
  refine runW (And.intro hx (And.intro hap hap2)) ?_
  refine round (k+1) hlt (by omega) ?_
  rw[hsn,hsn2]; rfl
 rw[takeB_all hk hlt,← htr]
 obtain ⟨o6,ho6⟩:∃o,o5++f.nts.map (·.rcd)=o:=⟨_,rfl⟩
 have lo6:o6.length≤1320:=by rw[← ho6,List.length_append,List.length_map]; omega
 have ltr:(trigL f).length≤18:=by rw[htr,List.length_append,List.length_map]; omega
 rw[ho6]
 obtain ⟨tl,htl⟩:∃tl,trigL f=tl:=⟨_,rfl⟩
 rw[htl] at ltr ⊢
 refine run ?_
 refine loop ⟨[2,5,12,14],[2],[5],[(5,3,1)]⟩ (fun k:Nat=>k≤r.rls.length) (fun k=>r.rls.length-k)
  (fun k=>⟨217,[(2,.p 2 0),(5,.v (ints (o6++((r.rls.take k).map fun q=>ruleA q tl).flatten))),(12,.v (.slice 2 (tl.map Cdat))),(14,.v (vi k))],[(2,.var r.cs)],[(3,[5])]⟩) 0 (Nat.zero_le _) ?_ (by simp only[List.take_zero,List.map_nil,List.flatten_nil,List.append_nil]; rfl)
 intro k hk
 by_cases hlt:k<r.rls.length
 ·obtain ⟨x,hx,-,hm⟩:=drop_at hlt
  have hxf:=h.rls.2 x hm
  have hsn:=ruleA_snoc o6 tl hx
  have hlen:(o6++((r.rls.take k).map fun q=>ruleA q tl).flatten).length≤10000:=by
   have h1:=ruleA_len tl (r.rls.take k)
   have h2:(r.rls.take k).length≤64:=by rw[List.length_take]; omega
   have h3:=Nat.mul_le_mul h2 (show tl.length+2≤20 by omega)
   rw[List.length_append]
   omega
  obtain ⟨out,ho⟩:∃out,o6++((r.rls.take k).map fun q=>ruleA q tl).flatten=out:=⟨_,rfl⟩
  rw[ho] at hsn hlen ⊢
  have hap:out.map Cint++[[V.val (.int .i64 x.frm)],[V.val (.int .i64 x.til)]]=(out++[x.frm,x.til]).map Cint:=by simp
  refine runD hx ?_
  refine aw_graph gr5 ?_
  refine graph_to (fun _:Unit=>True) ⟨[2,5,12,14],[2],[5],[]⟩ (fun _=>⟨217,[(2,.p 2 0),(5,.v (ints (out++[x.frm,x.til]))),(12,.v (.slice 2 (tl.map Cdat))),(14,.v (vi k))],[(2,.var r.cs)],[(3,[5])]⟩) (fun st st' hk h=>aw_keep _ hk h) (fun _ _=> ?_) (fun K' hK=> ?_)
  rotate_left
  ·refine runGraph (And.intro hx hap) ?_
   repeat' (with_reducible refine And.intro ?_ ?_)
   all_goals exact leafK hK () trivial
  have hsn:o6++((r.rls.take (k+1)).map fun q=>ruleA q tl).flatten=(out++[x.frm,x.til])++dueA x tl:=by rw[hsn,List.append_assoc]; rfl
  have hlen2:(out++[x.frm,x.til]).length≤10002:=by rw[List.length_append]; exact Nat.add_le_add hlen (Nat.le_refl 2)
  obtain ⟨o7,ho7⟩:∃o,out++[x.frm,x.til]=o:=⟨_,rfl⟩
  rw[ho7] at hsn hlen2 ⊢
  refine run ?_
  refine loop ⟨[2,5,12,14,15],[2],[5],[(5,3,1)]⟩ (fun j:Nat=>j≤tl.length) (fun j=>tl.length-j)
   (fun j=>⟨217,[(2,.p 2 0),(5,.v (ints (o7++dueA x (tl.take j)))),(12,.v (.slice 2 (tl.map Cdat))),(14,.v (vi k)),(15,.v (vi j))],[(2,.var r.cs)],[(3,[5])]⟩) 0 (Nat.zero_le _) ?_ (by simp only[List.take_zero,show dueA x []=[] from rfl,List.append_nil]; rfl)
  intro j hj
  by_cases hjl:j<tl.length
  ·obtain ⟨y,hy,-,-⟩:=drop_at hjl
   have hys:=dueA_snoc x hy
   obtain ⟨a,c⟩:=y
   have hlen3:(o7++dueA x (tl.take j)).length≤20000:=by
    have:=dueA_len x (tl.take j)
    rw[List.length_take] at this
    rw[List.length_append]
    omega
   obtain ⟨o8,ho8⟩:∃o,o7++dueA x (tl.take j)=o:=⟨_,rfl⟩
   have ho9:o7++dueA x (tl.take (j+1))=o8++(match dueR x a c with | some z=>[z+1] | none=>[]):=by rw[hys,← List.append_assoc,ho8]
   rw[ho8] at hlen3 ⊢
   cases hdu:dueR x a c with
   | none=>
    rw[hdu] at ho9
    simp only[List.append_nil] at ho9
    refine runD hx ?_
    refine aw_graph gr34 ?_
    refine graph_to (fun _:Unit=>True) ⟨[2,5,12,14,15,16,17],[2],[5],[]⟩ (fun _=>⟨217,[(2,.p 2 0),(5,.v (ints o8)),(12,.v (.slice 2 (tl.map Cdat))),(14,.v (vi k)),(15,.v (vi j)),(16,.v (vi 0)),(17,.v (vi 1))],[(2,.var r.cs)],[(3,[5])]⟩) (fun st st' hk h=>aw_keep _ hk h) (fun _ _=> ?_) (fun K' hK=> ?_)
    ·refine run ?_
     refine round (j+1) hjl (by omega) ?_
     rw[ho9]; rfl
    ·refine runGraph (And.intro hx hy) ?_
     repeat' (with_reducible refine And.intro ?_ ?_)
     all_goals
      refine call (den_DueRef x a c hxf) ?_
      rw[dueV,hdu]
      refine runGraph trivial ?_
      repeat' (with_reducible refine And.intro ?_ ?_)
      all_goals exact leafK hK () trivial
   | some z=>
    have hzb:=dueR_le hdu
    rw[hdu] at ho9
    have hap2:o8.map Cint++[[V.val (.int .i64 (z+1))]]=(o8++[z+1]).map Cint:=by simp
    refine runD hx ?_
    refine aw_graph gr34 ?_
    refine graph_to (fun _:Unit=>True) ⟨[2,5,12,14,15,16,17],[2],[5],[]⟩ (fun _=>⟨217,[(2,.p 2 0),(5,.v (ints o8)),(12,.v (.slice 2 (tl.map Cdat))),(14,.v (vi k)),(15,.v (vi j)),(16,.v (vi z)),(17,.v (vi 0))],[(2,.var r.cs)],[(3,[5])]⟩) (fun st st' hk h=>aw_keep _ hk h) (fun _ _=> ?_) (fun K' hK=> ?_)
    ·refine runW hap2 ?_
     refine round (j+1) hjl (by omega) ?_
     rw[ho9]; rfl
    ·refine runGraph (And.intro hx hy) ?_
     repeat' (with_reducible refine And.intro ?_ ?_)
     all_goals
      refine call (den_DueRef x a c hxf) ?_
      rw[dueV,hdu]
      refine runGraph trivial ?_
      repeat' (with_reducible refine And.intro ?_ ?_)
      all_goals exact leafK hK () trivial
  rw[takeB_all hj hjl]
  refine run ?_
  refine round (k+1) hlt (by omega) ?_
  rw[hsn]; rfl
 rw[takeB_all hk hlt]
 refine run ?_
 refine fin ?_
 rw[← ho6,← ho5,← ho4,← ho3,← ho2,← ho1]
end Go.Arc
set_option maxRecDepth 100000
namespace Go.Arc
open Go.Ab Go.RowKit Go.Proofs
variable {T : Lay}
def turnS (r:Rgs) (id d:Int):Int×Bool:=if onE r id d=0 then turnG (lineS r (filA r id) d 1048576) else (0,false)
theorem dayG_ge {d:Int} (h:dayG d=true):0≤d:=by
 unfold dayG at h
 rw[Bool.and_eq_true,decide_eq_true_eq,decide_eq_true_eq] at h
 exact h.1
theorem den_Turns (L:LibC T) (r:Rgs) (h:r.Fit) (id d:Int):Den Tryz.prog T 28 [.agg r.cs,vi id,vi d] (.tup [vi (turnS r id d).1,vb (turnS r id d).2,vi (onE r id d)]):=by
 refine den_of_body follows (fun args w=>Tryz.call28 args w) Tryz.func28 rfl 37 rfl ?_
 refine run ?_
 refine call (den_find11 L r h id) ?_
 unfold turnS
 by_cases h0:askE r id=0
 ·rw[if_pos h0]
  obtain ⟨h1,h2⟩:=ask_ok h0
  have hok:=okG_of h1
  obtain ⟨k,-,-,-,hm,-⟩:=find_fil h2
  refine run ?_
  refine call (den_isDay11 d) ?_
  cases hd:dayG d
  ·have he:onE r id d=2:=by unfold onE; rw[if_neg (fun e=>e h0),if_pos hd]
   rw[he,if_neg (by decide)]
   refine run ?_
   exact fin rfl
  ·have he:onE r id d=0:=by unfold onE; rw[if_neg (fun e=>e h0),if_neg (by rw[hd]; decide)]
   rw[he,if_pos rfl]
   have hlt:d<1048576:=by have:=dayG_le hd; omega
   refine run ?_
   refine call (den_line L r (filA r id) d 1048576 h hok hm hlt) ?_
   have hlen:=(line_runs r (filA r id) hlt).len
   have hge:=dayG_ge hd
   obtain ⟨l,hl⟩:∃l,lineS r (filA r id) d 1048576=l:=⟨_,rfl⟩
   rw[hl] at hlen ⊢
   match l with
   | []=>
    refine run ?_
    exact fin rfl
   | [p]=>
    refine run ?_
    exact fin rfl
   | p::q::s=>
    have hn:¬(((p::q::s).length:Nat):Int)<2:=by simp only[List.length_cons]; omega
    have hq:(p::q::s)[1]? = some q:=rfl
    refine runW (And.intro (eq_false hn) hq) ?_
    exact fin rfl
 ·have he:onE r id d=askE r id:=by unfold onE; rw[if_pos h0]
  rw[if_neg h0,he,if_neg h0]
  refine runW h0 ?_
  exact fin rfl
theorem den_next11 (l:List Int) (d:Int) (hl:l.length≤17592186044416):Den Tryz.prog T 90 [ints l,vi d] (vi (nextI l d)):=by
 refine den_of_body follows (fun args w=>Tryz.call90 args w) Tryz.func90 rfl 26 rfl ?_
 refine run ?_
 refine loop ⟨[0,1,5,6],[],[],[]⟩ (fun k:Nat=>k≤l.length) (fun k=>l.length-k)
  (fun k=>⟨26,[(0,.v (ints l)),(1,.v (vi d)),(5,.v (vi (nextI (l.take k) d))),(6,.v (vi k))],[],[]⟩) 0 (Nat.zero_le _) ?_
 intro k hk
 by_cases hlt:k<l.length
 ·obtain ⟨x,hx,-,-⟩:=drop_at hlt
  have hsn:=nextI_snoc d hx
  by_cases hg:d<x
  ·rw[if_pos hg] at hsn
   obtain ⟨y,hy⟩:∃y,nextI (l.take k) d=y:=⟨_,rfl⟩
   rw[hy] at hsn ⊢
   have hm:min y x=if x<y then x else y:=by split <;> omega
   refine runW (And.intro hx (eq_true hg)) ?_
   refine round (k+1) hlt (by omega) ?_
   rw[hsn,hm]; rfl
  ·rw[if_neg hg] at hsn
   refine runW (And.intro hx (eq_false hg)) ?_
   refine round (k+1) hlt (by omega) ?_
   rw[hsn]; rfl
 ·refine run ?_
  refine fin ?_
  rw[List.take_of_length_le (by omega)]
end Go.Arc
set_option maxRecDepth 100000
namespace Go.Arc
open Go.Ab Go.RowKit Go.Proofs
variable {T : Lay}
theorem aw_meetV {P:Program} {α:Type} {G:Prop} {c:Code} {Q:AX→St→Prop} (k:α→Kp) (φ:α→Prop) (S:α→St) (h:(∀st x,φ x→keepS (k x) st=some (S x)→aw P T c st Q)→G) (h2:∀x,φ x→aw P T c (S x) Q):G:=h fun _ x hx hk=>aw_keep (k x) hk (h2 x hx)
theorem finFr2 {P:Program} {t u id r n cap size:Nat} {e:TypeId} {cs:List V} {nm:Option Nat} {st:St} {v w:V} (hr:Wk (.tup [.slice size (chunk 0 n size cs),w]) v) (h3:n≤cap) (h4:n*size≤cs.length) (hf:findN r st.h=some id)
  (h1:Ab.look t st.t=some (.v (.val (.slice (some ⟨r,0,none⟩) n cap))):=by rfl) (h2:Ab.look id st.h=some (.var cs nm (some (e,size,cap))):=by rfl)
  (hu:Ab.look u st.t=some (.v w):=by rfl) (hn:u≠t:=by decide) (hv:∀r n cap,w≠ .val (.slice (some ⟨r,0,none⟩) n cap):=by intro _ _ _ h; cases h):fpost P [.tmp t,.tmp u] v .rt st:=by
 refine .inr ⟨_,?_,hr⟩
 show resS P (frzt1 u (frzt1 t st)) _=_
 rw[frzt1_r h1 hf h2 h3 h4,frzt1_v (v:=w) (by rw[look_cons',if_neg hn]; exact hu) hv]
 exact resS2 (by simp only[resV,σ_mk,look_cons',↓reduceIte,vOf_v]) (by simp only[resV,σ_mk]; rw[look_cons',if_neg hn,hu]; rfl)
abbrev rowQ (r:Rgs) (a b:Int) (id d:Int) (E:List Int) (out:List Pce):Option (Nat×Nat)→St
 | none=>⟨88,[(3,.p 3 0),(5,.p 5 0),(8,.v (vi id)),(10,.v (ints E)),(11,.v (.val (.slice none 0 0))),(12,.v (vi d))],[(3,.var r.cs),(5,.var [vi a,vi b])],[]⟩
 | some (q,cap)=>⟨88,[(3,.p 3 0),(5,.p 5 0),(8,.v (vi id)),(10,.v (ints E)),(11,.v (.val (.slice (some ⟨q,0,none⟩) out.length cap))),(12,.v (vi d))],[(3,.var r.cs),(5,.var [vi a,vi b]),(85,rowP out q cap)],[]⟩
abbrev rowK:Option (Nat×Nat)→Kp
 | none=>⟨[3,5,8,10,11,12],[3,5],[],[]⟩
 | some _=>⟨[3,5,8,10,11,12],[3,5,85],[],[]⟩
def rowI (out:List Pce):Option (Nat×Nat)→Prop
 | none=>out=[]
 | some (_,cap)=>out.length≤cap∧cap≤maxLen
set_option maxHeartbeats 8000000 in
theorem den_LineRef (L:LibC T) (r:Rgs) (h:r.Fit) (id a b:Int):Den Tryz.prog T 27 [.agg r.cs,vi id,span a b] (.tup [pces (lineG r id a b),vi (lineE r id a b)]):=by
 have hfl:=h.fls.1
 refine den_of_body follows (fun args w=>Tryz.call27 args w) Tryz.func27 rfl 88 rfl ?_
 refine run ?_
 refine call (den_asks L r h id) ?_
 unfold lineG
 by_cases h0:askE r id=0
 case neg=>
  have he:lineE r id a b=askE r id:=by unfold lineE; rw[if_pos h0]
  rw[if_neg h0,he,if_neg h0]
  refine runW h0 ?_
  exact finW (wk_nilP _)
 rw[if_pos h0]
 obtain ⟨h1,h2⟩:=ask_ok h0
 have hok:=okG_of h1
 obtain ⟨k,hk,hlt,hx,hm,-⟩:=find_fil h2
 rw[hk]
 refine run ?_
 refine call (den_Good04 a b) ?_
 cases hg:goodS a b
 ·have he:lineE r id a b=2:=by
   unfold lineE
   rw[if_neg (fun e=>e h0),if_pos]
   unfold goodS at hg
   have:=of_decide_eq_false hg
   omega
  rw[he,if_neg (by decide)]
  refine run ?_
  exact finW (wk_nilP 2)
 have hgs:0≤a∧a<b∧b≤1048576:=by unfold goodS at hg; exact of_decide_eq_true hg
 have he:lineE r id a b=0:=by
  unfold lineE
  rw[if_neg (fun e=>e h0),if_neg]
  omega
 rw[he,if_pos rfl]
 obtain ⟨f,hf⟩:∃f,filA r id=f:=⟨_,rfl⟩
 rw[hf] at hx hm ⊢
 refine runW hx ?_
 refine call (den_ends r f h hok hm) ?_
 have hne:(endsL r f).length≤17592186044416:=endsL_len hok hm
 have hnx:∀d,d<b→d<nextI (endsL r f) d∧nextI (endsL r f) d≤1048576∧∀c∈endsL r f,d<c→nextI (endsL r f) d≤c:=fun d hd=>next_ok (by omega)
 have hseg:∀(d e:Int) (out:List Pce),0≤d→d<e→(∀c∈endsL r f,d<c→e≤c)→Runs (kdF r f) d a out→Runs (kdF r f) e a (addP out d e (vdt r f d).kind):=fun d e out g1 g2 g3 g4=>seg_ref hok g1 g2 g3 g4
 obtain ⟨E,hE⟩:∃E,endsL r f=E:=⟨_,rfl⟩
 rw[hE] at hne hnx hseg ⊢
 refine run ?_
 apply aw_meetV (fun R=>rowK R) (rowI []) (fun R=>rowQ r a b k a E [] R)
 ·intro tail
  refine aw_row 11 85 101 3 rfl rfl (by kernel_rfl) (by show (85:Nat)<88; decide) rfl ?_ ?_
  ·refine tail _ none rfl ?_
   rfl
  ·intro q cap hq hcap
   refine tail _ (some (q,cap)) ⟨Nat.zero_le _,hcap⟩ ?_
   rfl
 intro R hR
 refine loopV (fun y:Int×List Pce×Option (Nat×Nat)=>rowK y.2.2) (fun y=>y.1≤b∧rowI y.2.1 y.2.2∧Runs (kdF r f) y.1 a y.2.1) (fun y=>(b-y.1).toNat)
  (fun y=>rowQ r a b k y.1 E y.2.1 y.2.2) (a,[],R) ⟨by simp only; omega,hR,rfl⟩ ?_ ?_
 ·rcases R with _ | ⟨q,cap⟩ <;> rfl
 rintro ⟨d,out,R⟩ ⟨hdb,hR,hruns⟩
 simp only at hdb hR hruns
 have had:=hruns.le
 by_cases hd:d<b
 ·obtain ⟨n1,n2,n3⟩:=hnx d hd
  obtain ⟨e,hee⟩:∃e,min (nextI E d) b=e:=⟨_,rfl⟩
  have hmin:(if b<nextI E d then b else nextI E d)=e:=by rw[← hee]; split <;> omega
  have hs:=hseg d e out (by omega) (by omega) (fun c hc hdc=>by have:=n3 c hc hdc; omega) hruns
  have hlo:=hruns.len
  have hole:out.length≤1048576:=by omega
  have hde:d<e:=by omega
  have heb:e≤b:=by omega
  have cD:=den_DecideRef (T:=T) L r f d h hok hm (by omega)
  obtain ⟨v,hv⟩:∃v,vdt r f d=v:=⟨_,rfl⟩
  rw[hv] at hs cD
  rcases R with _ | ⟨q,cap⟩
  ·have hR:out=[]:=hR
   subst hR
   simp only[rowQ]
   refine runW (eq_true hd) ?_
   refine call (den_next11 E d hne) ?_
   refine runW (And.intro hmin hx) ?_
   refine call cD ?_
   refine runB trivial ?_
   refine appO_r ?_
   unfold appR
   refine run ?_
   intro q' cap' hnm g1 g2
   refine run ?_
   refine roundV (e,addP [] d e v.kind,some (q',cap')) ⟨heb,⟨(by have h1:(addP [] d e v.kind).length=1:=rfl; rw[h1]; simpa using g1),g2⟩,hs⟩ (by simp only; omega) ?_
   rfl
  ·obtain ⟨hcl,hcm⟩:out.length≤cap∧cap≤maxLen:=hR
   by_cases hnil:out=[]
   ·subst hnil
    simp only[rowQ,rowP,List.map_nil,List.flatten_nil]
    refine runW (eq_true hd) ?_
    refine call (den_next11 E d hne) ?_
    refine runW (And.intro hmin hx) ?_
    refine call cD ?_
    refine runB trivial ?_
    refine appO_r ?_
    unfold appR
    refine runB trivial ?_
    refine ⟨.inl trivial,?_⟩
    intro q' cap' hnm g1 g2
    refine run ?_
    refine roundV (e,addP [] d e v.kind,some (q',cap')) ⟨heb,⟨(by have h1:(addP [] d e v.kind).length=1:=rfl; rw[h1]; simpa using g1),g2⟩,hs⟩ (by simp only; omega) ?_
    rfl
   ·obtain ⟨l,p,rfl⟩:∃l p,out=l++[p]:=⟨out.dropLast,out.getLast hnil,(List.dropLast_concat_getLast hnil).symm⟩
    have hlp:(l++[p]).length=l.length+1:=by simp
    have hcs:=flat_snoc l p
    have hfl:=flat_len l
    obtain ⟨cs,hcc⟩:∃cs,(l.map pceC).flatten=cs:=⟨_,rfl⟩
    rw[hcc] at hcs hfl
    simp only[rowQ,rowP,hcs]
    rw[hlp]
    have hb:l.length+1≤1048576:=by rw[← hlp]; exact hole
    have hpos:(0:Int)<((l.length+1:Nat):Int):=by omega
    have d0:List.drop ((l.length+1-1)*3+2) (cs++[vi p.frm,vi p.til,vi p.val])=[vi p.val]:=by
     rw[Nat.add_sub_cancel,← hfl,List.drop_length_add_append]
     rfl
    have d1:List.drop ((l.length+1-1)*3+1+1) (cs++[vi p.frm,vi p.til,vi p.val])=[vi p.val]:=by
     rw[Nat.add_assoc]
     exact d0
    have d2:List.take ((l.length+1-1)*3+1) (cs++[vi p.frm,vi p.til,vi p.val])=cs++[vi p.frm]:=by
     rw[Nat.add_sub_cancel,← hfl,List.take_length_add_append]
     rfl
    refine runW (eq_true hd) ?_
    refine call (den_next11 E d hne) ?_
    refine runW (And.intro hmin hx) ?_
    refine call cD ?_
    by_cases hkv:p.val=v.kind
    ·have ha:addP (l++[p]) d e v.kind=l++[⟨p.frm,e,p.val⟩]:=by rw[addP_last,if_pos hkv]
     have hcs2:=flat_snoc l ⟨p.frm,e,p.val⟩
     rw[hcc] at hcs2
     rw[ha] at hs
     have hlp3:(l++[(⟨p.frm,e,p.val⟩:Pce)]).length=l.length+1:=by simp
     refine runB (And.intro (eq_true hpos) (And.intro hfl (And.intro d0 (And.intro (eq_true hkv) (And.intro d1 d2))))) ?_
     refine roundV (e,l++[⟨p.frm,e,p.val⟩],some (q,cap)) ⟨heb,⟨by rw[hlp3,← hlp]; exact hcl,hcm⟩,hs⟩ (by simp only; omega) ?_
     have e1:cs++[vi p.frm]++[vi e]++[vi p.val]=((l++[(⟨p.frm,e,p.val⟩:Pce)]).map pceC).flatten:=by rw[hcs2,List.append_assoc,List.append_assoc]; rfl
     simp only[rowQ,rowP,← e1,hlp3]
     rfl
    ·have ha:addP (l++[p]) d e v.kind=l++[p,⟨d,e,v.kind⟩]:=by rw[addP_last,if_neg hkv]
     have e1:(cs++[vi p.frm,vi p.til,vi p.val])++[[vi d,vi e,vi v.kind]].flatten=((l++[p,⟨d,e,v.kind⟩]).map pceC).flatten:=by
      rw[show l++[p,(⟨d,e,v.kind⟩:Pce)]=(l++[p])++[⟨d,e,v.kind⟩] by simp,flat_snoc,hcs]
      rfl
     have hlp3:(l++[p,(⟨d,e,v.kind⟩:Pce)]).length=l.length+1+[[vi d,vi e,vi v.kind]].length:=by simp
     rw[ha] at hs
     refine runB (And.intro (eq_true hpos) (And.intro hfl (And.intro d0 (eq_false hkv)))) ?_
     refine appO_r ?_
     unfold appR
     refine runB hfl ?_
     refine ⟨.inl trivial,?_⟩
     intro q' cap' hnm g1 g2
     rw[e1,← hlp3]
     rw[← hlp3] at g1
     refine run ?_
     refine roundV (e,l++[p,⟨d,e,v.kind⟩],some (q',cap')) ⟨heb,⟨g1,g2⟩,hs⟩ (by simp only; omega) ?_
     rfl
 ·have hdb2:d=b:=by omega
  subst hdb2
  have hout:out=lineS r f a d:=hruns.unique (line_runs r f hgs.2.1)
  rcases R with _ | ⟨q,cap⟩
  ·exact absurd hR (hruns.ne hgs.2.1)
  ·obtain ⟨hcl,hcm⟩:out.length≤cap∧cap≤maxLen:=hR
   rw[← hout]
   simp only[rowQ]
   refine runW (eq_false hd) ?_
   refine finFr2 (id:=85) (r:=q) (n:=out.length) (cap:=cap) (e:=101) (size:=3) (cs:=(out.map pceC).flatten) (w:=vi 0) ?_ hcl (by rw[flat_len]; omega) ?_
   ·rw[chunk_pces]
    exact .refl _
   ·simp[findN,findK,Blk.nm,nmOf,look_cons',rowP]
end Go.Arc
set_option maxRecDepth 100000
namespace Go.Arc
open Go.Ab Go.RowKit Go.Proofs
variable {T : Lay}
set_option maxHeartbeats 4000000 in
theorem den_TurnsRef (L:LibC T) (r:Rgs) (h:r.Fit) (id d:Int):Den Tryz.prog T 29 [.agg r.cs,vi id,vi d] (.tup [vi (turnS r id d).1,vb (turnS r id d).2,vi (onE r id d)]):=by
 refine den_of_body follows (fun args w=>Tryz.call29 args w) Tryz.func29 rfl 62 rfl ?_
 refine run ?_
 refine call (den_asks L r h id) ?_
 unfold turnS
 by_cases h0:askE r id=0
 case neg=>
  have he:onE r id d=askE r id:=by unfold onE; rw[if_pos h0]
  rw[if_neg h0,he,if_neg h0]
  refine runW h0 ?_
  exact fin rfl
 rw[if_pos h0]
 obtain ⟨h1,h2⟩:=ask_ok h0
 have hok:=okG_of h1
 obtain ⟨k,hk,hlt,hx,hm,-⟩:=find_fil h2
 rw[hk]
 refine run ?_
 refine call (den_day11R d) ?_
 cases hd:dayG d
 ·have he:onE r id d=2:=by unfold onE; rw[if_neg (fun e=>e h0),if_pos hd]
  rw[he,if_neg (by decide)]
  refine run ?_
  exact fin rfl
 have he:onE r id d=0:=by unfold onE; rw[if_neg (fun e=>e h0),if_neg (by rw[hd]; decide)]
 rw[he,if_pos rfl]
 have hd1:=dayG_le hd
 have hd2:=dayG_ge hd
 obtain ⟨f,hf⟩:∃f,filA r id=f:=⟨_,rfl⟩
 rw[hf] at hx hm ⊢
 have hruns:=line_runs r f (show d<1048576 by omega)
 refine runW hx ?_
 refine call (den_ends r f h hok hm) ?_
 have hne:(endsL r f).length≤17592186044416:=endsL_len hok hm
 have hnx:∀d,d<1048576→d<nextI (endsL r f) d∧nextI (endsL r f) d≤1048576∧∀c∈endsL r f,d<c→nextI (endsL r f) d≤c:=fun d hd=>next_ok hd
 have hst:∀(d e:Int),0≤d→(∀c∈endsL r f,d<c→e≤c)→∀t,d≤t→t<e→kdF r f t=kdF r f d:=fun d e g1 g2 t g3 g4=>still hok g1 g2 g3 g4
 obtain ⟨E,hE⟩:∃E,endsL r f=E:=⟨_,rfl⟩
 rw[hE] at hne hnx hst ⊢
 refine runW hx ?_
 refine call (den_DecideRef L r f d h hok hm hd1) ?_
 obtain ⟨K0,hK0⟩:∃K0,(vdt r f d).kind=K0:=⟨_,rfl⟩
 refine runW hK0 ?_
 refine loop ⟨[2,3,9,11,12],[3],[],[]⟩ (fun y:Int=>d≤y∧y≤1048576∧∀t,d≤t→t≤y→t<1048576→kdF r f t=K0) (fun y=>(1048576-y).toNat)
  (fun y=>⟨62,[(2,.v (vi y)),(3,.p 3 0),(9,.v (vi k)),(11,.v (ints E)),(12,.v (vi K0))],[(3,.var r.cs)],[]⟩) d ⟨Int.le_refl _,by omega,fun t g1 g2 _=>by rw[show t=d by omega]; exact hK0⟩ ?_
 rintro y ⟨hy1,hy2,hy3⟩
 by_cases hy:y<1048575
 ·obtain ⟨n1,n2,n3⟩:=hnx y (by omega)
  have hs:=hst y (nextI E y) (by omega) n3
  have hall:∀t,d≤t→t<nextI E y→kdF r f t=K0:=fun t g1 g2=>by
   by_cases g3:t≤y
   ·exact hy3 t g1 g3 (by omega)
   ·exact (hs t (by omega) g2).trans (hy3 y hy1 (Int.le_refl _) (by omega))
  refine runW (eq_true hy) ?_
  refine call (den_next11 E y hne) ?_
  obtain ⟨n,hn⟩:∃n,nextI E y=n:=⟨_,rfl⟩
  rw[hn] at n1 n2 n3 hall ⊢
  by_cases hnm:n≤1048575
  ·have cD:=den_DecideRef (T:=T) L r f n h hok hm hnm
   by_cases hkn:(vdt r f n).kind=K0
   ·refine runW (And.intro (eq_true hnm) hx) ?_
    refine call cD ?_
    refine runW hkn ?_
    exact round n ⟨by omega,n2,fun t g1 g2 g3=>by
     by_cases g4:t=n
     ·rw[g4]; exact hkn
     ·exact hall t g1 (by omega)⟩ (by omega)
   ·have ht:=turn_at (n:=n) hruns (by omega) (by omega) (fun t g1 g2=>(hall t g1 g2).trans hK0.symm) (fun e=>hkn (e.trans hK0))
    rw[ht]
    refine runW (And.intro (eq_true hnm) hx) ?_
    refine call cD ?_
    refine runW (eq_false hkn) ?_
    exact fin rfl
  ·refine runW (eq_false hnm) ?_
   exact round n ⟨by omega,n2,fun t g1 g2 g3=>hall t g1 (by omega)⟩ (by omega)
 ·have ht:=turn_no hruns fun t g1 g2=>(hy3 t g1 (by omega) g2).trans hK0.symm
  rw[ht]
  refine runW (eq_false hy) ?_
  exact fin rfl
end Go.Arc
set_option maxRecDepth 100000
namespace Go.Arc
open Go.Ab Go.RowKit Go.Proofs
variable {T : Lay}
theorem den_same04 (l:List Pce) (hl:l.length≤1048576):Den Tryz.prog T 30 [pces l,pces l] (vb true):=by
 refine den_of_body follows (fun args w=>Tryz.call30 args w) Tryz.func30 rfl 26 rfl ?_
 refine run ?_
 refine loop ⟨[0,1,5],[],[],[]⟩ (fun k:Nat=>k≤l.length) (fun k=>l.length-k)
  (fun k=>⟨26,[(0,.v (pces l)),(1,.v (pces l)),(5,.v (vi k))],[],[]⟩) 0 (Nat.zero_le _) ?_
 intro k hk
 by_cases hlt:k<l.length
 ·obtain ⟨x,hx,-,-⟩:=drop_at hlt
  refine runW hx ?_
  exact round (k+1) hlt (by omega)
 ·refine run ?_
  exact fin rfl
theorem lineS_big (r:Rgs) (f:Fil) {a b:Int} (ha:0≤a) (hab:a<b) (hb:b≤1048576):(lineS r f a b).length≤1048576:=by
 have:=(line_runs r f hab).len
 show _≤1048576
 omega
theorem lineE_zero {r:Rgs} {id a b:Int} (h:lineE r id a b=0):askE r id=0∧0≤a∧a<b∧b≤1048576:=by
 unfold lineE at h
 split at h
 ·rename_i g; exact absurd h g
 split at h
 ·cases h
 ·rename_i g1 g2
  exact ⟨by omega,by omega,by omega,by omega⟩
theorem lineG_big (r:Rgs) (id a b:Int):(lineG r id a b).length≤1048576:=by
 unfold lineG
 split
 ·rename_i h
  obtain ⟨-,h1,h2,h3⟩:=lineE_zero h
  exact lineS_big r _ h1 h2 h3
 ·exact Nat.zero_le _
theorem den_VerdictLines (L:LibC T) (r:Rgs) (id:Int) (s:Int×Int) (d:Int) (h:r.Fit):Den Tryz.prog T 6 [.agg r.cs,vi id,span s.1 s.2,vi d] (vb true):=by
 obtain ⟨a,b⟩:=s
 refine den_of_body follows (fun args w=>Tryz.call6 args w) Tryz.func6 rfl 77 rfl ?_
 refine run ?_
 refine call (den_awake11 L) ?_
 refine run ?_
 refine call (den_FewG r h) ?_
 cases fewG r
 ·refine run ?_
  exact fin rfl
 refine run ?_
 refine call (den_LineG L r h id a b) ?_
 refine run ?_
 refine call (den_LineRef L r h id a b) ?_
 refine run ?_
 refine call (den_Turns L r h id d) ?_
 refine run ?_
 refine call (den_TurnsRef L r h id d) ?_
 have hl:=lineG_big r id a b
 obtain ⟨l,hL⟩:∃l,lineG r id a b=l:=⟨_,rfl⟩
 obtain ⟨⟨t,o⟩,ht⟩:∃y,turnS r id d=y:=⟨_,rfl⟩
 rw[hL] at hl ⊢
 rw[ht]
 refine run ?_
 refine call (den_same04 l hl) ?_
 refine run ?_
 exact fin rfl
end Go.Arc
set_option maxRecDepth 100000
namespace Go.Arc
open Go.Ab Go.RowKit Go.Proofs
variable {T : Lay}
theorem den_ixPce (l:List Pce) (f:FuncId) (cap:List V) (p:Pce→Bool) (hl:l.length≤1048576) (hp:∀e∈l,Den Tryz.prog T f (.agg e.cs::cap) (vb (p e))):
   Den Tryz.prog T 96 [pces l,.func f cap] (vi (ix p l)):=by
  refine den_of_body follows (fun args w=>Tryz.call96 args w) Tryz.func96 rfl 19 rfl ?_
  refine run ?_
  refine loop ⟨[0,1,7,8],[],[],[]⟩ (fun k:Nat=>k≤l.length∧∀e∈l.take k,p e=false) (fun k=>l.length-k)
    (fun k=>⟨19,[(0,.v (pces l)),(1,.v (.func f cap)),(7,.v (vi l.length)),(8,.v (vi k))],[],[]⟩) 0 ⟨by omega,by simp⟩ ?_
  rintro k ⟨hk,hall⟩
  by_cases hlt:k<l.length
  · obtain ⟨x,hx,-,hm⟩:=drop_at hlt
    refine runW hx ?_
    refine call (hp x hm) ?_
    cases hpc:p x
    · refine run ?_
      exact round (k+1) ⟨by omega,take_snoc hall hx hpc⟩ (by omega)
    · refine run ?_
      exact fin (vi_eq (ix_at hall hx hpc))
  · refine run ?_
    exact fin (vi_eq (ix_none hall hlt))
theorem atB_two (d:Int) (p:Pce):atB d p=(decide (p.frm≤d) && decide (d<p.til)):=inS_two _ _ _
theorem den_AtT1 (p:Pce) (d:Int):Den Tryz.prog T 97 [.agg p.cs,.row [vi d]] (vb (atB d p)):=by
 refine den_of_body follows (fun args w=>Tryz.call97 args w) Tryz.func97 rfl 16 rfl ?_
 rw[atB_two]
 by_cases h1:p.frm≤d
 ·rw[decide_eq_true h1]
  refine runW (eq_true h1) ?_
  exact fin rfl
 ·rw[decide_eq_false h1]
  refine runW (eq_false h1) ?_
  exact fin rfl
def atV (l:List Pce) (d:Int):Int×Bool:=match l.find? (atB d) with
 | some p=>(p.val,true)
 | none=>(0,false)
theorem den_AtT (l:List Pce) (d:Int) (hl:l.length≤1048576):Den Tryz.prog T 39 [pces l,vi d] (.tup [vi (atV l d).1,vb (atV l d).2]):=by
 refine den_of_body follows (fun args w=>Tryz.call39 args w) Tryz.func39 rfl 17 rfl ?_
 refine run ?_
 refine call (den_ixPce l _ _ (atB d) hl fun p _=>den_AtT1 p d) ?_
 unfold atV
 rcases ix_fnd (atB d) l with ⟨h1,h2⟩ | ⟨k,q,h1,h2,h3,h4,h5⟩
 ·rw[h1,h2]
  refine run ?_
  exact fin rfl
 ·rw[h1,h5]
  have hn:¬((k:Nat):Int)<0:=by omega
  refine runW (And.intro (eq_false hn) h3) ?_
  exact fin rfl
theorem den_validT (f u:Int):Den Tryz.prog T 98 [span f u] (vb (goodS f u)):=by
 refine den_of_body follows (fun args w=>Tryz.call98 args w) Tryz.func98 rfl 18 rfl ?_
 have hg:goodS f u=(decide (0≤f) && (decide (f<u) && decide (u≤1048576))):=by unfold goodS; simp
 rw[hg]
 by_cases h1:0≤f
 ·by_cases h2:f<u
  ·rw[decide_eq_true h1,decide_eq_true h2]
   refine runW (And.intro (eq_true h1) (eq_true h2)) ?_
   exact fin rfl
  ·rw[decide_eq_true h1,decide_eq_false h2]
   refine runW (And.intro (eq_true h1) (eq_false h2)) ?_
   exact fin rfl
 ·rw[decide_eq_false h1]
  refine runW (eq_false h1) ?_
  exact fin rfl
theorem den_CheckT (l:List Pce) (h:OkT l):Den Tryz.prog T 40 [pces l] (vi 0):=by
 have hl:=h.len
 have hlb:l.length≤1048576:=by omega
 have hz:¬(1024:Int)<((l.length:Nat):Int):=by omega
 refine den_of_body follows (fun args w=>Tryz.call40 args w) Tryz.func40 rfl 51 rfl ?_
 refine runW (eq_false hz) ?_
 refine loop ⟨[0,9,10,11],[],[],[]⟩ (fun k:Nat=>k≤l.length) (fun k=>l.length-k)
  (fun k=>⟨51,[(0,.v (pces l)),(9,.v (pces l)),(10,.v (vi l.length)),(11,.v (vi k))],[],[]⟩) 0 (Nat.zero_le _) ?_
 intro k hk
 by_cases hlt:k<l.length
 ·obtain ⟨x,hx,-,-⟩:=drop_at hlt
  obtain ⟨s1,s2,s3⟩:=h.spn k x hx
  have hgs:goodS x.frm x.til=true:=by unfold goodS; exact decide_eq_true ⟨s1,s2,s3⟩
  refine runW hx ?_
  refine call (den_validT x.frm x.til) ?_
  rw[hgs]
  by_cases h0:k=0
  ·subst h0
   refine run ?_
   exact round 1 hlt (by omega)
  ·obtain ⟨j,rfl⟩:∃j,k=j+1:=⟨k-1,by omega⟩
   obtain ⟨y,hy,-,-⟩:=drop_at (l:=l) (k:=j) (by omega)
   obtain ⟨g1,g2⟩:=h.stp j y x hy hx
   have hj0:¬(((j+1:Nat)):Int)=0:=by omega
   have hjk:l[j+1-1]? = some y:=by rw[Nat.add_sub_cancel]; exact hy
   have hlt2:¬x.frm<y.til:=by omega
   have heq:x.frm=y.til:=by omega
   refine runW (And.intro (eq_false hj0) (And.intro hjk (And.intro (eq_false hlt2) (And.intro heq (eq_false g2))))) ?_
   exact round (j+1+1) hlt (by omega)
 ·refine run ?_
  exact fin rfl
theorem runs_atV {K:Int→Int} {b a:Int} {l:List Pce} (h:Runs K b a l) (d:Int):(¬(a≤d∧d<b)∧atV l d=(0,false))∨((a≤d∧d<b)∧atV l d=(K d,true)):=by
 unfold atV
 rcases ix_fnd (atB d) l with ⟨h1,h2⟩ | ⟨k,q,h1,h2,h3,h4,h5⟩
 ·rw[h2]
  rcases h.look d with ⟨g1,-⟩ | ⟨-,i,p,g2,-,-⟩
  ·exact .inl ⟨g1,rfl⟩
  ·unfold atI at g2; omega
 ·rw[h5]
  rcases h.look d with ⟨-,g1⟩ | ⟨g0,i,p,g2,g3,g4⟩
  ·unfold atI at g1; omega
  ·unfold atI at g2
   have:i=k:=by omega
   subst this
   rw[h3] at g3
   cases g3
   exact .inr ⟨g0,by rw[← g4]⟩
end Go.Arc
set_option maxRecDepth 100000
namespace Go.Arc
open Go.Ab Go.RowKit Go.Proofs
variable {T : Lay}
theorem onE_zero {r:Rgs} {id d:Int} (h:onE r id d=0):askE r id=0∧dayG d=true:=by
 unfold onE at h
 split at h
 ·rename_i g; exact absurd h g
 split at h
 ·cases h
 ·rename_i g1 g2
  exact ⟨by omega,by simpa using g2⟩
theorem fewG_lens {r:Rgs} (h:fewG r=true):r.sls.length≤8∧r.crs.length≤8∧r.dps.length≤8:=by
 unfold fewG fewG0 at h
 simp only[Bool.and_eq_true,Bool.not_eq_true',decide_eq_false_iff_not] at h
 omega
set_option maxHeartbeats 8000000 in
theorem den_VerdictAgrees (L:LibC T) (r:Rgs) (id:Int) (s:Int×Int) (d:Int) (h:r.Fit):Den Tryz.prog T 9 [.agg r.cs,vi id,span s.1 s.2,vi d] (vb true):=by
 obtain ⟨a,b⟩:=s
 refine den_of_body follows (fun args w=>Tryz.call9 args w) Tryz.func9 rfl 187 rfl ?_
 refine run ?_
 refine call (den_awake11 L) ?_
 refine run ?_
 refine call (den_FewG r h) ?_
 cases hfew:fewG r
 ·refine run ?_
  exact fin rfl
 refine run ?_
 refine call (den_LineG L r h id a b) ?_
 refine run ?_
 refine call (den_On L r h id d) ?_
 by_cases e1:lineE r id a b=0
 case neg=>
  have hG:lineG r id a b=[]:=if_neg e1
  rw[hG]
  refine runW e1 ?_
  exact fin rfl
 by_cases e2:onE r id d=0
 case neg=>
  refine runW (And.intro e1 e2) ?_
  exact fin rfl
 obtain ⟨h0,ha,hab,hb⟩:=lineE_zero e1
 obtain ⟨-,hdg⟩:=onE_zero e2
 obtain ⟨h1,h2⟩:=ask_ok h0
 have hok:=okG_of h1
 obtain ⟨k,-,-,-,hm,-⟩:=find_fil h2
 have hG:lineG r id a b=lineS r (filA r id) a b:=if_pos e1
 have hV:onV r id d=vdt r (filA r id) d:=if_pos e2
 have hT:turnS r id d=turnG (lineS r (filA r id) d 1048576):=if_pos e2
 have hd0:=dayG_ge hdg
 have hd1:=dayG_le hdg
 have e3:lineE r id d 1048576=0:=by unfold lineE; rw[if_neg (fun e=>e h0),if_neg (by omega)]
 have hG2:lineG r id d 1048576=lineS r (filA r id) d 1048576:=if_pos e3
 have c2:=den_LineG (T:=T) L r h id d 1048576
 have c3:=den_Turns (T:=T) L r h id d
 rw[hG,hV,e1,e2]
 rw[hG2,e3] at c2
 rw[hT,e2] at c3
 obtain ⟨f,hf⟩:∃f,filA r id=f:=⟨_,rfl⟩
 rw[hf] at hm c2 c3 ⊢
 have hruns:=line_runs r f hab
 have hruns2:=line_runs r f (show d<1048576 by omega)
 obtain ⟨n1,n2,n3⟩:=fewG_lens hfew
 have hcut:=hok.cuts' hm n1 n2 n3
 have hlen:=lineS_len r f hab
 have hokT:=hruns.okT ha hb (by omega)
 have hat:=runs_atV hruns d
 have hne:=hruns.ne hab
 have hne2:=hruns2.ne (show d<1048576 by omega)
 have hlast:∀p,(lineS r f a b).getLast? = some p→p.til=b:=fun p hp=>hruns.last hp
 have hhead:∀p,(lineS r f a b)[0]? = some p→p.frm=a:=fun p hp=>by
  cases hl:lineS r f a b with
  | nil=>rw[hl] at hp; cases hp
  | cons x s=>
   rw[hl] at hp hruns
   simp only[List.getElem?_cons_zero,Option.some.injEq] at hp
   rw[← hp]
   exact hruns.1
 obtain ⟨v,hv⟩:∃v,vdt r f d=v:=⟨_,rfl⟩
 rw[show kdF r f d=v.kind from congrArg Vdt.kind hv] at hat
 rw[hv]
 obtain ⟨l,hl⟩:∃l,lineS r f a b=l:=⟨_,rfl⟩
 rw[hl] at hokT hat hne hlast hhead hlen ⊢
 have hlb:l.length≤1048576:=by omega
 obtain ⟨p0,hp0⟩:∃p0,l[0]? = some p0:=⟨_,List.getElem?_eq_getElem (List.length_pos_iff.2 hne)⟩
 have ha0:=hhead p0 hp0
 obtain ⟨pz,hpz⟩:∃pz,l[l.length-1]? = some pz:=⟨_,List.getElem?_eq_getElem (by have:=List.length_pos_iff.2 hne; omega)⟩
 have hbz:=hlast pz (by rw[List.getLast?_eq_getElem?]; exact hpz)
 have hpos:¬((l.length:Nat):Int)=0:=by have:=List.length_pos_iff.2 hne; omega
 clear hruns hruns2 hhead hlast hlen hcut hok hl hv hf hG hV hG2 hT
 have rest:∀(st:St),keepS ⟨[1,3,4,9,16],[4],[],[]⟩ st=some ⟨187,[(1,.v (vi id)),(3,.v (vi d)),(4,.p 4 0),(9,.v (pces l)),(16,.v (vi 1))],[(4,.var r.cs)],[]⟩→True:=fun _ _=>trivial
 clear rest
 refine runW trivial ?_
 refine call (den_AtT l d hlb) ?_
 apply aw_meet ⟨[1,3,4,9,16],[4],[],[]⟩ (fun _:Unit=>True) (fun _=>⟨187,[(1,.v (vi id)),(3,.v (vi d)),(4,.p 4 0),(9,.v (pces l)),(16,.v (vi 1))],[(4,.var r.cs)],[]⟩)
 ·intro tail
  rcases hat with ⟨g1,g2⟩ | ⟨⟨g1,g2⟩,g3⟩
  ·rw[g2]
   by_cases g3:a≤d
   ·have g4:¬d<b:=fun e=>g1 ⟨g3,e⟩
    refine runW (And.intro (eq_true g3) (eq_false g4)) ?_
    refine call (den_CheckT l hokT) ?_
    refine runW (And.intro (eq_false hpos) (And.intro hp0 (And.intro ha0 (And.intro hpz hbz)))) ?_
    refine tail _ () trivial ?_
    rfl
   ·refine runW (eq_false g3) ?_
    refine call (den_CheckT l hokT) ?_
    refine runW (And.intro (eq_false hpos) (And.intro hp0 (And.intro ha0 (And.intro hpz hbz)))) ?_
    refine tail _ () trivial ?_
    rfl
  ·rw[g3]
   refine runW (And.intro (eq_true g1) (eq_true g2)) ?_
   refine call (den_CheckT l hokT) ?_
   refine runW (And.intro (eq_false hpos) (And.intro hp0 (And.intro ha0 (And.intro hpz hbz)))) ?_
   refine tail _ () trivial ?_
   rfl
 rintro ⟨⟩ -
 refine loop ⟨[1,3,4,9,16],[4],[],[]⟩ (fun k:Nat=>1≤k∧k≤l.length) (fun k=>l.length-k)
  (fun k=>⟨187,[(1,.v (vi id)),(3,.v (vi d)),(4,.p 4 0),(9,.v (pces l)),(16,.v (vi k))],[(4,.var r.cs)],[]⟩) 1 ⟨Nat.le_refl _,List.length_pos_iff.2 hne⟩ ?_
 rintro k ⟨hk1,hk⟩
 by_cases hlt:k<l.length
 ·obtain ⟨x,hx,-,-⟩:=drop_at hlt
  obtain ⟨j,rfl⟩:∃j,k=j+1:=⟨k-1,by omega⟩
  obtain ⟨y,hy,-,-⟩:=drop_at (l:=l) (k:=j) (by omega)
  obtain ⟨g1,-⟩:=hokT.stp j y x hy hx
  have hyk:l[j+1-1]? = some y:=by rw[Nat.add_sub_cancel]; exact hy
  refine runW (And.intro hx (And.intro hyk g1)) ?_
  exact round (j+1+1) ⟨by omega,hlt⟩ (by omega)
 obtain ⟨m,hm2⟩:∃m,lineS r f d 1048576=m:=⟨_,rfl⟩
 rw[hm2] at c2 c3 hne2
 match m with
 | []=>exact absurd rfl hne2
 | [p]=>
  rw[show turnG [p]=(0,false) from rfl] at c3
  refine run ?_
  refine call c3 ?_
  refine run ?_
  refine call c2 ?_
  refine run ?_
  exact fin rfl
 | p::q::s=>
  have hn:(1:Int)<(((p::q::s).length:Nat):Int):=by simp only[List.length_cons]; omega
  have hn0:¬(((p::q::s).length:Nat):Int)=0:=by omega
  have hq:(p::q::s)[1]? = some q:=rfl
  rw[show turnG (p::q::s)=(q.frm,true) from rfl] at c3
  obtain ⟨m2,hm2⟩:∃m2,p::q::s=m2:=⟨_,rfl⟩
  rw[hm2] at c2 hn hn0 hq
  refine run ?_
  refine call c3 ?_
  refine run ?_
  refine call c2 ?_
  refine runW (And.intro (eq_false hn0) (And.intro (eq_true hn) hq)) ?_
  exact fin rfl
end Go.Arc
