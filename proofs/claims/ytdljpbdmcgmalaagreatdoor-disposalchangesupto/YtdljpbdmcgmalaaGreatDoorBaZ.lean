/- A part of this claim. -/
import Derived.Test.YtdljpbdmcgmalaaGreatDoorW83
import Derived.Test.YtdljpbdmcgmalaaGreatDoorW84
import Derived.Shelf.Sort.Plain
import Derived.Test.YtdljpbdmcgmalaaGreatDoorW149
set_option maxRecDepth 100000
namespace Go.Arc
open Go.Ab Go.RowKit Go.Proofs Tryz
variable {T : Lay}
theorem wk_tups {l m:List V} (h:Wks l m):Wk (.tup l) (.tup m):= .tup h.len fun j v u e1 e2=>by
 obtain ⟨v',h1,h2⟩:=h.get e2;rw[e1] at h1;cases h1;exact h2
theorem fstE_cons (x:Int) (r:List Int):fstE (x::r)=if x≠0 then x else fstE r:=rfl
theorem fstE_app:∀a b:List Int,fstE (a++b)=if fstE a≠0 then fstE a else fstE b
 | [],b=>by rw[List.nil_append,if_neg (fun e=>e rfl)]
 | x::a,b=>by
  have ih:=fstE_app a b;rw[List.cons_append,fstE_cons,fstE_cons];by_cases h:x≠0
  ·rw[if_pos h,if_pos h,if_pos h]
  ·rw[if_neg h,if_neg h]; exact ih
def lstK (r:Rgs):Nat->List Elm
 | 0=>selE r
 | 1=>crtE r
 | _=>depE r
def preK (r:Rgs):Nat->List Elm
 | 0=>[]
 | 1=>selE r
 | _=>selE r++crtE r
def errK (r:Rgs) (k:Nat):Int×Int:=(0,jb7 r.fls (preK r k) (lstK r k))
def psK (r:Rgs):Nat->List (Int×Bool)
 | 0=>[]
 | k+1=>if 1024<(lstK r k).length then psK r k else elsM r.fls (preK r k) none (psK r k) (lstK r k)
theorem checkG_eq (r:Rgs):checkG r=if listsE r≠0 then listsE r else fstE ((List.range' 0 3).map fun j=>(errK r j).2):=fstE_app [(jcv r.ofs).2,(check r.pls).2,(jei r.ofs r.pls r.fls).2,(jcu r.rls).2,(jdt r.hls).2] [jb7 r.fls [] (selE r),jb7 r.fls (selE r) (crtE r),jb7 r.fls (selE r++crtE r) (depE r)]
theorem listE_ok {fs:List Fil} {pre l:List Elm} (h:jb7 fs pre l=0):l.length<=1024/\elsE fs pre none l=0:=by
 unfold jb7 at h;by_cases hb:1024<l.length
 ·rw[if_pos hb] at h; cases h
 ·rw[if_neg hb] at h; exact ⟨om,h⟩
theorem psK_get (r:Rgs):∀k,k<3->(∀j,j<k->(errK r j).2=0)->∀n,getG (psK r k) n=jaj (preK r k) n
 | 0,_,_=>fun n=>rfl
 | k+1,hk,h=>by
  have h0:=h k (Nat.lt_succ_self k);obtain ⟨h1,h2⟩:=listE_ok h0;have ih:=psK_get r k om fun j hj=>h j om;unfold psK;rw[if_neg om];intro n;rw[elsM_get r.fls _ _ _ _ ih h2]
  match k,hk with
  | 0,_=>rfl
  | 1,_=>rfl
theorem lstK_fit {r:Rgs} (h:r.Fit) (k:Nat):(lstK r k).length<=1048576/\∀x∈lstK r k,x.fls.length<=1048576:=by
 match k with
 | 0=>exact ⟨by show (selE r).length<=1048576; unfold selE; rw[List.length_map]; exact h.sls.1,fun x hx=>by
   obtain ⟨s,hs,rfl⟩:=List.mem_map.1 hx; exact h.sls.2 s hs⟩
 | 1=>exact ⟨by show (crtE r).length<=1048576; unfold crtE; rw[List.length_map]; exact h.crs.1,fun x hx=>by
   obtain ⟨s,hs,rfl⟩:=List.mem_map.1 hx; exact (h.crs.2 s hs).1⟩
 | n+2=>exact ⟨by show (depE r).length<=1048576; unfold depE; rw[List.length_map]; exact h.dps,fun x hx=>by
   obtain ⟨s,hs,rfl⟩:=List.mem_map.1 hx; show [s.fil].length<=1048576; simp⟩
set_option maxHeartbeats 4000000 in
theorem den_CheckG (L:LibC T) (r:Rgs) (h:r.Fit):Den prog T 37 [.agg r.cs] (vi (checkG r)):=by
 have hs:=h.sls.1;have hc:=h.crs.1;have hd:=h.dps;rw[checkG_eq];refine ja0 call37 func37 93 ?_;refine rc (den_lists L r h) ?_;by_cases h0:listsE r=0
 ·rw[if_neg (by rw[h0]; decide)];refine runW h0 ?_
  refine loop ⟨[1,4,5,6,23,24,25],[1],[4],[(4,145,4)]⟩ (fun k:Nat=>k<=r.sls.length) (fun k=>r.sls.length-k)
   (fun k=>⟨93,[(1,.p 1 0),(4,.v (elms ((r.sls.take k).map Sel.el))),(5,.v (.val (.slice none 0 0))),(6,.v (.val (.slice none 0 0))),(23,.v (sels r.sls)),(24,.v (vi r.sls.length)),(25,.v (vi k))],[(1,.var r.cs)],[(145,[4])]⟩) 0 (Nat.zero_le _) ?_
  intro k hk;by_cases hlt:k<r.sls.length
  ·obtain ⟨x,hx,-,-⟩:=ja1 hlt
   have hts:((r.sls.take k).map Sel.el).map Elm.cs++[[vi x.smp,vi x.day,ints x.fls,vb false]]=((r.sls.take (k+1)).map Sel.el).map Elm.cs:=by
    exact zy
   refine runW (ai hx hts) ?_;exact zm
  have hkl:k=r.sls.length:=om
  subst hkl;rw[List.take_length];obtain ⟨S,hS⟩:∃S,r.sls.map Sel.el=S:=⟨_,rfl⟩;rw[hS];refine run ?_
  refine loop ⟨[1,4,5,6,41,42,43],[1],[5],[(5,145,4)]⟩ (fun k:Nat=>k<=r.crs.length) (fun k=>r.crs.length-k)
   (fun k=>⟨93,[(1,.p 1 0),(4,.v (elms S)),(5,.v (elms ((r.crs.take k).map Crt.el))),(6,.v (.val (.slice none 0 0))),(41,.v (crts r.crs)),(42,.v (vi r.crs.length)),(43,.v (vi k))],[(1,.var r.cs)],[(145,[5])]⟩) 0 (Nat.zero_le _) ?_
  intro k hk;by_cases hlt:k<r.crs.length
  ·obtain ⟨x,hx,-,-⟩:=ja1 hlt
   have hts:((r.crs.take k).map Crt.el).map Elm.cs++[[vi x.num,vi x.day,ints x.fls,vb true]]=((r.crs.take (k+1)).map Crt.el).map Elm.cs:=by
    exact zy
   refine runW (ai hx hts) ?_;exact zm
  have hkl:k=r.crs.length:=om
  subst hkl;rw[List.take_length];obtain ⟨C,hC⟩:∃C,r.crs.map Crt.el=C:=⟨_,rfl⟩;rw[hC];refine run ?_
  refine loop ⟨[1,4,5,6,59,60,61],[1],[6],[(6,145,4)]⟩ (fun k:Nat=>k<=r.dps.length) (fun k=>r.dps.length-k)
   (fun k=>⟨93,[(1,.p 1 0),(4,.v (elms S)),(5,.v (elms C)),(6,.v (elms ((r.dps.take k).map Dep.el))),(59,.v (deps r.dps)),(60,.v (vi r.dps.length)),(61,.v (vi k))],[(1,.var r.cs)],[(145,[6])]⟩) 0 (Nat.zero_le _) ?_
  intro k hk;by_cases hlt:k<r.dps.length
  ·obtain ⟨x,hx,-,-⟩:=ja1 hlt
   have hts:((r.dps.take k).map Dep.el).map Elm.cs++[[vi 1,vi x.day,.slice 1 [[vi x.fil]],vb true]]=((r.dps.take (k+1)).map Dep.el).map Elm.cs:=by
    exact zy
   refine runW (ai hx hts) ?_;exact zm
  have hkl:k=r.dps.length:=om
  subst hkl;rw[List.take_length];obtain ⟨D,hD⟩:∃D,r.dps.map Dep.el=D:=⟨_,rfl⟩;rw[hD]
  have hrow:∀k,k<3->[[elms S],[elms C],[elms D]][k]? = some [elms (lstK r k)]:=fun k hk=>by
   rw[<- hS,<- hC,<- hD]
   match k,hk with
   | 0,_=>rfl
   | 1,_=>rfl
   | 2,_=>rfl
  refine run ?_;refine aw_name 75 ?_;intro b hb;clear hb;obtain ⟨R,hR⟩:∃R,[[elms S],[elms C],[elms D]]=R:=⟨_,rfl⟩;have hRl:R.length=3:=by rw[<- hR]; rfl
  rw[hR] at hrow
  refine loop ⟨[1,13,79,80,81],[1,75],[],[]⟩ (fun k:Nat=>k<=3/\∀j,j<k->(errK r j).2=0) (fun k=>3-k)
   (fun k=>⟨93,[(1,.p 1 0),(13,.m 75),(79,.v (.slice 1 R)),(80,.v (vi 3)),(81,.v (vi k))],[(1,.var r.cs),(75,.map (mapG (psK r k)) (some b))],[]⟩) 0 ⟨dc,fun j hj=>absurd hj (Nat.not_lt_zero j)⟩ ?_ (by rw[<- hR]; rfl)
  rintro k ⟨hk,hall⟩;by_cases hlt:k<3
  ·have hkR:k<R.length:=om
   have hg:=hrow k hlt;have hfit:=lstK_fit h k;have hps:=psK_get r k hlt hall;refine runW hg ?_;have hden:=denS_elements (T:=T) r h (lstK r k) hfit.1 hfit.2 (preK r k) (psK r k) hps b;rw[show (if 1024<(lstK r k).length then psK r k else elsM r.fls (preK r k) none (psK r k) (lstK r k))=psK r (k+1) from rfl,show jb7 r.fls (preK r k) (lstK r k)=(errK r k).2 from rfl] at hden;refine callS [(999000,75)] hden (.cons (.v _) (.cons (.v _) (.cons (.m rfl) .nil))) ?_ ?_
   ·intro y hy;simp only[List.mem_singleton] at hy;subst hy;exact ⟨75,_,rfl,rfl,rfl,.inr rfl,rfl⟩
   by_cases hz:(errK r k).2=0
   ·refine runW hz ?_;refine round (k+1) ⟨hlt,fun j hj=> ?_⟩ om;by_cases hjk:j=k
    ·subst hjk; exact hz
    ·exact hall j om
   ·refine runW hz ?_;refine fin (ja5 ?_);have:=fst_at (errK r) 3 k 0 hlt (fun j hj=>by rw[Nat.zero_add]; exact hall j hj) (by rw[Nat.zero_add]; exact hz);rw[this,Nat.zero_add]
  ·refine run ?_;refine fin (ja5 ?_);exact (fst_end (errK r) 3 0 fun j hj=>by rw[Nat.zero_add]; exact hall j om).symm
 ·rw[if_pos h0];refine runW h0 ?_;exact fin rfl
abbrev filZ:List V:=[vi 0,vi 0,vi 0,vi 0,.str [],.str [],vi 0,.val (.slice none 0 0)]
theorem den_find11 (L:LibC T) (r:Rgs) (h:r.Fit) (id:Int):Den prog T 198 [.agg r.cs,vi id] (if askE r id=0 then .tup [.agg (filA r id).cs,vi 0] else .tup [.agg filZ,vi (askE r id)]):=by
 have hf:=h.fls.1;refine ja0 call198 func198 23 ?_;refine rc (den_CheckG L r h) ?_;by_cases h1:checkG r=0
 ·refine rcW h1 (jq0 r.fls id hf) ?_;by_cases h2:jbp r.fls id<0
  ·rw[askE_7 h1 h2,if_neg dc];refine runW (eq_true h2) ?_;exact fin rfl
  ·obtain ⟨k,hk,hlt,hx,-,-⟩:=find_fil h2;rw[askE_0 h1 h2,if_pos rfl];have h2':¬((k:Int)<0):=om
   rw[hk];refine runW (ai hx (eq_false h2')) ?_;exact fin rfl
 ·rw[askE_1 h1,if_neg dc];refine runW h1 ?_;exact fin rfl
theorem wk_vdtZ (e:Int):Wk (.tup [.agg (vcs 0 0 0 0 0 (.val (.slice none 0 0))),vi e]) (.tup [.agg vdtZ.cs,vi e]):=wk_tups (.cons (jhd 0 0 0 0 0) (.cons (.refl _) .nil))
theorem den_vdt (L:LibC T) (r:Rgs) (f:Fil) (d:Int) (hr:r.Fit) (hf:f.Fit):Den prog T 200 [.agg (lokOf r f d).cs] (.agg (vdt r f d).cs):=by
 rw[<- vdt_L];exact den_decide L (lokOf r f d) hr hf (Nat.le_trans (rulesF_len r f d) hr.rls.1)
theorem den_On (L:LibC T) (r:Rgs) (h:r.Fit) (id d:Int):Den prog T 134 [.agg r.cs,vi id,vi d] (.tup [.agg (onV r id d).cs,vi (onE r id d)]):=by
 refine ja0 call134 func134 29 ?_;refine rc (den_find11 L r h id) ?_;unfold onV;by_cases h0:askE r id=0
 ·rw[if_pos h0];obtain ⟨h1,h2⟩:=ask_ok h0;have hfit:=filA_fit h h2;have hg:=(okG_of h1).goodR;refine rc (jrl d) ?_;cases hd:dayG d
  ·have he:onE r id d=2:=by unfold onE; rw[if_neg (fun e=>e h0),if_pos hd]
   rw[he,if_neg dc];refine run ?_;exact finW (wk_vdtZ 2)
  ·have he:onE r id d=0:=by unfold onE; rw[if_neg (fun e=>e h0),if_neg (by rw[hd]; decide)]
   rw[he,if_pos rfl];refine rc (den_newLook L r (filA r id) d h hfit hg) ?_;refine rc (den_vdt L r (filA r id) d h hfit) ?_;exact za
 ·have he:onE r id d=askE r id:=by unfold onE; rw[if_pos h0]
  rw[if_neg h0,he,if_neg h0];refine runW h0 ?_;exact finW (wk_vdtZ _)
inductive WkR (size:Nat):List (List V)->List (List V)->Prop
 | nil:WkR size [] []
 | cons {a b:List V} {l m:List (List V)} (h:Wks a b) (hs:b.length=size) (ho:(b.all fun v=>v.one)=true) (t:WkR size l m):WkR size (a::l) (b::m)
end Go.Arc
