/- A part of this claim. -/
import Derived.Test.YtcmpmdgdchmojaaGreatDoorW83
import Derived.Test.YtcmpmdgdchmojaaGreatDoorW84
import Derived.Shelf.Sort.Plain
set_option maxRecDepth 100000
namespace Go.Arc
open Go.Ab Go.RowKit Go.Proofs
variable {T : Lay}
theorem wk_tups {l m:List V} (h:Wks l m):Wk (.tup l) (.tup m):= .tup h.len fun j v u e1 e2=>by
 obtain ⟨v',h1,h2⟩:=h.get e2;rw[e1] at h1;cases h1;exact h2
theorem fstE_cons (x:Int) (r:List Int):fstE (x::r)=if x≠0 then x else fstE r:=rfl
theorem fstE_app:∀a b:List Int,fstE (a++b)=if fstE a≠0 then fstE a else fstE b
 | [],b=>by rw[List.nil_append,if_neg (fun e=>e rfl)]
 | x::a,b=>by
  have ih:=fstE_app a b;rw[List.cons_append,fstE_cons,fstE_cons];by_cases h:x≠0
  ·rw[if_pos h,if_pos h,if_pos h]
  ·rw[if_neg h,if_neg h]; exact ih
def lstK (r:Rgs):Nat->List Elm
 | 0=>selE r
 | 1=>crtE r
 | _=>depE r
def preK (r:Rgs):Nat->List Elm
 | 0=>[]
 | 1=>selE r
 | _=>selE r++crtE r
def errK (r:Rgs) (k:Nat):Int×Int:=(0,listE r.fls (preK r k) (lstK r k))
def psK (r:Rgs):Nat->List (Int×Bool)
 | 0=>[]
 | k+1=>if 1024<(lstK r k).length then psK r k else elsM r.fls (preK r k) none (psK r k) (lstK r k)
theorem checkG_eq (r:Rgs):checkG r=if listsE r≠0 then listsE r else fstE ((List.range' 0 3).map fun j=>(errK r j).2):=fstE_app [(checkO r.ofs).2,(check r.pls).2,(checkF r.ofs r.pls r.fls).2,(checkR r.rls).2,(checkH r.hls).2] [listE r.fls [] (selE r),listE r.fls (selE r) (crtE r),listE r.fls (selE r++crtE r) (depE r)]
theorem listE_ok {fs:List Fil} {pre l:List Elm} (h:listE fs pre l=0):l.length<=1024/\elsE fs pre none l=0:=by
 unfold listE at h;by_cases hb:1024<l.length
 ·rw[if_pos hb] at h; cases h
 ·rw[if_neg hb] at h; exact ⟨by omega,h⟩
theorem psK_get (r:Rgs):∀k,k<3->(∀j,j<k->(errK r j).2=0)->∀n,getG (psK r k) n=goneB (preK r k) n
 | 0,_,_=>fun n=>rfl
 | k+1,hk,h=>by
  have h0:=h k (Nat.lt_succ_self k);obtain ⟨h1,h2⟩:=listE_ok h0;have ih:=psK_get r k (by omega) fun j hj=>h j (by omega);unfold psK;rw[if_neg (by omega)];intro n;rw[elsM_get r.fls _ _ _ _ ih h2]
  match k,hk with
  | 0,_=>rfl
  | 1,_=>rfl
theorem lstK_fit {r:Rgs} (h:r.Fit) (k:Nat):(lstK r k).length<=1048576/\∀x∈lstK r k,x.fls.length<=1048576:=by
 match k with
 | 0=>exact ⟨by show (selE r).length<=1048576; unfold selE; rw[List.length_map]; exact h.sls.1,fun x hx=>by
   obtain ⟨s,hs,rfl⟩:=List.mem_map.1 hx; exact h.sls.2 s hs⟩
 | 1=>exact ⟨by show (crtE r).length<=1048576; unfold crtE; rw[List.length_map]; exact h.crs.1,fun x hx=>by
   obtain ⟨s,hs,rfl⟩:=List.mem_map.1 hx; exact (h.crs.2 s hs).1⟩
 | n+2=>exact ⟨by show (depE r).length<=1048576; unfold depE; rw[List.length_map]; exact h.dps,fun x hx=>by
   obtain ⟨s,hs,rfl⟩:=List.mem_map.1 hx; show [s.fil].length<=1048576; simp⟩
set_option maxHeartbeats 4000000 in
theorem den_CheckG (L:LibC T) (r:Rgs) (h:r.Fit):Den Tryz.prog T 122 [.agg r.cs] (vi (checkG r)):=by
 have hs:=h.sls.1;have hc:=h.crs.1;have hd:=h.dps;rw[checkG_eq];refine den_of_body follows (fun args w=>Tryz.call122 args w) Tryz.func122 rfl 93 rfl ?_;refine run ?_;refine call (den_lists L r h) ?_;by_cases h0:listsE r=0
 ·rw[if_neg (by rw[h0]; decide)];refine runW h0 ?_
  refine loop ⟨[1,4,5,6,23,24,25],[1],[4],[(4,236,4)]⟩ (fun k:Nat=>k<=r.sls.length) (fun k=>r.sls.length-k)
   (fun k=>⟨93,[(1,.p 1 0),(4,.v (elms ((r.sls.take k).map Sel.el))),(5,.v (.val (.slice none 0 0))),(6,.v (.val (.slice none 0 0))),(23,.v (sels r.sls)),(24,.v (vi r.sls.length)),(25,.v (vi k))],[(1,.var r.cs)],[(236,[4])]⟩) 0 (Nat.zero_le _) ?_
  intro k hk;by_cases hlt:k<r.sls.length
  ·obtain ⟨x,hx,-,-⟩:=drop_at hlt
   have hts:((r.sls.take k).map Sel.el).map Elm.cs++[[vi x.smp,vi x.day,ints x.fls,vb false]]=((r.sls.take (k+1)).map Sel.el).map Elm.cs:=by
    rw[List.take_succ_eq_append_getElem hlt,List.map_append,List.map_append];obtain ⟨_,rfl⟩:=List.getElem?_eq_some_iff.1 hx;rfl
   refine runW (And.intro hx hts) ?_;exact round (k+1) hlt (by omega)
  have hkl:k=r.sls.length:=by omega
  subst hkl;rw[List.take_length];obtain ⟨S,hS⟩:∃S,r.sls.map Sel.el=S:=⟨_,rfl⟩;rw[hS];refine run ?_
  refine loop ⟨[1,4,5,6,41,42,43],[1],[5],[(5,236,4)]⟩ (fun k:Nat=>k<=r.crs.length) (fun k=>r.crs.length-k)
   (fun k=>⟨93,[(1,.p 1 0),(4,.v (elms S)),(5,.v (elms ((r.crs.take k).map Crt.el))),(6,.v (.val (.slice none 0 0))),(41,.v (crts r.crs)),(42,.v (vi r.crs.length)),(43,.v (vi k))],[(1,.var r.cs)],[(236,[5])]⟩) 0 (Nat.zero_le _) ?_
  intro k hk;by_cases hlt:k<r.crs.length
  ·obtain ⟨x,hx,-,-⟩:=drop_at hlt
   have hts:((r.crs.take k).map Crt.el).map Elm.cs++[[vi x.num,vi x.day,ints x.fls,vb true]]=((r.crs.take (k+1)).map Crt.el).map Elm.cs:=by
    rw[List.take_succ_eq_append_getElem hlt,List.map_append,List.map_append];obtain ⟨_,rfl⟩:=List.getElem?_eq_some_iff.1 hx;rfl
   refine runW (And.intro hx hts) ?_;exact round (k+1) hlt (by omega)
  have hkl:k=r.crs.length:=by omega
  subst hkl;rw[List.take_length];obtain ⟨C,hC⟩:∃C,r.crs.map Crt.el=C:=⟨_,rfl⟩;rw[hC];refine run ?_
  refine loop ⟨[1,4,5,6,59,60,61],[1],[6],[(6,236,4)]⟩ (fun k:Nat=>k<=r.dps.length) (fun k=>r.dps.length-k)
   (fun k=>⟨93,[(1,.p 1 0),(4,.v (elms S)),(5,.v (elms C)),(6,.v (elms ((r.dps.take k).map Dep.el))),(59,.v (deps r.dps)),(60,.v (vi r.dps.length)),(61,.v (vi k))],[(1,.var r.cs)],[(236,[6])]⟩) 0 (Nat.zero_le _) ?_
  intro k hk;by_cases hlt:k<r.dps.length
  ·obtain ⟨x,hx,-,-⟩:=drop_at hlt
   have hts:((r.dps.take k).map Dep.el).map Elm.cs++[[vi 1,vi x.day,.slice 1 [[vi x.fil]],vb true]]=((r.dps.take (k+1)).map Dep.el).map Elm.cs:=by
    rw[List.take_succ_eq_append_getElem hlt,List.map_append,List.map_append];obtain ⟨_,rfl⟩:=List.getElem?_eq_some_iff.1 hx;rfl
   refine runW (And.intro hx hts) ?_;exact round (k+1) hlt (by omega)
  have hkl:k=r.dps.length:=by omega
  subst hkl;rw[List.take_length];obtain ⟨D,hD⟩:∃D,r.dps.map Dep.el=D:=⟨_,rfl⟩;rw[hD]
  have hrow:∀k,k<3->[[elms S],[elms C],[elms D]][k]? = some [elms (lstK r k)]:=fun k hk=>by
   rw[<- hS,<- hC,<- hD]
   match k,hk with
   | 0,_=>rfl
   | 1,_=>rfl
   | 2,_=>rfl
  refine run ?_;refine aw_name 75 ?_;intro b hb;clear hb;obtain ⟨R,hR⟩:∃R,[[elms S],[elms C],[elms D]]=R:=⟨_,rfl⟩;have hRl:R.length=3:=by rw[<- hR]; rfl
  rw[hR] at hrow
  refine loop ⟨[1,13,79,80,81],[1,75],[],[]⟩ (fun k:Nat=>k<=3/\∀j,j<k->(errK r j).2=0) (fun k=>3-k)
   (fun k=>⟨93,[(1,.p 1 0),(13,.m 75),(79,.v (.slice 1 R)),(80,.v (vi 3)),(81,.v (vi k))],[(1,.var r.cs),(75,.map (mapG (psK r k)) (some b))],[]⟩) 0 ⟨by decide,fun j hj=>absurd hj (Nat.not_lt_zero j)⟩ ?_ (by rw[<- hR]; rfl)
  rintro k ⟨hk,hall⟩;by_cases hlt:k<3
  ·have hkR:k<R.length:=by omega
   have hg:=hrow k hlt;have hfit:=lstK_fit h k;have hps:=psK_get r k hlt hall;refine runW hg ?_;have hden:=denS_elements (T:=T) r h (lstK r k) hfit.1 hfit.2 (preK r k) (psK r k) hps b;rw[show (if 1024<(lstK r k).length then psK r k else elsM r.fls (preK r k) none (psK r k) (lstK r k))=psK r (k+1) from rfl,show listE r.fls (preK r k) (lstK r k)=(errK r k).2 from rfl] at hden;refine callS [(999000,75)] hden (.cons (.v _) (.cons (.v _) (.cons (.m rfl) .nil))) ?_ ?_
   ·intro y hy;simp only[List.mem_singleton] at hy;subst hy;exact ⟨75,_,rfl,rfl,rfl,.inr rfl,rfl⟩
   by_cases hz:(errK r k).2=0
   ·refine runW hz ?_;refine round (k+1) ⟨hlt,fun j hj=> ?_⟩ (by omega);by_cases hjk:j=k
    ·subst hjk; exact hz
    ·exact hall j (by omega)
   ·refine runW hz ?_;refine fin (vi_eq ?_);have:=fst_at (errK r) 3 k 0 hlt (fun j hj=>by rw[Nat.zero_add]; exact hall j hj) (by rw[Nat.zero_add]; exact hz);rw[this,Nat.zero_add]
  ·refine run ?_;refine fin (vi_eq ?_);exact (fst_end (errK r) 3 0 fun j hj=>by rw[Nat.zero_add]; exact hall j (by omega)).symm
 ·rw[if_pos h0];refine runW h0 ?_;exact fin rfl
end Go.Arc
set_option maxRecDepth 100000
namespace Go.Arc
open Go.Ab Go.RowKit Go.Proofs
variable {T : Lay}
abbrev filZ:List V:=[vi 0,vi 0,vi 0,vi 0,.str [],.str [],vi 0,.val (.slice none 0 0)]
def askE (r:Rgs) (id:Int):Int:=if checkG r≠0 then 1 else if findF r.fls id<0 then 7 else 0
theorem askE_1 {r:Rgs} {id:Int} (h:checkG r≠0):askE r id=1:=if_pos h
theorem askE_7 {r:Rgs} {id:Int} (h:checkG r=0) (h2:findF r.fls id<0):askE r id=7:=by unfold askE; rw[if_neg (fun e=>e h),if_pos h2]
theorem askE_0 {r:Rgs} {id:Int} (h:checkG r=0) (h2:¬findF r.fls id<0):askE r id=0:=by unfold askE; rw[if_neg (fun e=>e h),if_neg h2]
def filA (r:Rgs) (id:Int):Fil:=match r.fls.find? (isIdF id) with
 | some f=>f
 | none=>⟨0,0,0,0,[],[],0,[]⟩
theorem find_fil {r:Rgs} {id:Int} (h:¬findF r.fls id<0):∃k:Nat,findF r.fls id=k/\k<r.fls.length/\r.fls[k]? = some (filA r id)/\filA r id∈r.fls/\(filA r id).id=id:=by
 rcases ix_fnd (isIdF id) r.fls with ⟨h1,-⟩ | ⟨k,q,h1,h2,h3,h4,h5⟩
 ·exact absurd (show findF r.fls id<0 by unfold findF; rw[h1]; decide) h
 ·have he:filA r id=q:=by unfold filA; rw[h5]
  rw[he];exact ⟨k,h1,h2,h3,h4,of_decide_eq_true (p:=q.id=id) (show isIdF id q=true from List.find?_some (p:=isIdF id) h5)⟩
theorem den_find11 (L:LibC T) (r:Rgs) (h:r.Fit) (id:Int):Den Tryz.prog T 60 [.agg r.cs,vi id] (if askE r id=0 then .tup [.agg (filA r id).cs,vi 0] else .tup [.agg filZ,vi (askE r id)]):=by
 have hf:=h.fls.1;refine den_of_body follows (fun args w=>Tryz.call60 args w) Tryz.func60 rfl 23 rfl ?_;refine run ?_;refine call (den_CheckG L r h) ?_;by_cases h1:checkG r=0
 ·refine runW h1 ?_;refine call (den_FindF r.fls id hf) ?_;by_cases h2:findF r.fls id<0
  ·rw[askE_7 h1 h2,if_neg (by decide)];refine runW (eq_true h2) ?_;exact fin rfl
  ·obtain ⟨k,hk,hlt,hx,-,-⟩:=find_fil h2;rw[askE_0 h1 h2,if_pos rfl];have h2':¬((k:Int)<0):=by omega
   rw[hk];refine runW (And.intro hx (eq_false h2')) ?_;exact fin rfl
 ·rw[askE_1 h1,if_neg (by decide)];refine runW h1 ?_;exact fin rfl
def onE (r:Rgs) (id d:Int):Int:=if askE r id≠0 then askE r id else if dayG d=false then 2 else 0
def vdtZ:Vdt:=⟨0,0,0,0,0,[]⟩
def onV (r:Rgs) (id d:Int):Vdt:=if onE r id d=0 then vdt r (filA r id) d else vdtZ
theorem filA_fit {r:Rgs} (h:r.Fit) {id:Int} (h2:¬findF r.fls id<0):(filA r id).Fit:=by
 obtain ⟨k,-,-,-,hm,-⟩:=find_fil h2;exact h.fls.2 _ hm
theorem ask_ok {r:Rgs} {id:Int} (h:askE r id=0):checkG r=0/\¬findF r.fls id<0:=by
 unfold askE at h;split at h
 ·cases h
 rename_i h1;split at h
 ·cases h
 ·exact ⟨by omega,by assumption⟩
theorem wk_vdtZ (e:Int):Wk (.tup [.agg (vcs 0 0 0 0 0 (.val (.slice none 0 0))),vi e]) (.tup [.agg vdtZ.cs,vi e]):=wk_tups (.cons (wk_vcs 0 0 0 0 0) (.cons (.refl _) .nil))
theorem den_vdt (L:LibC T) (r:Rgs) (f:Fil) (d:Int) (hr:r.Fit) (hf:f.Fit):Den Tryz.prog T 63 [.agg (lokOf r f d).cs] (.agg (vdt r f d).cs):=by
 rw[<- vdt_L];exact den_decide L (lokOf r f d) hr hf (Nat.le_trans (rulesF_len r f d) hr.rls.1)
theorem den_On (L:LibC T) (r:Rgs) (h:r.Fit) (id d:Int):Den Tryz.prog T 18 [.agg r.cs,vi id,vi d] (.tup [.agg (onV r id d).cs,vi (onE r id d)]):=by
 refine den_of_body follows (fun args w=>Tryz.call18 args w) Tryz.func18 rfl 29 rfl ?_;refine run ?_;refine call (den_find11 L r h id) ?_;unfold onV;by_cases h0:askE r id=0
 ·rw[if_pos h0];obtain ⟨h1,h2⟩:=ask_ok h0;have hfit:=filA_fit h h2;have hg:=(okG_of h1).goodR;refine run ?_;refine call (den_isDay11 d) ?_;cases hd:dayG d
  ·have he:onE r id d=2:=by unfold onE; rw[if_neg (fun e=>e h0),if_pos hd]
   rw[he,if_neg (by decide)];refine run ?_;exact finW (wk_vdtZ 2)
  ·have he:onE r id d=0:=by unfold onE; rw[if_neg (fun e=>e h0),if_neg (by rw[hd]; decide)]
   rw[he,if_pos rfl];refine run ?_;refine call (den_newLook L r (filA r id) d h hfit hg) ?_;refine run ?_;refine call (den_vdt L r (filA r id) d h hfit) ?_;refine run ?_;exact fin rfl
 ·have he:onE r id d=askE r id:=by unfold onE; rw[if_pos h0]
  rw[if_neg h0,he,if_neg h0];refine runW h0 ?_;exact finW (wk_vdtZ _)
end Go.Arc
set_option maxRecDepth 100000
namespace Go.Arc
open Go.Ab Go.RowKit Go.Proofs
variable {T : Lay}
theorem timV_vdt {r:Rgs} {f:Fil} {d:Int} (h0:state f d≠0) (h1:gone1 r f d=false) (h2:gone2 r f d=false) (hl:rulesF r f d≠[]) (hs:state f d≠1) (hk:(rulesF r f d).find? keepB=none):vdt r f d=timV r f d (rulesF r f d):=by
 unfold vdt timV;simp only[h0,h1,h2,hl,hs,if_false,Bool.false_eq_true,hk];cases (rulesF r f d).find? (waitB f d) <;> rfl
set_option maxHeartbeats 2000000 in
theorem den_DecideRef (L:LibC T) (r:Rgs) (f:Fil) (d:Int) (hr:r.Fit) (hok:OkG r) (hfm:f∈r.fls) (hd:d<=1048575):Den Tryz.prog T 99 [.agg r.cs,.agg f.cs,vi d] (.agg (vdt r f d).cs):=by
 have hf:=hr.fls.2 f hfm;have hgo:=hok.gone f;have hc:=hr.crs.1;have hdp:=hr.dps;refine den_of_body follows (fun args w=>Tryz.call99 args w) Tryz.func99 rfl 84 rfl ?_;by_cases hop:d<f.opn
 ·have hs0:state f d=0:=if_pos hop;have hv:vdt r f d=⟨0,f.id,d,0,0,[]⟩:=by unfold vdt; simp only[hs0,if_true]
  rw[hv];refine runW (eq_true hop) ?_;exact finW (wk_vcs _ _ _ _ _)
 have hs0:state f d≠0:=by
  unfold state;rw[if_neg hop];split <;> decide
 refine runW (eq_false hop) ?_;refine call (den_Gone r hr f.id r.crs.length r.dps.length (Nat.le_refl _) (Nat.le_refl _)) ?_
 have key:∀(t by':Int),goneR r f.id r.crs.length r.dps.length=(t,by')->(by'≠0/\t<=d->vdt r f d=⟨by',f.id,d,0,0,[]⟩)/\(¬(by'≠0/\t<=d)->gone1 r f d=false/\gone2 r f d=false):=fun t by' he=>by
  rcases hgo with ⟨t1,e1,e2⟩ | ⟨t1,e1,e2⟩ | ⟨e1,e2⟩
  ·rw[he] at e1;cases e1;obtain ⟨a1,a2⟩:=e2 d;refine ⟨fun h=> ?_,fun h=> ?_⟩
   ·rw[decide_eq_true h.2] at a1;unfold vdt;simp only[hs0,a1,if_true,if_false]
   ·have:¬t<=d:=fun e=>h ⟨by decide,e⟩;rw[decide_eq_false this] at a1;exact ⟨a1,a2⟩
  ·rw[he] at e1;cases e1;obtain ⟨a1,a2⟩:=e2 d;refine ⟨fun h=> ?_,fun h=> ?_⟩
   ·rw[decide_eq_true h.2] at a2;unfold vdt;simp only[hs0,a1,a2,if_true,if_false,Bool.false_eq_true]
   ·have:¬t<=d:=fun e=>h ⟨by decide,e⟩;rw[decide_eq_false this] at a2;exact ⟨a1,a2⟩
  ·rw[he] at e1;cases e1;exact ⟨fun h=>absurd rfl h.1,fun _=>e2 d⟩
 obtain ⟨⟨t,by'⟩,he⟩:∃y,goneR r f.id r.crs.length r.dps.length=y:=⟨_,rfl⟩;obtain ⟨k1,k2⟩:=key t by' he
 rw[he];by_cases hb:by'=0
 ·obtain ⟨g1,g2⟩:=k2 fun e=>e.1 hb;refine runW hb ?_;refine callO (den_RulesRef L r f d hr hf hok.goodR hok.goodL) ?_;by_cases hnil:rulesF r f d=[]
  ·have hv:vdt r f d=⟨0,f.id,d,0,0,[]⟩:=by unfold vdt; simp only[hs0,g1,g2,hnil,if_true,if_false,Bool.false_eq_true]
   rw[hv,hnil];refine run ?_;exact finW (wk_vcs _ _ _ _ _)
  have hlp:=List.length_pos_iff.2 hnil;have hmem:∀q∈rulesF r f d,q∈r.rls:=fun q h=>rulesF_mem h;have hlen:=rulesF_len r f d;have hrb:=hr.rls.1;by_cases hst:state f d=1
  ·have hv:vdt r f d=⟨3,f.id,d,0,0,[]⟩:=by
    unfold vdt;simp only[g1,g2,hnil,if_false,Bool.false_eq_true];rw[if_neg hs0,if_pos hst]
   rw[hv];have hz:¬((rulesF r f d).length:Int)=0:=by omega
   obtain ⟨rs,hrs⟩:∃rs,rulesF r f d=rs:=⟨_,rfl⟩;rw[hrs] at hz hlp ⊢;refine runW (eq_false hz) ?_;refine call (den_StateRef f d) ?_;refine runW hst ?_;exact finW (wk_vcs _ _ _ _ _)
  have htv:=fun hk=>timV_vdt (r:=r) (f:=f) (d:=d) hs0 g1 g2 hnil hst hk;have hkv:∀q,(rulesF r f d).find? keepB=some q->vdt r f d=⟨4,f.id,d,q.id,0,[]⟩:=fun q hq=>by unfold vdt; simp only[hs0,g1,g2,hnil,hst,if_false,Bool.false_eq_true,hq]
  obtain ⟨rs,hrs⟩:∃rs,rulesF r f d=rs:=⟨_,rfl⟩;rw[hrs] at hlp hmem hlen htv hkv hnil ⊢;have hz:¬(rs.length:Int)=0:=by omega
  refine runW (eq_false hz) ?_;refine call (den_StateRef f d) ?_;refine runW (eq_false hst) ?_
  refine loop ⟨[2,3,4,6,7,10,11],[3,4,6,7],[],[]⟩ (fun k:Nat=>k<=rs.length/\∀q∈rs.take k,keepB q=false) (fun k=>rs.length-k)
   (fun k=>⟨84,[(2,.v (vi d)),(3,.p 3 0),(4,.p 4 0),(6,.p 6 0),(7,.p 7 0),(10,.v (ruls rs)),(11,.v (vi k))],[(3,.var r.cs),(4,.var f.cs),(6,.var (vcs 0 0 0 0 0 (.val (.slice none 0 0)))),(7,.var (vcs 0 f.id d 0 0 (.val (.slice none 0 0))))],[]⟩) 0 ⟨Nat.zero_le _,by simp⟩ ?_
  rintro k ⟨hk,hall⟩;by_cases hlt:k<rs.length
  ·obtain ⟨x,hx,-,hm⟩:=drop_at hlt;by_cases ha:x.act=3
   ·rw[hkv x (find_at' hall hx (decide_eq_true ha))];refine runD (And.intro hx ha) ?_;refine aw_tree ((.one 0 (.one 1 (.one 5 (.alt 2 (.one 3 (.alt 4 (.alt 6 (.one 7 (.alt 8 .done .nil)) .nil) (.alt 6 (.alt 4 (.one 7 (.alt 8 .done .nil)) .nil) .nil))) (.alt 6 (.alt 2 (.one 3 (.alt 4 (.one 7 (.alt 8 .done .nil)) .nil)) .nil) .nil)))))) ?_;refine runTree hx ?_;refine run ?_;exact finW (wk_vcs _ _ _ _ _)
   ·refine runW (And.intro hx (eq_false ha)) ?_;exact round (k+1) ⟨hlt,take_snoc hall hx (decide_eq_false ha)⟩ (by omega)
  ·rw[htv (find_no' (take_all hall hlt))];refine run ?_;refine call (den_timedRef L r f d rs hr hf hok hfm hd hnil hmem (by omega)) ?_;refine run ?_;exact fin rfl
 by_cases ht:t<=d
 ·rw[k1 ⟨hb,ht⟩];refine runW (And.intro hb (eq_true ht)) ?_;exact finW (wk_vcs _ _ _ _ _)
 ·obtain ⟨g1,g2⟩:=k2 fun e=>ht e.2;refine runW (And.intro hb (eq_false ht)) ?_;refine callO (den_RulesRef L r f d hr hf hok.goodR hok.goodL) ?_;by_cases hnil:rulesF r f d=[]
  ·have hv:vdt r f d=⟨0,f.id,d,0,0,[]⟩:=by unfold vdt; simp only[hs0,g1,g2,hnil,if_true,if_false,Bool.false_eq_true]
   rw[hv,hnil];refine run ?_;exact finW (wk_vcs _ _ _ _ _)
  have hlp:=List.length_pos_iff.2 hnil;have hmem:∀q∈rulesF r f d,q∈r.rls:=fun q h=>rulesF_mem h;have hlen:=rulesF_len r f d;have hrb:=hr.rls.1;by_cases hst:state f d=1
  ·have hv:vdt r f d=⟨3,f.id,d,0,0,[]⟩:=by
    unfold vdt;simp only[g1,g2,hnil,if_false,Bool.false_eq_true];rw[if_neg hs0,if_pos hst]
   rw[hv];have hz:¬((rulesF r f d).length:Int)=0:=by omega
   obtain ⟨rs,hrs⟩:∃rs,rulesF r f d=rs:=⟨_,rfl⟩;rw[hrs] at hz hlp ⊢;refine runW (eq_false hz) ?_;refine call (den_StateRef f d) ?_;refine runW hst ?_;exact finW (wk_vcs _ _ _ _ _)
  have htv:=fun hk=>timV_vdt (r:=r) (f:=f) (d:=d) hs0 g1 g2 hnil hst hk;have hkv:∀q,(rulesF r f d).find? keepB=some q->vdt r f d=⟨4,f.id,d,q.id,0,[]⟩:=fun q hq=>by unfold vdt; simp only[hs0,g1,g2,hnil,hst,if_false,Bool.false_eq_true,hq]
  obtain ⟨rs,hrs⟩:∃rs,rulesF r f d=rs:=⟨_,rfl⟩;rw[hrs] at hlp hmem hlen htv hkv hnil ⊢;have hz:¬(rs.length:Int)=0:=by omega
  refine runW (eq_false hz) ?_;refine call (den_StateRef f d) ?_;refine runW (eq_false hst) ?_
  refine loop ⟨[2,3,4,6,7,10,11],[3,4,6,7],[],[]⟩ (fun k:Nat=>k<=rs.length/\∀q∈rs.take k,keepB q=false) (fun k=>rs.length-k)
   (fun k=>⟨84,[(2,.v (vi d)),(3,.p 3 0),(4,.p 4 0),(6,.p 6 0),(7,.p 7 0),(10,.v (ruls rs)),(11,.v (vi k))],[(3,.var r.cs),(4,.var f.cs),(6,.var (vcs 0 0 0 0 0 (.val (.slice none 0 0)))),(7,.var (vcs 0 f.id d 0 0 (.val (.slice none 0 0))))],[]⟩) 0 ⟨Nat.zero_le _,by simp⟩ ?_
  rintro k ⟨hk,hall⟩;by_cases hlt:k<rs.length
  ·obtain ⟨x,hx,-,hm⟩:=drop_at hlt;by_cases ha:x.act=3
   ·rw[hkv x (find_at' hall hx (decide_eq_true ha))];refine runD (And.intro hx ha) ?_;refine aw_tree ((.one 0 (.one 1 (.one 5 (.alt 2 (.one 3 (.alt 4 (.alt 6 (.one 7 (.alt 8 .done .nil)) .nil) (.alt 6 (.alt 4 (.one 7 (.alt 8 .done .nil)) .nil) .nil))) (.alt 6 (.alt 2 (.one 3 (.alt 4 (.one 7 (.alt 8 .done .nil)) .nil)) .nil) .nil)))))) ?_;refine runTree hx ?_;refine run ?_;exact finW (wk_vcs _ _ _ _ _)
   ·refine runW (And.intro hx (eq_false ha)) ?_;exact round (k+1) ⟨hlt,take_snoc hall hx (decide_eq_false ha)⟩ (by omega)
  ·rw[htv (find_no' (take_all hall hlt))];refine run ?_;refine call (den_timedRef L r f d rs hr hf hok hfm hd hnil hmem (by omega)) ?_;refine run ?_;exact fin rfl
end Go.Arc
set_option maxRecDepth 100000
namespace Go.Arc
open Go.Ab Go.RowKit Go.Proofs
variable {T : Lay}
end Go.Arc
set_option maxRecDepth 100000
namespace Go.Arc
open Go.Ab Go.RowKit Go.Proofs
variable {T : Lay}
end Go.Arc
set_option maxRecDepth 100000
namespace Go.Arc
open Go.Ab Go.RowKit Go.Proofs
variable {T : Lay}
end Go.Arc
set_option maxRecDepth 100000
namespace Go.Arc
open Go.Ab Go.RowKit Go.Proofs
variable {T : Lay}
inductive WkR (size:Nat):List (List V)->List (List V)->Prop
 | nil:WkR size [] []
 | cons {a b:List V} {l m:List (List V)} (h:Wks a b) (hs:b.length=size) (ho:(b.all fun v=>v.one)=true) (t:WkR size l m):WkR size (a::l) (b::m)
theorem WkR.wk {size:Nat} {l m:List (List V)} (h:WkR size l m):Wk (.slice size l) (.slice size m):=by
  have hl:l.length=m.length:=by induction h with | nil=>rfl | cons _ _ _ _ ih=>simp[ih]
  refine Wk.slice hl (fun e he=> ?_) (fun e he c hc=> ?_) ?_
  · clear hl
    induction h with
    | nil=>cases he
    | cons _ hs _ _ ih => rcases List.mem_cons.1 he with rfl | he; · exact hs
                          · exact ih he
  · clear hl
    induction h with
    | nil=>cases he
    | cons _ _ ho _ ih => rcases List.mem_cons.1 he with rfl | he; · exact List.all_eq_true.1 ho c hc
                          · exact ih he
  · clear hl
    induction h with
    | nil=>intro i j e u v c h1; simp at h1
    | cons hw _ _ _ ih=>
      intro i j e u v c h1 h2 h3 h4;cases i with
      | zero=>
        simp only[List.getElem?_cons_zero,Option.some.injEq] at h1 h2;subst h1 h2;obtain ⟨v',q1,q2⟩:=hw.get h4;rw[h3] at q1;cases q1;exact q2
      | succ i=>exact ih i j e u v c (by simpa using h1) (by simpa using h2) h3 h4
def exG:Rgs:=⟨[⟨1,[65],0,1048576,[]⟩],[⟨1,0,1048576,[⟨[49],[84]⟩,⟨[49,46,49],[84]⟩],[]⟩],[⟨7,1,5,10,[49,46,49],[84],0,[]⟩],[⟨3,[49],[99,108,111,115,101,100],0,false,1,0,1048576⟩],[⟨2,1,7,[],[82],12,20⟩],[],[],[],[],[],[],0⟩
theorem exG_fit:exG.Fit:=by
 refine ⟨⟨by decide,fun o ho=> ?_⟩,⟨by decide,fun p hp=> ?_⟩,⟨by decide,fun f hf=> ?_⟩,⟨by decide,fun q hq=> ?_⟩,⟨by decide,fun q hq=> ?_⟩,⟨by decide,fun q hq=>(by cases hq)⟩,⟨by decide,fun q hq=>(by cases hq)⟩,⟨by decide,fun q hq=>(by cases hq)⟩,by decide,⟨by decide,fun q hq=>(by cases hq)⟩,by decide⟩
 ·simp only[exG,List.mem_cons,List.not_mem_nil,or_false] at ho;subst ho;exact ⟨by decide,by decide⟩
 ·simp only[exG,List.mem_cons,List.not_mem_nil,or_false] at hp;subst hp;refine ⟨by decide,by decide,fun c hc=> ?_,fun c hc=>(by cases hc)⟩;simp only[List.mem_cons,List.not_mem_nil,or_false] at hc;rcases hc with rfl | rfl <;> exact ⟨by decide,by decide⟩
 ·simp only[exG,List.mem_cons,List.not_mem_nil,or_false] at hf;subst hf;exact ⟨by decide,by decide,by decide,fun n hn=>(by cases hn)⟩
 ·simp only[exG,List.mem_cons,List.not_mem_nil,or_false] at hq;subst hq;exact ⟨by decide,by decide⟩
 ·simp only[exG,List.mem_cons,List.not_mem_nil,or_false] at hq;subst hq;exact ⟨by decide,by decide⟩
def exG7:Fil:=⟨7,1,5,10,[49,46,49],[84],0,[]⟩
theorem ex_ask:askE exG 7=0:=by decide +kernel
theorem ex_fil:filA exG 7=exG7:=rfl
theorem ex_onE:onE exG 7 15=0:=by unfold onE; rw[ex_ask]; decide
theorem ex_on:onV exG 7 15=⟨7,7,15,3,10,[2]⟩:=by
 unfold onV;rw[ex_onE,if_pos rfl,ex_fil];have h1:(vdt exG exG7 15).kind=7:=by decide +kernel
 have h2:(vdt exG exG7 15).fil=7:=by decide +kernel
 have h3:(vdt exG exG7 15).day=15:=by decide +kernel
 have h4:(vdt exG exG7 15).rule=3:=by decide +kernel
 have h5:(vdt exG exG7 15).due=10:=by decide +kernel
 have h6:(vdt exG exG7 15).hls=[2]:=by decide +kernel
 cases hv:vdt exG exG7 15;rw[hv] at h1 h2 h3 h4 h5 h6;simp only at h1 h2 h3 h4 h5 h6;rw[h1,h2,h3,h4,h5,h6]
end Go.Arc
set_option maxRecDepth 100000
namespace Go.Arc
open Go.Ab Go.RowKit Go.Proofs
variable {T : Lay}
def manyS (l:List Sel):Bool:=l.any fun s=>decide (12<s.fls.length)
def manyC (l:List Crt):Bool:=l.any fun s=>decide (12<s.fls.length)
def fewG0 (r:Rgs):Bool:=fewO r.ofs && few r.pls && fewF r.fls && fewR r.rls && fewH r.hls && !decide (8<r.sls.length) && !decide (8<r.crs.length) && !decide (8<r.dps.length)
def fewG (r:Rgs):Bool:=fewG0 r && !manyS r.sls && !manyC r.crs
theorem den_FewG (r:Rgs) (h:r.Fit):Den Tryz.prog T 11 [.agg r.cs] (vb (fewG r)):=by
 have hs:=h.sls.1;have hc:=h.crs.1;have hd:=h.dps;refine den_of_body follows (fun args w=>Tryz.call11 args w) Tryz.func11 rfl 81 rfl ?_;unfold fewG fewG0;refine run ?_;refine call (den_FewO r.ofs h.ofs) ?_;cases e1:fewO r.ofs
 ·refine run ?_;exact fin rfl
 refine run ?_;refine call (den_Few r.pls h.pls) ?_;cases e2:few r.pls
 ·refine run ?_;exact fin rfl
 refine run ?_;refine call (den_FewF r.fls h.fls) ?_;cases e3:fewF r.fls
 ·refine run ?_;exact fin rfl
 refine run ?_;refine call (den_FewR r.rls h.rls) ?_;cases e4:fewR r.rls
 ·refine run ?_;exact fin rfl
 refine run ?_;refine call (den_FewH r.hls h.hls) ?_;cases e5:fewH r.hls
 ·refine run ?_;exact fin rfl
 by_cases g1:8<r.sls.length
 ·rw[decide_eq_true g1];refine runW (eq_true g1) ?_;exact fin rfl
 by_cases g2:8<r.crs.length
 ·rw[decide_eq_true g2,decide_eq_false g1];refine runW (And.intro (eq_false g1) (eq_true g2)) ?_;exact fin rfl
 by_cases g3:8<r.dps.length
 ·rw[decide_eq_true g3,decide_eq_false g2,decide_eq_false g1];refine runW (And.intro (eq_false g1) (And.intro (eq_false g2) (eq_true g3))) ?_;exact fin rfl
 rw[decide_eq_false g3,decide_eq_false g2,decide_eq_false g1];refine runW (And.intro (eq_false g1) (And.intro (eq_false g2) (eq_false g3))) ?_
 refine loop ⟨[1,3],[1],[],[]⟩ (fun k:Nat=>k<=r.sls.length/\∀s∈r.sls.take k,decide (12<s.fls.length)=false) (fun k=>r.sls.length-k)
  (fun k=>⟨81,[(1,.p 1 0),(3,.v (vi k))],[(1,.var r.cs)],[]⟩) 0 ⟨Nat.zero_le _,by simp⟩ ?_
 rintro k ⟨hk,hall⟩;by_cases hlt:k<r.sls.length
 ·obtain ⟨x,hx,-,hm⟩:=drop_at hlt;have hxf:=h.sls.2 x hm;by_cases hb:12<x.fls.length
  ·have hmany:manyS r.sls=true:=List.any_eq_true.2 ⟨x,hm,decide_eq_true hb⟩;rw[hmany];refine runW (And.intro hx (eq_true hb)) ?_;exact fin rfl
  ·refine runW (And.intro hx (eq_false hb)) ?_;exact round (k+1) ⟨hlt,take_snoc hall hx (decide_eq_false hb)⟩ (by omega)
 have hms:manyS r.sls=false:=List.any_eq_false.2 fun x hx=>by rw[take_all hall hlt x hx]; decide
 rw[hms];clear hall;refine run ?_
 refine loop ⟨[1,4],[1],[],[]⟩ (fun k:Nat=>k<=r.crs.length/\∀s∈r.crs.take k,decide (12<s.fls.length)=false) (fun k=>r.crs.length-k)
  (fun k=>⟨81,[(1,.p 1 0),(4,.v (vi k))],[(1,.var r.cs)],[]⟩) 0 ⟨Nat.zero_le _,by simp⟩ ?_
 rintro j ⟨hj,hall⟩;by_cases hjl:j<r.crs.length
 ·obtain ⟨x,hx,-,hm⟩:=drop_at hjl;have hxf:=(h.crs.2 x hm).1;by_cases hb:12<x.fls.length
  ·have hmany:manyC r.crs=true:=List.any_eq_true.2 ⟨x,hm,decide_eq_true hb⟩;rw[hmany];refine runW (And.intro hx (eq_true hb)) ?_;exact fin rfl
  ·refine runW (And.intro hx (eq_false hb)) ?_;exact round (j+1) ⟨hjl,take_snoc hall hx (decide_eq_false hb)⟩ (by omega)
 have hmc:manyC r.crs=false:=List.any_eq_false.2 fun x hx=>by rw[take_all hall hjl x hx]; decide
 rw[hmc];refine run ?_;exact fin rfl
end Go.Arc
set_option maxRecDepth 100000
namespace Go.Arc
open Go.Ab Go.RowKit Go.Proofs
variable {T : Lay}
theorem dayG_le {d:Int} (h:dayG d=true):d<=1048575:=by
 unfold dayG at h;rw[Bool.and_eq_true,decide_eq_true_eq,decide_eq_true_eq] at h;exact h.2
theorem den_asks (L:LibC T) (r:Rgs) (h:r.Fit) (id:Int):Den Tryz.prog T 97 [.agg r.cs,vi id] (if askE r id=0 then .tup [vi (findF r.fls id),vi 0] else .tup [vi 0,vi (askE r id)]):=by
 have hf:=h.fls.1;refine den_of_body follows (fun args w=>Tryz.call97 args w) Tryz.func97 rfl 17 rfl ?_;refine run ?_;refine call (den_CheckGRef L r h) ?_;by_cases h1:checkG r=0
 ·refine runW h1 ?_;refine call (den_FindFRef r.fls id hf) ?_;by_cases h2:findF r.fls id<0
  ·rw[askE_7 h1 h2,if_neg (by decide)];refine runW (eq_true h2) ?_;exact fin rfl
  ·rw[askE_0 h1 h2,if_pos rfl];refine runW (eq_false h2) ?_;exact fin rfl
 ·rw[askE_1 h1,if_neg (by decide)];refine runW h1 ?_;exact fin rfl
theorem den_OnRef (L:LibC T) (r:Rgs) (h:r.Fit) (id d:Int):Den Tryz.prog T 49 [.agg r.cs,vi id,vi d] (.tup [.agg (onV r id d).cs,vi (onE r id d)]):=by
 have hf:=h.fls.1;refine den_of_body follows (fun args w=>Tryz.call49 args w) Tryz.func49 rfl 32 rfl ?_;refine run ?_;refine call (den_asks L r h id) ?_;unfold onV;by_cases h0:askE r id=0
 ·rw[if_pos h0];obtain ⟨h1,h2⟩:=ask_ok h0;obtain ⟨k,hk,hlt,hx,hm,-⟩:=find_fil h2;rw[hk];refine run ?_;refine call (den_day11R d) ?_;cases hd:dayG d
  ·have he:onE r id d=2:=by unfold onE; rw[if_neg (fun e=>e h0),if_pos hd]
   rw[he,if_neg (by decide)];refine run ?_;exact finW (wk_vdtZ 2)
  ·have he:onE r id d=0:=by unfold onE; rw[if_neg (fun e=>e h0),if_neg (by rw[hd]; decide)]
   rw[he,if_pos rfl];refine runW hx ?_;refine call (den_DecideRef L r (filA r id) d h (okG_of h1) hm (dayG_le hd)) ?_;refine run ?_;exact fin rfl
 ·have he:onE r id d=askE r id:=by unfold onE; rw[if_pos h0]
  rw[if_neg h0,he,if_neg h0];refine runW h0 ?_;exact finW (wk_vdtZ _)
end Go.Arc
