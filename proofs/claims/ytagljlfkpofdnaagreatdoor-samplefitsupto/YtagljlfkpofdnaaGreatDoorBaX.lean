/- A part of this claim. -/
import Derived.Test.YtagljlfkpofdnaaGreatDoorWR
import Derived.Test.YtagljlfkpofdnaaGreatDoorBaW
set_option maxRecDepth 100000
namespace Go.Arc
open Go.Ab Go.RowKit Go.Proofs
variable {T : Lay}
end Go.Arc
set_option maxRecDepth 100000
namespace Go.Arc
open Go.Ab Go.RowKit Go.Proofs
variable {T : Lay}
structure DateOk (n m dd:Nat):Prop where
 y1:n<=2870
 m1:1<=m
 m2:m<=12
 d1:1<=dd
 d2:dd<=lenM (leapN n) m
end Go.Arc
set_option maxRecDepth 100000
namespace Go.Arc
open Go.Ab Go.RowKit Go.Proofs
variable {T : Lay}
end Go.Arc
set_option maxRecDepth 100000
namespace Go.Arc
open Go.Ab Go.RowKit Go.Proofs
variable {T : Lay}
end Go.Arc
set_option maxRecDepth 100000
namespace Go.Arc
open Go.Ab Go.RowKit Go.Proofs
variable {T : Lay}
end Go.Arc
set_option maxRecDepth 100000
namespace Go.Arc
open Go.Ab Go.RowKit Go.Proofs
variable {T : Lay}
end Go.Arc
set_option maxRecDepth 100000
namespace Go.Arc
open Go.Ab Go.RowKit Go.Proofs
variable {T : Lay}
theorem den_validR (f u:Int):Den Tryz.prog T 301 [span f u] (vb (goodS f u)):=by
 refine den_of_body follows (fun args w=>Tryz.call301 args w) Tryz.func301 rfl 18 rfl ?_;unfold goodS;by_cases h1:0<=f <;> by_cases h2:f<u <;> by_cases h3:u<=1048576 <;> (refine run ?_; refine fin (vb_eq ?_); simp; try omega)
theorem faultR_2 {l:List Rul} {i:Nat} {r:Rul} (hi:l[i]? = some r) (hb:badR r):faultR l i=2:=by simp only[faultR,hi]; rw[if_pos hb]
theorem faultR_r {l:List Rul} {i:Nat} {r:Rul} (hi:l[i]? = some r) (hb:¬badR r):faultR l i=if prevR l i r=true then 5 else restR r:=by simp only[faultR,hi]; rw[if_neg hb]
theorem badR_iff (r:Rul):badR r↔(idB r.id=false\/r.yrs<0\/200<r.yrs\/r.act<1\/3<r.act\/goodS r.frm r.til=false):=Iff.rfl
theorem prevR_0 (l:List Rul) (r:Rul):prevR l 0 r=false:=by unfold prevR; rw[if_pos rfl]
theorem prevR_s {l:List Rul} {i:Nat} {r q:Rul} (h0:i≠0) (hq:l[i-1]? = some q):prevR l i r=decide (r.id<=q.id):=by unfold prevR; rw[if_neg h0,hq]
theorem prevR_cases {l:List Rul} {i:Nat} (hi:i<l.length) (r:Rul):(prevR l i r=true/\∃q,i≠0/\l[i-1]? = some q/\r.id<=q.id)\/(prevR l i r=false/\(i=0\/∃q,i≠0/\l[i-1]? = some q/\¬r.id<=q.id)):=by
 by_cases h0:i=0
 ·right; rw[h0]; exact ⟨prevR_0 l r,.inl rfl⟩
 ·obtain ⟨q,hq,-,-⟩:=drop_at (l:=l) (k:=i-1) (by omega);by_cases hle:r.id<=q.id
  ·left; exact ⟨by rw[prevR_s h0 hq]; simp[hle],q,h0,hq,hle⟩
  ·right; exact ⟨by rw[prevR_s h0 hq]; simp[hle],.inr ⟨q,h0,hq,hle⟩⟩
inductive RestR (r:Rul):Prop
 | p3 (h:parse r.cls=none) (e:restR r=3)
 | n4 (l:List Nat) (h:parse r.cls=some l) (hn:name r.trg=false) (e:restR r=4)
 | q4 (l:List Nat) (h:parse r.cls=some l) (hn:name r.trg=true) (hq:quoted r.trg=true) (e:restR r=4)
 | k1 (l:List Nat) (h:parse r.cls=some l) (hn:name r.trg=true) (hq:quoted r.trg=false) (ha:r.act=3) (ho:(r.trg == sOpened)=false) (e:restR r=1)
 | y1 (l:List Nat) (h:parse r.cls=some l) (hn:name r.trg=true) (hq:quoted r.trg=false) (ha:r.act=3) (ho:(r.trg == sOpened)=true) (hy:r.yrs≠0) (e:restR r=1)
 | e1 (l:List Nat) (h:parse r.cls=some l) (hn:name r.trg=true) (hq:quoted r.trg=false) (ha:r.act=3) (ho:(r.trg == sOpened)=true) (hy:r.yrs=0) (he:r.yend=true) (e:restR r=1)
 | k0 (l:List Nat) (h:parse r.cls=some l) (hn:name r.trg=true) (hq:quoted r.trg=false) (ha:r.act=3) (ho:(r.trg == sOpened)=true) (hy:r.yrs=0) (he:r.yend=false) (e:restR r=0)
 | z0 (l:List Nat) (h:parse r.cls=some l) (hn:name r.trg=true) (hq:quoted r.trg=false) (ha:r.act≠3) (e:restR r=0)
theorem rest_cases (r:Rul):RestR r:=by
 cases hp:parse r.cls with
 | none=>exact .p3 hp (by unfold restR; rw[hp]; rfl)
 | some l=>
  have e0:restR r=if name r.trg=false\/quoted r.trg=true then 4 else if r.act=3/\(r.trg≠sOpened\/r.yrs≠0\/r.yend=true) then 1 else 0:=by unfold restR; rw[hp]; rfl
  cases hn:name r.trg with
  | false=>exact .n4 l hp hn (by rw[e0,if_pos (.inl hn)])
  | true=>
   cases hq:quoted r.trg with
   | true=>exact .q4 l hp hn hq (by rw[e0,if_pos (.inr hq)])
   | false=>
    have e1:restR r=if r.act=3/\(r.trg≠sOpened\/r.yrs≠0\/r.yend=true) then 1 else 0:=by rw[e0,if_neg (by simp[hn,hq])]
    by_cases ha:r.act=3
    ·cases ho:r.trg == sOpened with
     | false=>exact .k1 l hp hn hq ha ho (by rw[e1,if_pos ⟨ha,.inl (by simpa using ho)⟩])
     | true=>
      have ho':r.trg=sOpened:=by simpa using ho
      by_cases hy:r.yrs=0
      ·cases he:r.yend with
       | true=>exact .e1 l hp hn hq ha ho hy he (by rw[e1,if_pos ⟨ha,.inr (.inr he)⟩])
       | false=>exact .k0 l hp hn hq ha ho hy he (by rw[e1,if_neg (by simp[ho',hy,he])])
      ·exact .y1 l hp hn hq ha ho hy (by rw[e1,if_pos ⟨ha,.inr (.inl hy)⟩])
    ·exact .z0 l hp hn hq ha (by rw[e1,if_neg (by simp[ha])])
set_option maxHeartbeats 4000000 in
theorem den_checkR1 (L:LibC T) (l:List Rul) (i:Nat) (hl:FitsR l) (hi:i<l.length):Den Tryz.prog T 253 [ruls l,vi i] (vi (faultR l i)):=by
 obtain ⟨hl0,hf⟩:=hl;obtain ⟨r,hr,-,hm⟩:=drop_at hi;obtain ⟨hf1,hf2⟩:=hf r hm;refine den_of_body follows (fun args w=>Tryz.call253 args w) Tryz.func253 rfl 98 rfl ?_;refine runW hr ?_;refine call (den_Parse L r.cls hf1) ?_;cases hp:parse r.cls with
 | none=>
  rw[parseV_n hp];by_cases a1:r.id<1
  ·rw[faultR_2 hr ((badR_iff r).2 (.inl (by simp[idB]; omega)))];refine run ?_;exact fin rfl
  by_cases a2:1073741824<r.id
  ·rw[faultR_2 hr ((badR_iff r).2 (.inl (by simp[idB]; omega)))];refine run ?_;exact fin rfl
  by_cases b1:r.yrs<0
  ·rw[faultR_2 hr ((badR_iff r).2 (.inr (.inl b1)))];refine run ?_;exact fin rfl
  by_cases b2:200<r.yrs
  ·rw[faultR_2 hr ((badR_iff r).2 (.inr (.inr (.inl b2))))];refine run ?_;exact fin rfl
  by_cases b3:r.act<1
  ·rw[faultR_2 hr ((badR_iff r).2 (.inr (.inr (.inr (.inl b3)))))];refine run ?_;exact fin rfl
  by_cases b4:3<r.act
  ·rw[faultR_2 hr ((badR_iff r).2 (.inr (.inr (.inr (.inr (.inl b4))))))];refine run ?_;exact fin rfl
  refine run ?_;refine call (den_validR r.frm r.til) ?_;cases b5:goodS r.frm r.til
  ·rw[faultR_2 hr ((badR_iff r).2 (.inr (.inr (.inr (.inr (.inr b5))))))];refine run ?_;exact fin rfl
  rw[faultR_r hr fun hb=>by
   rcases (badR_iff r).1 hb with h | h | h | h | h | h
   ·simp[idB] at h; omega
   ·exact b1 h
   ·exact b2 h
   ·exact b3 h
   ·exact b4 h
   ·rw[b5] at h; cases h]
  rcases prevR_cases hi r with ⟨hpv,q,h0,hq,hle⟩ | ⟨hpv,h0 | ⟨q,h0,hq,hle⟩⟩
  ·rw[if_pos hpv];refine runW hq ?_;exact fin rfl
  all_goals
   rw[if_neg (by rw[hpv]; exact Bool.noConfusion)];rw[show restR r=3 by unfold restR; rw[hp]; rfl]
   first
    | (subst h0; refine run ?_)
    | refine runW hq ?_
   exact fin rfl
 | some pl=>
  rw[parseV_s hp];by_cases a1:r.id<1
  ·rw[faultR_2 hr ((badR_iff r).2 (.inl (by simp[idB]; omega)))];refine run ?_;exact fin rfl
  by_cases a2:1073741824<r.id
  ·rw[faultR_2 hr ((badR_iff r).2 (.inl (by simp[idB]; omega)))];refine run ?_;exact fin rfl
  by_cases b1:r.yrs<0
  ·rw[faultR_2 hr ((badR_iff r).2 (.inr (.inl b1)))];refine run ?_;exact fin rfl
  by_cases b2:200<r.yrs
  ·rw[faultR_2 hr ((badR_iff r).2 (.inr (.inr (.inl b2))))];refine run ?_;exact fin rfl
  by_cases b3:r.act<1
  ·rw[faultR_2 hr ((badR_iff r).2 (.inr (.inr (.inr (.inl b3)))))];refine run ?_;exact fin rfl
  by_cases b4:3<r.act
  ·rw[faultR_2 hr ((badR_iff r).2 (.inr (.inr (.inr (.inr (.inl b4))))))];refine run ?_;exact fin rfl
  refine run ?_;refine call (den_validR r.frm r.til) ?_;cases b5:goodS r.frm r.til
  ·rw[faultR_2 hr ((badR_iff r).2 (.inr (.inr (.inr (.inr (.inr b5))))))];refine run ?_;exact fin rfl
  rw[faultR_r hr fun hb=>by
   rcases (badR_iff r).1 hb with h | h | h | h | h | h
   ·simp[idB] at h; omega
   ·exact b1 h
   ·exact b2 h
   ·exact b3 h
   ·exact b4 h
   ·rw[b5] at h; cases h]
  rcases prevR_cases hi r with ⟨hpv,q,h0,hq,hle⟩ | ⟨hpv,h0 | ⟨q,h0,hq,hle⟩⟩
  ·rw[if_pos hpv];refine runW hq ?_;exact fin rfl
  all_goals
   rw[if_neg (by rw[hpv]; exact Bool.noConfusion)]
   first
    | (subst h0; refine run ?_)
    | refine runW hq ?_
   refine call (den_Name L r.trg hf2) ?_;rcases rest_cases r with ⟨h,e⟩ | ⟨_,h,hn,e⟩ | ⟨_,h,hn,hq',e⟩ | ⟨_,h,hn,hq',ha,ho,e⟩ | ⟨_,h,hn,hq',ha,ho,hy,e⟩ | ⟨_,h,hn,hq',ha,ho,hy,he,e⟩ | ⟨_,h,hn,hq',ha,ho,hy,he,e⟩ | ⟨_,h,hn,hq',ha,e⟩
   ·rw[hp] at h; cases h
   ·rw[e,hn];refine run ?_;exact fin rfl
   ·rw[e,hn];refine run ?_;refine call (lib_quote r.trg) ?_;rw[hq'];refine run ?_;exact fin rfl
   ·rw[e,hn];refine run ?_;refine call (lib_quote r.trg) ?_;rw[hq'];refine runW (And.intro ha (show (r.trg == [111,112,101,110,101,100])=false from ho)) ?_;exact fin rfl
   ·rw[e,hn];refine run ?_;refine call (lib_quote r.trg) ?_;rw[hq'];refine runW (And.intro ha (show (r.trg == [111,112,101,110,101,100])=true from ho)) ?_;exact fin rfl
   ·rw[e,hn];refine run ?_;refine call (lib_quote r.trg) ?_;rw[hq'];refine runW (And.intro ha (And.intro (show (r.trg == [111,112,101,110,101,100])=true from ho) (And.intro hy he))) ?_;exact fin rfl
   ·rw[e,hn];refine run ?_;refine call (lib_quote r.trg) ?_;rw[hq'];refine runW (And.intro ha (And.intro (show (r.trg == [111,112,101,110,101,100])=true from ho) (And.intro hy he))) ?_;exact fin rfl
   ·rw[e,hn];refine run ?_;refine call (lib_quote r.trg) ?_;rw[hq'];refine run ?_;exact fin rfl
theorem den_CheckR (L:LibC T) (l:List Rul) (hl:FitsR l):Den Tryz.prog T 173 [ruls l] (chkV (checkR l)):=by
 have hl0:=hl.1;refine den_of_body follows (fun args w=>Tryz.call173 args w) Tryz.func173 rfl 22 rfl ?_;by_cases h16:64<l.length
 ·refine run ?_;refine fin ?_;simp only[chkV,checkR,chk_many h16]
 refine run ?_
 refine loop ⟨[0,10,11],[],[],[]⟩ (fun k:Nat=>k<=l.length/\∀i,i<k->faultR l i=0) (fun k=>l.length-k)
  (fun k=>⟨22,[(0,.v (ruls l)),(10,.v (vi l.length)),(11,.v (vi k))],[],[]⟩) 0 ⟨by omega,by omega⟩ ?_
 rintro k ⟨hk,hall⟩;by_cases hlt:k<l.length
 ·refine run ?_;refine call (den_checkR1 L l k hl hlt) ?_;by_cases hz:faultR l k=0
  ·refine run ?_;refine round (k+1) ⟨by omega,fun i hi=> ?_⟩ (by omega);by_cases e:i=k
   ·rw[e]; exact hz
   ·exact hall i (by omega)
  ·refine run ?_;refine fin ?_;simp only[chkV,checkR,chk_bad h16 hlt hall hz]
 ·refine run ?_;refine fin ?_;simp only[chkV,checkR,chk_ok h16 fun i hi=>hall i (by omega)]
end Go.Arc
set_option maxRecDepth 100000
namespace Go.Arc
open Go.Ab Go.RowKit Go.Proofs
variable {T : Lay}
end Go.Arc
set_option maxRecDepth 100000
namespace Go.Arc
open Go.Ab Go.RowKit Go.Proofs
variable {T : Lay}
end Go.Arc
set_option maxRecDepth 100000
namespace Go.Arc
open Go.Ab Go.RowKit Go.Proofs
variable {T : Lay}
def fewR1 (r:Rul):Bool:= !(decide (100<r.cls.length) || decide (100<r.trg.length))
def fewR (l:List Rul):Bool:= !((decide (12<l.length) && decide (l.length<=64)) || decide (69<l.length)) && l.all fewR1
end Go.Arc
set_option maxRecDepth 100000
namespace Go.Arc
open Go.Ab Go.RowKit Go.Proofs
variable {T : Lay}
theorem all_snocR {l:List Rul} {k:Nat} {x:Rul} (h:l[k]? = some x) (p:Rul->Bool):(l.take (k+1)).all p=((l.take k).all p && p x):=by
 rw[take_snocR h,List.all_append]; simp
theorem den_FewR (l:List Rul) (hl:FitsR l):Den Tryz.prog T 33 [ruls l] (vb (fewR l)):=by
 have hl0:=hl.1;refine den_of_body follows (fun args w=>Tryz.call33 args w) Tryz.func33 rfl 39 rfl ?_;by_cases h1:12<l.length
 ·by_cases h2:l.length<=64
  ·have hf:fewR l=false:=by unfold fewR; simp[h1,h2]
   rw[hf];refine run ?_;exact fin rfl
  ·by_cases h3:69<l.length
   ·have hf:fewR l=false:=by unfold fewR; simp[h3]
    rw[hf];refine run ?_;exact fin rfl
   ·have hf:fewR l=l.all fewR1:=by unfold fewR; simp[h1,h2,h3]
    rw[hf];refine run ?_
    refine loop ⟨[0,3],[],[],[]⟩ (fun k:Nat=>k<=l.length/\(l.take k).all fewR1=true) (fun k=>l.length-k)
     (fun k=>⟨39,[(0,.v (ruls l)),(3,.v (vi k))],[],[]⟩) 0 ⟨by omega,rfl⟩ ?_
    rintro k ⟨hk,hall⟩;by_cases hlt:k<l.length
    ·obtain ⟨x,hx,-,hm⟩:=drop_at hlt;obtain ⟨f1,f2⟩:=hl.2 x hm;by_cases c1:100<x.cls.length
     ·have hb:l.all fewR1=false:=by rw[List.all_eq_false]; exact ⟨x,hm,by simp[fewR1,c1]⟩
      rw[hb];refine runW hx ?_;exact fin rfl
     by_cases c2:100<x.trg.length
     ·have hb:l.all fewR1=false:=by rw[List.all_eq_false]; exact ⟨x,hm,by simp[fewR1,c2]⟩
      rw[hb];refine runW hx ?_;exact fin rfl
     refine runW hx ?_;exact round (k+1) ⟨by omega,by rw[all_snocR hx,hall]; simp[fewR1,c1,c2]⟩ (by omega)
    ·have hkl:k=l.length:=by omega
     rw[hkl,List.take_length] at hall;rw[hall];refine run ?_;exact fin rfl
 ·have hf:fewR l=l.all fewR1:=by
   have h3:¬ 69<l.length:=by omega
   unfold fewR; simp[h1,h3]
  rw[hf];refine run ?_
  refine loop ⟨[0,3],[],[],[]⟩ (fun k:Nat=>k<=l.length/\(l.take k).all fewR1=true) (fun k=>l.length-k)
   (fun k=>⟨39,[(0,.v (ruls l)),(3,.v (vi k))],[],[]⟩) 0 ⟨by omega,rfl⟩ ?_
  rintro k ⟨hk,hall⟩;by_cases hlt:k<l.length
  ·obtain ⟨x,hx,-,hm⟩:=drop_at hlt;obtain ⟨f1,f2⟩:=hl.2 x hm;by_cases c1:100<x.cls.length
   ·have hb:l.all fewR1=false:=by rw[List.all_eq_false]; exact ⟨x,hm,by simp[fewR1,c1]⟩
    rw[hb];refine runW hx ?_;exact fin rfl
   by_cases c2:100<x.trg.length
   ·have hb:l.all fewR1=false:=by rw[List.all_eq_false]; exact ⟨x,hm,by simp[fewR1,c2]⟩
    rw[hb];refine runW hx ?_;exact fin rfl
   refine runW hx ?_;exact round (k+1) ⟨by omega,by rw[all_snocR hx,hall]; simp[fewR1,c1,c2]⟩ (by omega)
  ·have hkl:k=l.length:=by omega
   rw[hkl,List.take_length] at hall;rw[hall];refine run ?_;exact fin rfl
end Go.Arc
set_option maxRecDepth 100000
namespace Go.Arc
open Go.Ab Go.RowKit Go.Proofs
variable {T : Lay}
end Go.Arc
set_option maxRecDepth 100000
namespace Go.Arc
open Go.Ab Go.RowKit Go.Proofs
variable {T : Lay}
structure Lok where
 r:Rgs
 f:Fil
 d:Int
 rls:List Rul
 due:Int
 by':Int
abbrev Lok.cs (x:Lok):List V:=[ofcs x.r.ofs,plans x.r.pls,fils x.r.fls,ruls x.r.rls,hlds x.r.hls,clks x.r.cks,sels x.r.sls,prps x.r.pps,apvs x.r.aps,crts x.r.crs,deps x.r.dps,vi x.r.chg,
 vi x.f.id,vi x.f.ofc,vi x.f.opn,vi x.f.cld,.str x.f.cls,.str x.f.title,vi x.f.pts,ntss x.f.nts,vi x.d,ruls x.rls,vi x.due,vi x.by']
theorem den_ixCrt (l:List Crt) (f:FuncId) (cap:List V) (p:Crt->Bool) (hl:l.length<=1048576) (hp:∀e∈l,Den Tryz.prog T f (.agg e.cs::cap) (vb (p e))):
   Den Tryz.prog T 181 [crts l,.func f cap] (vi (ix p l)):=by
  refine den_of_body follows (fun args w=>Tryz.call181 args w) Tryz.func181 rfl 19 rfl ?_;refine run ?_
  refine loop ⟨[0,1,7,8],[],[],[]⟩ (fun k:Nat=>k<=l.length/\∀e∈l.take k,p e=false) (fun k=>l.length-k)
    (fun k=>⟨19,[(0,.v (crts l)),(1,.v (.func f cap)),(7,.v (vi l.length)),(8,.v (vi k))],[],[]⟩) 0 ⟨by omega,by simp⟩ ?_
  rintro k ⟨hk,hall⟩;by_cases hlt:k<l.length
  · obtain ⟨x,hx,-,hm⟩:=drop_at hlt;refine runW hx ?_;refine call (hp x hm) ?_;cases hpc:p x
    · refine run ?_;exact round (k+1) ⟨by omega,take_snoc hall hx hpc⟩ (by omega)
    · refine run ?_;exact fin (vi_eq (ix_at hall hx hpc))
  · refine run ?_;exact fin (vi_eq (ix_none hall hlt))
theorem den_anyCrt (l:List Crt) (f:FuncId) (cap:List V) (p:Crt->Bool) (hl:l.length<=1048576) (hp:∀e∈l,Den Tryz.prog T f (.agg e.cs::cap) (vb (p e))):
   Den Tryz.prog T 120 [crts l,.func f cap] (vb (l.any p)):=by
  refine den_of_body follows (fun args w=>Tryz.call120 args w) Tryz.func120 rfl 9 rfl ?_;refine run ?_;refine call (den_ixCrt l f cap p hl hp) ?_;refine run ?_;exact fin (vb_eq (ix_ge _ l))
theorem den_ixDep (l:List Dep) (f:FuncId) (cap:List V) (p:Dep->Bool) (hl:l.length<=1048576) (hp:∀e∈l,Den Tryz.prog T f (.agg e.cs::cap) (vb (p e))):
   Den Tryz.prog T 182 [deps l,.func f cap] (vi (ix p l)):=by
  refine den_of_body follows (fun args w=>Tryz.call182 args w) Tryz.func182 rfl 19 rfl ?_;refine run ?_
  refine loop ⟨[0,1,7,8],[],[],[]⟩ (fun k:Nat=>k<=l.length/\∀e∈l.take k,p e=false) (fun k=>l.length-k)
    (fun k=>⟨19,[(0,.v (deps l)),(1,.v (.func f cap)),(7,.v (vi l.length)),(8,.v (vi k))],[],[]⟩) 0 ⟨by omega,by simp⟩ ?_
  rintro k ⟨hk,hall⟩;by_cases hlt:k<l.length
  · obtain ⟨x,hx,-,hm⟩:=drop_at hlt;refine runW hx ?_;refine call (hp x hm) ?_;cases hpc:p x
    · refine run ?_;exact round (k+1) ⟨by omega,take_snoc hall hx hpc⟩ (by omega)
    · refine run ?_;exact fin (vi_eq (ix_at hall hx hpc))
  · refine run ?_;exact fin (vi_eq (ix_none hall hlt))
theorem den_anyDep (l:List Dep) (f:FuncId) (cap:List V) (p:Dep->Bool) (hl:l.length<=1048576) (hp:∀e∈l,Den Tryz.prog T f (.agg e.cs::cap) (vb (p e))):
   Den Tryz.prog T 122 [deps l,.func f cap] (vb (l.any p)):=by
  refine den_of_body follows (fun args w=>Tryz.call122 args w) Tryz.func122 rfl 9 rfl ?_;refine run ?_;refine call (den_ixDep l f cap p hl hp) ?_;refine run ?_;exact fin (vb_eq (ix_ge _ l))
end Go.Arc
set_option maxRecDepth 100000
namespace Go.Arc
open Go.Ab Go.RowKit Go.Proofs
variable {T : Lay}
theorem wk_aggs {l m:List V} (h:Wks l m) (ho:(m.all fun v=>v.one)=true):Wk (.agg l) (.agg m):= .agg h.len (fun c hc=>List.all_eq_true.1 ho c hc) fun j v u e1 e2=>by
 obtain ⟨v',h1,h2⟩:=h.get e2;rw[e1] at h1;cases h1;exact h2
end Go.Arc
set_option maxRecDepth 100000
namespace Go.Arc
open Go.Ab Go.RowKit Go.Proofs
variable {T : Lay}
end Go.Arc
set_option maxRecDepth 100000
namespace Go.Arc
open Go.Ab Go.RowKit Go.Proofs
variable {T : Lay}
end Go.Arc
