/- A part of this claim. -/
import Derived.Test.YtagljlfkpofdnaaGreatDoorSp9
import Derived.Test.YtagljlfkpofdnaaGreatDoorBaI
set_option maxRecDepth 100000
namespace Go.Arc
open Go.Ab Go.RowKit Go.Proofs
variable {T : Lay}
theorem den_ixIsInt (l:List Int) (x:Int) (hl:l.length<=1048576):Den Tryz.prog T 59 [ints l,vi x] (vi (ix (fun y=>decide (x=y)) l)):=by
 refine den_of_body follows (fun args w=>Tryz.call59 args w) Tryz.func59 rfl 19 rfl ?_;refine run ?_
 refine loop ⟨[0,1,7,8],[],[],[]⟩ (fun k:Nat=>k<=l.length/\∀n∈l.take k,decide (x=n)=false) (fun k=>l.length-k)
  (fun k=>⟨19,[(0,.v (ints l)),(1,.v (vi x)),(7,.v (vi l.length)),(8,.v (vi k))],[],[]⟩) 0 ⟨by omega,by simp⟩ ?_
 rintro k ⟨hk,hall⟩;by_cases hlt:k<l.length
 ·obtain ⟨y,hy,-,-⟩:=drop_at hlt;by_cases hxy:x=y
  ·refine runW hy ?_;exact fin (vi_eq (ix_at (p:=fun n=>decide (x=n)) hall hy (by simp[hxy])))
  ·refine runW hy ?_;exact round (k+1) ⟨by omega,take_snoc (q:=fun n:Int=>decide (x=n)=false) hall hy (by simp[hxy])⟩ (by omega)
 ·refine run ?_;exact fin (vi_eq (ix_none (p:=fun n=>decide (x=n)) hall hlt))
theorem den_hasInt (l:List Int) (x:Int) (hl:l.length<=1048576):Den Tryz.prog T 21 [ints l,vi x] (vb (l.any fun y=>decide (x=y))):=by
 refine den_of_body follows (fun args w=>Tryz.call21 args w) Tryz.func21 rfl 9 rfl ?_;refine run ?_;refine call (den_ixIsInt l x hl) ?_;refine run ?_;exact fin (vb_eq (ix_ge _ l))
theorem den_ixInt (l:List Int) (f:FuncId) (cap:List V) (p:Int->Bool) (hl:l.length<=1048576) (hp:∀e∈l,Den Tryz.prog T f (vi e::cap) (vb (p e))):
   Den Tryz.prog T 61 [ints l,.func f cap] (vi (ix p l)):=by
  refine den_of_body follows (fun args w=>Tryz.call61 args w) Tryz.func61 rfl 19 rfl ?_;refine run ?_
  refine loop ⟨[0,1,7,8],[],[],[]⟩ (fun k:Nat=>k<=l.length/\∀e∈l.take k,p e=false) (fun k=>l.length-k)
    (fun k=>⟨19,[(0,.v (ints l)),(1,.v (.func f cap)),(7,.v (vi l.length)),(8,.v (vi k))],[],[]⟩) 0 ⟨by omega,by simp⟩ ?_
  rintro k ⟨hk,hall⟩;by_cases hlt:k<l.length
  · obtain ⟨x,hx,-,hm⟩:=drop_at hlt;refine runW hx ?_;refine call (hp x hm) ?_;cases hpc:p x
    · refine run ?_;exact round (k+1) ⟨by omega,take_snoc hall hx hpc⟩ (by omega)
    · refine run ?_;exact fin (vi_eq (ix_at hall hx hpc))
  · refine run ?_;exact fin (vi_eq (ix_none hall hlt))
theorem den_anyInt (l:List Int) (f:FuncId) (cap:List V) (p:Int->Bool) (hl:l.length<=1048576) (hp:∀e∈l,Den Tryz.prog T f (vi e::cap) (vb (p e))):
   Den Tryz.prog T 23 [ints l,.func f cap] (vb (l.any p)):=by
  refine den_of_body follows (fun args w=>Tryz.call23 args w) Tryz.func23 rfl 9 rfl ?_;refine run ?_;refine call (den_ixInt l f cap p hl hp) ?_;refine run ?_;exact fin (vb_eq (ix_ge p l))
theorem den_ixOfc (l:List Ofc) (f:FuncId) (cap:List V) (p:Ofc->Bool) (hl:l.length<=1048576) (hp:∀e∈l,Den Tryz.prog T f (.agg e.cs::cap) (vb (p e))):
   Den Tryz.prog T 335 [ofcs l,.func f cap] (vi (ix p l)):=by
  refine den_of_body follows (fun args w=>Tryz.call335 args w) Tryz.func335 rfl 19 rfl ?_;refine run ?_
  refine loop ⟨[0,1,7,8],[],[],[]⟩ (fun k:Nat=>k<=l.length/\∀e∈l.take k,p e=false) (fun k=>l.length-k)
    (fun k=>⟨19,[(0,.v (ofcs l)),(1,.v (.func f cap)),(7,.v (vi l.length)),(8,.v (vi k))],[],[]⟩) 0 ⟨by omega,by simp⟩ ?_
  rintro k ⟨hk,hall⟩;by_cases hlt:k<l.length
  · obtain ⟨x,hx,-,hm⟩:=drop_at hlt;refine runW hx ?_;refine call (hp x hm) ?_;cases hpc:p x
    · refine run ?_;exact round (k+1) ⟨by omega,take_snoc hall hx hpc⟩ (by omega)
    · refine run ?_;exact fin (vi_eq (ix_at hall hx hpc))
  · refine run ?_;exact fin (vi_eq (ix_none hall hlt))
theorem den_FindO1 (o:Ofc) (n:Int):Den Tryz.prog T 336 [.agg o.cs,.row [vi n]] (vb (isId n o)):=by
 refine den_of_body follows (fun args w=>Tryz.call336 args w) Tryz.func336 rfl 8 rfl ?_;refine run ?_;exact fin rfl
theorem den_FindO (l:List Ofc) (n:Int) (hl:l.length<=1048576):Den Tryz.prog T 325 [ofcs l,vi n] (vi (findO l n)):=by
 refine den_of_body follows (fun args w=>Tryz.call325 args w) Tryz.func325 rfl 8 rfl ?_;refine run ?_;refine call (den_ixOfc l _ _ (isId n) hl fun o _=>den_FindO1 o n) ?_;refine run ?_;exact fin rfl
theorem den_validO (f u:Int):Den Tryz.prog T 250 [span f u] (vb (goodS f u)):=by
 refine den_of_body follows (fun args w=>Tryz.call250 args w) Tryz.func250 rfl 18 rfl ?_;unfold goodS;by_cases h1:0<=f <;> by_cases h2:f<u <;> by_cases h3:u<=1048576 <;> (refine run ?_; refine fin (vb_eq ?_); simp; try omega)
instance:TZV Tryz.prog 119 (.agg #[.int .i64 0,.string ⟨#[]⟩,.int .i64 0,.int .i64 0,.slice none 0 0]):=⟨by kernel_rfl⟩
instance:TMap Tryz.prog 269 3 119 (.agg #[.int .i64 0,.string ⟨#[]⟩,.int .i64 0,.int .i64 0,.slice none 0 0]):=⟨by kernel_rfl,by kernel_rfl,by kernel_rfl⟩
theorem okVal_O:okVal (.agg #[.int .i64 0,.string ⟨#[]⟩,.int .i64 0,.int .i64 0,.slice none 0 0])=true:=rfl
theorem ofVal_O:ofVal (.agg #[.int .i64 0,.string ⟨#[]⟩,.int .i64 0,.int .i64 0,.slice none 0 0])= .agg [vi 0,.str [],vi 0,vi 0,.val (.slice none 0 0)]:=rfl
theorem opv_mapn (σ:Sto):opv σ (.const (.map none))=some (.v (.val (.map none))):=rfl
theorem den_index (l:List Ofc) (hl:l.length<=1048576):Den Tryz.prog T 249 [ofcs l] (mapO (idxO l)):=by
 refine den_of_body follows (fun args w=>Tryz.call249 args w) Tryz.func249 rfl 30 rfl ?_;refine runW opv_mapn ?_
 refine loop ⟨[3,9,10,11],[8],[],[]⟩ (fun k:Nat=>k<=l.length) (fun k=>l.length-k)
  (fun k=>⟨30,[(3,.m 8),(9,.v (ofcs l)),(10,.v (vi l.length)),(11,.v (vi k))],[(8,.map (entsO (idxO (l.take k))))],[]⟩) 0 (by omega) ?_
 intro k hk;by_cases hlt:k<l.length
 ·obtain ⟨x,hx,-,-⟩:=drop_at hlt
  have hstep:idxO (l.take (k+1))=addO (idxO (l.take k)) x:=by
   obtain ⟨hlt',rfl⟩:=List.getElem?_eq_some_iff.1 hx
   show (l.take (k+1)).foldl addO []=_
   rw[List.take_succ_eq_append_getElem hlt',List.foldl_append]; rfl
  have hf:=find_entsO x.id (idxO (l.take k));cases hlk:lookO (idxO (l.take k)) x.id with
  | some y=>
   rw[hlk] at hf;have ha:addO (idxO (l.take k)) x=idxO (l.take k):=by unfold addO; rw[hlk]; rfl
   rw[ha] at hstep;refine runW (And.intro hx (And.intro hf (And.intro okVal_O ofVal_O))) ?_;refine round (k+1) (by omega) (by omega) ?_;rw[hstep]; rfl
  | none=>
   rw[hlk] at hf;have hu:=upsert_entsO hlk;have ha:addO (idxO (l.take k)) x=idxO (l.take k)++[x]:=by unfold addO; rw[hlk]; rfl
   rw[ha] at hstep;refine runW (And.intro hx (And.intro hf (And.intro hu (And.intro okVal_O ofVal_O)))) ?_;refine round (k+1) (by omega) (by omega) ?_;rw[hstep]; rfl
 ·have he:l.take k=l:=List.take_of_length_le (by omega);rw[he];refine run ?_;exact finFm (.refl _)
end Go.Arc
set_option maxRecDepth 100000
namespace Go.Arc
open Go.Ab Go.RowKit Go.Proofs
variable {T : Lay}
theorem den_next1 (es:List Ofc) (o:Ofc) (n:Int) (h:(lookO es n).isSome=true):Den Tryz.prog T 297 [vi n,.row [mapO es],.row o.cs] (vb (!decide (frmO es n=o.til))):=by
 have hz:=zip_fst_snd (entsO es);have hf:=find_entsO n es;cases e:lookO es n with
 | none=>rw[e] at h; cases h
 | some x=>
  rw[e] at hf;have hfr:frmO es n=x.frm:=by unfold frmO; rw[e]
  rw[hfr];refine den_of_body follows (fun args w=>Tryz.call297 args w) Tryz.func297 rfl 14 rfl ?_;refine runW (And.intro hz (And.intro hf (And.intro okVal_O ofVal_O))) ?_;exact fin rfl
theorem den_next (es:List Ofc) (o:Ofc) (ho:o.Fit):Den Tryz.prog T 251 [mapO es,.agg o.cs] (vi (succErr es o)):=by
 have hn:=ho.2;have hz:=zip_fst_snd (entsO es);refine den_of_body follows (fun args w=>Tryz.call251 args w) Tryz.func251 rfl 46 rfl ?_;refine run ?_
 refine loop ⟨[2,3,12,13,14],[2,3],[],[]⟩ (fun k:Nat=>k<=o.nxt.length/\∀i,i<k->dupAt o.nxt i=false) (fun k=>o.nxt.length-k)
  (fun k=>⟨46,[(2,.p 2 0),(3,.p 3 0),(12,.v (ints o.nxt)),(13,.v (vi o.nxt.length)),(14,.v (vi k))],[(2,.var [mapO es]),(3,.var o.cs)],[]⟩) 0 ⟨by omega,by omega⟩ ?_
 rintro k ⟨hk,hall⟩;by_cases hlt:k<o.nxt.length
 ·obtain ⟨x,hx,-,-⟩:=drop_at hlt;have htk:((o.nxt.map Cint).take k).drop 0=(o.nxt.take k).map Cint:=by simp
  refine runW (And.intro hx htk) ?_;refine call (den_hasInt (o.nxt.take k) x (by simp; omega)) ?_;cases hd:(o.nxt.take k).any fun y=>decide (x=y)
  ·refine run ?_;refine round (k+1) ⟨by omega,fun i hi=> ?_⟩ (by omega);by_cases e:i=k
   ·rw[e]; exact dupAt_f hx hd
   ·exact hall i (by omega)
  ·have hs:succErr es o=6:=by unfold succErr; rw[if_pos (dups_at hx hd)]
   rw[hs];refine run ?_;exact fin rfl
 ·have hd:dups o.nxt=false:=dups_end fun i hi=>hall i (by omega);refine run ?_
  refine loop ⟨[2,3,27,28,29],[2,3],[],[]⟩ (fun k:Nat=>k<=o.nxt.length/\∀n∈o.nxt.take k,(lookO es n).isNone=false) (fun k=>o.nxt.length-k)
   (fun k=>⟨46,[(2,.p 2 0),(3,.p 3 0),(27,.v (ints o.nxt)),(28,.v (vi o.nxt.length)),(29,.v (vi k))],[(2,.var [mapO es]),(3,.var o.cs)],[]⟩) 0 ⟨by omega,by simp⟩ ?_
  rintro k ⟨hk,hall⟩;by_cases hlt:k<o.nxt.length
  ·obtain ⟨x,hx,-,-⟩:=drop_at hlt;have hf:=find_entsO x es;cases e:lookO es x with
   | none=>
    rw[e] at hf
    have hs:succErr es o=7:=by
     unfold succErr;rw[if_neg (by simp[hd]),if_pos (any_at hx (by simp[e]))]
    rw[hs];refine runW (And.intro hx (And.intro hz (And.intro hf (And.intro okVal_O ofVal_O)))) ?_;exact fin rfl
   | some y=>
    rw[e] at hf;refine runW (And.intro hx (And.intro hz (And.intro hf (And.intro okVal_O ofVal_O)))) ?_;exact round (k+1) ⟨by omega,take_snoc (q:=fun n:Int=>(lookO es n).isNone=false) hall hx (by simp[e])⟩ (by omega)
  ·have h7:(o.nxt.any fun n=>(lookO es n).isNone)=false:=any_end hall hlt;refine run ?_;refine call (den_anyInt o.nxt _ _ (fun n=> !decide (frmO es n=o.til)) hn fun n hm=>den_next1 es o n ?_) ?_
   ·have:=List.any_eq_false.1 h7 n hm;cases e:lookO es n <;> simp[e] at this ⊢
   ·have hs:succErr es o=if (o.nxt.any fun n=> !decide (frmO es n=o.til))=true then 10 else 0:=by
     unfold succErr;rw[if_neg (by simp[hd]),if_neg (by simp only[h7]; exact Bool.noConfusion)]
    rw[hs];cases o.nxt.any fun n=> !decide (frmO es n=o.til)
    ·refine run ?_;exact fin rfl
    ·refine run ?_;exact fin rfl
end Go.Arc
set_option maxRecDepth 100000
namespace Go.Arc
open Go.Ab Go.RowKit Go.Proofs
variable {T : Lay}
theorem den_CheckO (L:LibC T) (l:List Ofc) (hl:FitsO l):Den Tryz.prog T 168 [ofcs l] (chkV (checkO l)):=by
 have hl0:=hl.1;refine den_of_body follows (fun args w=>Tryz.call168 args w) Tryz.func168 rfl 71 rfl ?_;by_cases h16:32<l.length
 ·refine run ?_;refine fin ?_;simp only[chkV,checkO,chk_many h16]
 refine run ?_;refine call (den_index l hl0) ?_;refine run ?_
 refine loop ⟨[0,4,13,14,15],[],[],[]⟩ (fun k:Nat=>k<=l.length/\∀i,i<k->faultO l i=0) (fun k=>l.length-k)
  (fun k=>⟨71,[(0,.v (ofcs l)),(4,.v (mapO (idxO l))),(13,.v (ofcs l)),(14,.v (vi l.length)),(15,.v (vi k))],[],[]⟩) 0 ⟨by omega,by omega⟩ ?_
 rintro k ⟨hk,hall⟩;by_cases hlt:k<l.length
 ·obtain ⟨o,ho,-,hm⟩:=drop_at hlt;have hof:=hl.2 o hm;obtain ⟨h1,h2⟩:=id hof
  have out:∀e:Int,faultO l k=e->e≠0->chkV (checkO l)= .tup [vi k,vi e]:=fun e he hne=>by
   rw[checkO,chk_bad h16 hlt hall (by rw[he]; exact hne),he]
  by_cases b1:o.id<1
  ·rw[out 2 (faultO_2 ho (.inl b1)) (by decide)];refine runW ho ?_;exact fin rfl
  by_cases b2:1073741824<o.id
  ·rw[out 2 (faultO_2 ho (.inr (.inl b2))) (by decide)];refine runW ho ?_;exact fin rfl
  refine runW ho ?_;refine call (den_validO o.frm o.til) ?_;cases hg:goodS o.frm o.til
  ·rw[out 2 (faultO_2 ho (.inr (.inr (.inl hg)))) (by decide)];refine run ?_;exact fin rfl
  by_cases b4:8<o.nxt.length
  ·rw[out 2 (faultO_2 ho (.inr (.inr (.inr b4)))) (by decide)];refine run ?_;exact fin rfl
  have hb:¬badO o:=fun h=>by
   rcases h with h | h | h | h
   ·exact b1 h
   ·exact b2 h
   ·rw[hg] at h; cases h
   ·exact b4 h
  refine run ?_;refine call (den_Name L o.name h1) ?_;cases hn:name o.name
  ·rw[out 4 (faultO_4 ho hb hn) (by decide)];refine run ?_;exact fin rfl
  have hsi:=succ_idx l o;by_cases h0:k=0
  ·subst h0;have hs:=faultO_s0 ho hb hn;refine run ?_;refine call (den_next (idxO l) o hof) ?_;rw[hsi,<- hs];by_cases hz:faultO l 0=0
   ·refine run ?_;refine round 1 ⟨by omega,fun i hi=> ?_⟩ (by omega);rw[show i=0 by omega]; exact hz
   ·rw[out _ rfl hz];refine run ?_;exact fin rfl
  ·obtain ⟨q,hq,-,-⟩:=drop_at (l:=l) (k:=k-1) (by omega);by_cases hle:o.id<=q.id
   ·rw[out 5 (faultO_5 ho hb hn h0 hq hle) (by decide)];refine runW hq ?_;exact fin rfl
   ·have hs:=faultO_s ho hb hn h0 hq hle;refine runW hq ?_;refine call (den_next (idxO l) o hof) ?_;rw[hsi,<- hs];by_cases hz:faultO l k=0
    ·refine run ?_;refine round (k+1) ⟨by omega,fun i hi=> ?_⟩ (by omega);by_cases e:i=k
     ·rw[e]; exact hz
     ·exact hall i (by omega)
    ·rw[out _ rfl hz];refine run ?_;exact fin rfl
 ·refine run ?_;refine fin ?_;simp only[chkV,checkO,chk_ok h16 fun i hi=>hall i (by omega)]
def fewO1 (o:Ofc):Bool:= !(decide (10<o.nxt.length) || decide (100<o.name.length))
def fewO (l:List Ofc):Bool:= !((decide (12<l.length) && decide (l.length<=32)) || decide (37<l.length)) && l.all fewO1
theorem den_FewO (l:List Ofc) (hl:FitsO l):Den Tryz.prog T 30 [ofcs l] (vb (fewO l)):=by
 have hl0:=hl.1;refine den_of_body follows (fun args w=>Tryz.call30 args w) Tryz.func30 rfl 39 rfl ?_;by_cases g:(12<l.length/\l.length<=32)\/37<l.length
 ·have hf:fewO l=false:=by
   rcases g with ⟨g1,g2⟩ | g
   ·simp[fewO,g1,g2]
   ·simp[fewO,g]
  rw[hf];by_cases a1:l.length<=32
  ·have a2:12<l.length:=by omega
   refine run ?_;exact fin rfl
  ·have a2:12<l.length:=by omega
   have a3:37<l.length:=by omega
   refine run ?_;exact fin rfl
 ·have hq:fewO l=l.all fewO1:=by
   have e1:(decide (12<l.length) && decide (l.length<=32))=false:=by
    cases e:decide (12<l.length)
    ·rfl
    ·have:12<l.length:=by simpa using e
     simp; omega
   have e2:decide (37<l.length)=false:=by simp; omega
   simp only[fewO,e1,e2,Bool.or_false,Bool.not_false,Bool.true_and]
  have go:∀Q:Prop,(12<l.length->¬l.length<=32->Q)->(¬ 12<l.length->Q)->Q:=fun Q a b=>by
   by_cases a1:12<l.length
   ·exact a a1 (by omega)
   ·exact b a1
  rw[hq];have a3:¬ 37<l.length:=by omega
  refine go _ (fun a1 a2=> ?_) (fun a1=> ?_) <;>
  ·refine run ?_
   refine loop ⟨[0,3],[],[],[]⟩ (fun k:Nat=>k<=l.length/\∀p∈l.take k,fewO1 p=true) (fun k=>l.length-k)
    (fun k=>⟨39,[(0,.v (ofcs l)),(3,.v (vi k))],[],[]⟩) 0 ⟨by omega,by simp⟩ ?_
   rintro k ⟨hk,hall⟩;by_cases hlt:k<l.length
   ·obtain ⟨x,hx,hd,hm⟩:=drop_at hlt;obtain ⟨f1,f2⟩:=hl.2 x hm;by_cases g1:10<x.nxt.length
    ·refine runW hx ?_;refine fin (vb_eq ?_);rw[all_at hx (by simp[fewO1,g1])]
    by_cases g2:100<x.name.length
    ·refine runW hx ?_;refine fin (vb_eq ?_);rw[all_at hx (by simp[fewO1,g2])]
    refine runW hx ?_;exact round (k+1) ⟨by omega,take_snoc (q:=fun p:Ofc=>fewO1 p=true) hall hx (by simp[fewO1,g1,g2])⟩ (by omega)
   ·refine run ?_;refine fin (vb_eq ?_);rw[all_end hall hlt]
end Go.Arc
set_option maxRecDepth 100000
namespace Go.Arc
open Go.Ab Go.RowKit Go.Proofs
variable {T : Lay}
theorem den_isDayF (d f:Int):Den Tryz.prog T 298 [vi d,vi f] (vb (dayB d f)):=by
 refine den_of_body follows (fun args w=>Tryz.call298 args w) Tryz.func298 rfl 12 rfl ?_;unfold dayB;by_cases h1:f<=d <;> by_cases h2:d<=1048575 <;> (refine run ?_; refine fin (vb_eq ?_); simp; try omega)
theorem den_free (L:LibC T) (s:Str) (hs:s.length<=1048576):Den Tryz.prog T 328 [.str s] (vb (freeN s)):=by
 refine den_of_body follows (fun args w=>Tryz.call328 args w) Tryz.func328 rfl 13 rfl ?_;refine run ?_;refine call (den_Name L s hs) ?_;cases hn:name s
 ·refine run ?_;refine fin (vb_eq ?_); simp[freeN,hn]
 ·cases h1:s == [111,112,101,110,101,100]
  ·refine runW h1 ?_;refine fin (vb_eq ?_); simp[freeN,hn,h1]
  ·refine runW h1 ?_;refine fin (vb_eq ?_); simp[freeN,hn,h1]
theorem den_datCheck (a b:Int):Den Tryz.prog T 338 [datg a b] (vi (if goodD a b=true then 0 else 1)):=by
 refine den_of_body follows (fun args w=>Tryz.call338 args w) Tryz.func338 rfl 18 rfl ?_;by_cases h1:a<0
 ·have hg:goodD a b=false:=by simp[goodD]; omega
  rw[hg];refine run ?_;exact fin rfl
 by_cases h2:b<a
 ·have hg:goodD a b=false:=by simp[goodD]; omega
  rw[hg];refine run ?_;exact fin rfl
 by_cases h3:1048575<b
 ·have hg:goodD a b=false:=by simp[goodD]; omega
  rw[hg];refine run ?_;exact fin rfl
 ·have hg:goodD a b=true:=by simp[goodD]; omega
  rw[hg];refine run ?_;exact fin rfl
theorem den_right (f:Fil) (n:Note):Den Tryz.prog T 330 [.agg f.cs,.agg n.cs] (vb (rightN f n)):=by
 refine den_of_body follows (fun args w=>Tryz.call330 args w) Tryz.func330 rfl 16 rfl ?_;refine run ?_;refine call (den_datCheck n.fst n.lst) ?_;unfold rightN;cases goodD n.fst n.lst
 ·refine run ?_;exact fin rfl
 ·refine run ?_;refine call (den_isDayF n.rcd f.opn) ?_;refine run ?_;exact fin rfl
theorem den_notes1 (L:LibC T) (n:Note) (hn:n.Fit):Den Tryz.prog T 327 [.agg n.cs] (vb (!freeN n.name)):=by
 refine den_of_body follows (fun args w=>Tryz.call327 args w) Tryz.func327 rfl 7 rfl ?_;refine run ?_;refine call (den_free L n.name hn) ?_;refine run ?_;exact fin rfl
theorem den_notes2 (f:Fil) (n:Note):Den Tryz.prog T 329 [.agg n.cs,.row f.cs] (vb (!rightN f n)):=by
 refine den_of_body follows (fun args w=>Tryz.call329 args w) Tryz.func329 rfl 8 rfl ?_;refine run ?_;refine call (den_right f n) ?_;refine run ?_;exact fin rfl
theorem den_notes3 (a b:Note):Den Tryz.prog T 332 [.agg a.cs,.agg b.cs] (vi (cmpI a.rcd b.rcd)):=by
 refine den_of_body follows (fun args w=>Tryz.call332 args w) Tryz.func332 rfl 10 rfl ?_;refine run ?_;refine call (den_cmpInt a.rcd b.rcd) ?_;refine run ?_;exact fin rfl
theorem cmpI_lt (a b:Int):cmpI a b<0↔a<b:=by
 unfold cmpI;split
 ·constructor <;> intro <;> omega
 ·split <;> (constructor <;> intro <;> omega)
theorem den_sortedNote (l:List Note) (f:FuncId) (hl:l.length<=1048576) (hp:∀a b:Note,Den Tryz.prog T f [.agg a.cs,.agg b.cs] (vi (cmpI a.rcd b.rcd))):
   Den Tryz.prog T 331 [ntss l,.func f []] (vb (!unsorted l)):=by
  refine den_of_body follows (fun args w=>Tryz.call331 args w) Tryz.func331 rfl 25 rfl ?_;refine run ?_
  refine loop ⟨[0,1,5],[],[],[]⟩ (fun i:Int=> -1<=i/\i+1<=l.length/\∀j:Nat,i<j->j<l.length->early l j=false) (fun i=>(i+1).toNat)
    (fun i=>⟨25,[(0,.v (ntss l)),(1,.v (.func f [])),(5,.v (vi i))],[],[]⟩) ((l.length:Int)-1) ⟨by omega,by omega,fun j h1 h2=>by omega⟩ ?_
  rintro i ⟨h1,h2,hall⟩;by_cases hpos:0<i
  · obtain ⟨k,rfl⟩:∃k:Nat,i=k:=⟨i.toNat,by omega⟩;obtain ⟨y,hy,-,-⟩:=drop_at (l:=l) (k:=k) (by omega);obtain ⟨x,hx,-,-⟩:=drop_at (l:=l) (k:=k-1) (by omega);have he:=early_s (show k≠0 by omega) hx hy;refine runW (And.intro hx hy) ?_;refine call (hp y x) ?_;by_cases hlt:y.rcd<x.rcd
    · have hc:=(cmpI_lt y.rcd x.rcd).2 hlt;rw[unsorted_at (show k<l.length by omega) (by rw[he]; simp[hlt])];refine run ?_;exact fin rfl
    · have hc:¬cmpI y.rcd x.rcd<0:=fun h=>hlt ((cmpI_lt _ _).1 h);refine run ?_;refine round ((k:Int)-1) ⟨by omega,by omega,fun j g1 g2=> ?_⟩ (by omega);by_cases e:j=k
      · rw[e,he]; simp[hlt]
      · exact hall j (by omega) g2
  · rw[unsorted_end fun j hj=>by
      by_cases h0:j=0
      · rw[h0]; exact early_0 l
      · exact hall j (by omega) hj]
    refine run ?_;exact fin rfl
theorem den_notes (L:LibC T) (f:Fil) (hf:f.Fit):Den Tryz.prog T 300 [.agg f.cs] (vi (notesErr f)):=by
 have hn:=hf.2.2.1;refine den_of_body follows (fun args w=>Tryz.call300 args w) Tryz.func300 rfl 22 rfl ?_;by_cases h16:16<f.nts.length
 ·rw[notesErr_8 h16];refine run ?_;exact fin rfl
 refine run ?_;refine call (den_anyNote f.nts _ _ (fun n=> !freeN n.name) hn fun n hm=>den_notes1 L n (hf.2.2.2 n hm)) ?_;cases h4:f.nts.any fun n=> !freeN n.name
 ·refine run ?_;refine call (den_anyNote f.nts _ _ (fun n=> !rightN f n) hn fun n _=>den_notes2 f n) ?_;cases h2:f.nts.any fun n=> !rightN f n
  ·rw[notesErr_s h16 h4 h2];refine run ?_;refine call (den_sortedNote f.nts _ hn fun a b=>den_notes3 a b) ?_;cases unsorted f.nts
   ·refine run ?_;exact fin rfl
   ·refine run ?_;exact fin rfl
  ·rw[notesErr_2 h16 h4 h2];refine run ?_;exact fin rfl
 ·rw[notesErr_4 h16 h4];refine run ?_;exact fin rfl
theorem den_ixFil (l:List Fil) (f:FuncId) (cap:List V) (p:Fil->Bool) (hl:l.length<=1048576) (hp:∀e∈l,Den Tryz.prog T f (.agg e.cs::cap) (vb (p e))):
   Den Tryz.prog T 52 [fils l,.func f cap] (vi (ix p l)):=by
  refine den_of_body follows (fun args w=>Tryz.call52 args w) Tryz.func52 rfl 19 rfl ?_;refine run ?_
  refine loop ⟨[0,1,7,8],[],[],[]⟩ (fun k:Nat=>k<=l.length/\∀e∈l.take k,p e=false) (fun k=>l.length-k)
    (fun k=>⟨19,[(0,.v (fils l)),(1,.v (.func f cap)),(7,.v (vi l.length)),(8,.v (vi k))],[],[]⟩) 0 ⟨by omega,by simp⟩ ?_
  rintro k ⟨hk,hall⟩;by_cases hlt:k<l.length
  · obtain ⟨x,hx,-,hm⟩:=drop_at hlt;refine runW hx ?_;refine call (hp x hm) ?_;cases hpc:p x
    · refine run ?_;exact round (k+1) ⟨by omega,take_snoc hall hx hpc⟩ (by omega)
    · refine run ?_;exact fin (vi_eq (ix_at hall hx hpc))
  · refine run ?_;exact fin (vi_eq (ix_none hall hlt))
theorem den_FindF1 (f:Fil) (n:Int):Den Tryz.prog T 53 [.agg f.cs,.row [vi n]] (vb (isIdF n f)):=by
 refine den_of_body follows (fun args w=>Tryz.call53 args w) Tryz.func53 rfl 8 rfl ?_;refine run ?_;exact fin rfl
theorem den_FindF (l:List Fil) (n:Int) (hl:l.length<=1048576):Den Tryz.prog T 17 [fils l,vi n] (vi (findF l n)):=by
 refine den_of_body follows (fun args w=>Tryz.call17 args w) Tryz.func17 rfl 8 rfl ?_;refine run ?_;refine call (den_ixFil l _ _ (isIdF n) hl fun o _=>den_FindF1 o n) ?_;refine run ?_;exact fin rfl
end Go.Arc
set_option maxRecDepth 100000
namespace Go.Arc
open Go.Ab Go.RowKit Go.Proofs
variable {T : Lay}
theorem inS_and (f u d:Int):inS f u d=(decide (f<=d) && decide (d<u)):=by simp[inS]
theorem den_there (os:List Ofc) (id d:Int) (hl:os.length<=1048576):Den Tryz.prog T 299 [ofcs os,vi id,vi d] (vb (thereO os id d)):=by
 refine den_of_body follows (fun args w=>Tryz.call299 args w) Tryz.func299 rfl 33 rfl ?_;refine run ?_;refine call (den_FindO os id hl) ?_;rcases findO_look os id with ⟨h1,h2⟩ | ⟨i,o,h1,h2,h3⟩
 ·rw[thereO_n h2];refine run ?_;exact fin rfl
 ·rw[h1,thereO_s h3,inS_and];by_cases g1:o.frm<=d
  ·by_cases g2:d<o.til
   ·refine runW h2 ?_;exact fin rfl
   ·refine runW h2 ?_;exact fin rfl
  ·refine runW h2 ?_;refine fin (vb_eq ?_);simp
theorem badF_iff (f:Fil):badF f↔(f.id<1\/1073741824<f.id\/dayB f.opn 0=false\/(dayB f.cld f.opn=false/\f.cld≠1048576)\/f.pts<0\/100<f.pts):=Iff.rfl
theorem noClass_n {ps:List Plan} {f:Fil} (h:idx ps f.opn<0):noClass ps f=true:=by simp[noClass,h]
theorem noClass_s {ps:List Plan} {f:Fil} {v:Nat} {p:Plan} (h:idx ps f.opn=v) (hp:ps[v]? = some p):noClass ps f= !has p f.cls:=by
 unfold noClass;have:decide ((v:Int)<0)=false:=decide_eq_false (by omega);rw[h,Int.toNat_natCast,pl_at hp,this]; rfl
set_option maxHeartbeats 2000000 in
theorem den_checkF (L:LibC T) (os:List Ofc) (ps:List Plan) (l:List Fil) (i:Nat) (ho:FitsO os) (hp:Fits ps) (hg:goodL ps=true) (hl:FitsF l) (hi:i<l.length):
  Den Tryz.prog T 252 [ofcs os,plans ps,fils l,vi i] (vi (faultF os ps l i)):=by
 obtain ⟨hl0,hf⟩:=hl;obtain ⟨f,hfi,-,hm⟩:=drop_at hi;have hff:=hf f hm;have hp0:=hp.1;have ho0:=ho.1;refine den_of_body follows (fun args w=>Tryz.call252 args w) Tryz.func252 rfl 99 rfl ?_;refine runW hfi ?_;refine call (den_AtL L ps f.opn hp) ?_;rw[atL_good hg];by_cases b1:f.id<1
 ·rw[faultF_2 hfi ((badF_iff f).2 (.inl b1))];refine run ?_;exact fin rfl
 by_cases b2:1073741824<f.id
 ·rw[faultF_2 hfi ((badF_iff f).2 (.inr (.inl b2)))];refine run ?_;exact fin rfl
 refine run ?_;refine call (den_isDayF f.opn 0) ?_;cases b3:dayB f.opn 0
 ·rw[faultF_2 hfi ((badF_iff f).2 (.inr (.inr (.inl b3))))];refine run ?_;exact fin rfl
 refine run ?_;refine call (den_isDayF f.cld f.opn) ?_
 have next:∀ {Q:Prop},((dayB f.cld f.opn=false/\f.cld≠1048576)->Q)->((dayB f.cld f.opn=true)->Q)->(dayB f.cld f.opn=false->f.cld=1048576->Q)->Q:=fun {Q} a b c=>by
  cases e:dayB f.cld f.opn
  ·by_cases h:f.cld=1048576
   ·exact c e h
   ·exact a ⟨e,h⟩
  ·exact b e
 have tail:∀(h4:¬(dayB f.cld f.opn=false/\f.cld≠1048576)) (h5:¬f.pts<0) (h6:¬ 100<f.pts),
   faultF os ps l i=if prevF l i f=true then 5 else if name f.title=false then 4 else if thereO os f.ofc f.opn=false then 7 else if noClass ps f=true then 24 else notesErr f:=fun h4 h5 h6=>
  faultF_r hfi fun h=>by
   rcases (badF_iff f).1 h with h | h | h | h | h | h
   ·exact b1 h
   ·exact b2 h
   ·rw[b3] at h; cases h
   ·exact h4 h
   ·exact h5 h
   ·exact h6 h
 have two:f.pts<0\/100<f.pts->faultF os ps l i=2:=fun h=>faultF_2 hfi ((badF_iff f).2 (by rcases h with h | h <;> simp[h]));refine next (fun h4=> ?_) (fun h4=> ?_) (fun h4 h4'=> ?_)
 ·rw[faultF_2 hfi ((badF_iff f).2 (.inr (.inr (.inr (.inl h4))))),h4.1];have:=h4.2;refine run ?_;exact fin rfl
 all_goals rw[h4]
 all_goals by_cases b5:f.pts<0
 ·rw[two (.inl b5)];refine run ?_;exact fin rfl
 rotate_left
 ·rw[two (.inl b5)];refine run ?_;exact fin rfl
 rotate_left
 all_goals by_cases b6:100<f.pts
 ·rw[two (.inr b6)];refine run ?_;exact fin rfl
 rotate_left
 ·rw[two (.inr b6)];refine run ?_;exact fin rfl
 rotate_left
 all_goals
  rw[tail (by simp[*]) b5 b6]
  have hprev:(prevF l i f=true/\∃q,i≠0/\l[i-1]? = some q/\f.id<=q.id)\/(prevF l i f=false/\(i=0\/∃q,i≠0/\l[i-1]? = some q/\¬f.id<=q.id)):=by
   by_cases h0:i=0
   ·right; rw[h0]; exact ⟨prevF_0 l f,.inl rfl⟩
   ·obtain ⟨q,hq,-,-⟩:=drop_at (l:=l) (k:=i-1) (by omega);by_cases hle:f.id<=q.id
    ·left; exact ⟨by rw[prevF_s h0 hq]; simp[hle],q,h0,hq,hle⟩
    ·right; exact ⟨by rw[prevF_s h0 hq]; simp[hle],.inr ⟨q,h0,hq,hle⟩⟩
  have rest:∀ {st:St} {Q:AX->St->Prop},True:=fun {_ _} => trivial;rcases hprev with ⟨hpv,q,h0,hq,hle⟩ | ⟨hpv,h0 | ⟨q,h0,hq,hle⟩⟩
  ·rw[if_pos hpv];refine runW hq ?_;exact fin rfl
  all_goals
   rw[if_neg (by rw[hpv]; exact Bool.noConfusion)]
   first
    | (subst h0; refine run ?_)
    | refine runW hq ?_
   refine call (den_Name L f.title hff.2.1) ?_;cases hn:name f.title
   ·rw[if_pos rfl];refine run ?_;exact fin rfl
   ·rw[if_neg (by exact Bool.noConfusion)];refine run ?_;refine call (den_there os f.ofc f.opn ho0) ?_;cases ht:thereO os f.ofc f.opn
    ·rw[if_pos rfl];refine run ?_;exact fin rfl
    ·rw[if_neg (by exact Bool.noConfusion)];by_cases hv:idx ps f.opn<0
     ·rw[noClass_n hv,if_pos rfl];refine run ?_;exact fin rfl
     ·obtain ⟨v,hv',hvl⟩:=idx_some hv;obtain ⟨p,hpv',-,hpm⟩:=drop_at hvl;rw[noClass_s hv' hpv'];rw[hv'] at hv ⊢;refine runW hpv' ?_;refine call (den_Has p f.cls (hp.2 p hpm).1) ?_;cases has p f.cls
      ·refine run ?_;exact fin rfl
      ·refine run ?_;refine call (den_notes L f hff) ?_;refine run ?_;exact fin rfl
end Go.Arc
set_option maxRecDepth 100000
namespace Go.Arc
open Go.Ab Go.RowKit Go.Proofs
variable {T : Lay}
theorem checkF_1 {os:List Ofc} {ps:List Plan} {l:List Fil} (h:goodO os=false\/goodL ps=false):checkF os ps l=(-1,1):=by unfold checkF; rw[if_pos h]
theorem checkF_c {os:List Ofc} {ps:List Plan} {l:List Fil} (h:goodO os=true) (h':goodL ps=true):checkF os ps l=chk 256 l.length (faultF os ps l):=by unfold checkF; rw[if_neg (by simp[h,h'])]
theorem den_CheckF (L:LibC T) (os:List Ofc) (ps:List Plan) (l:List Fil) (ho:FitsO os) (hp:Fits ps) (hl:FitsF l):
  Den Tryz.prog T 171 [ofcs os,plans ps,fils l] (chkV (checkF os ps l)):=by
 have hl0:=hl.1;refine den_of_body follows (fun args w=>Tryz.call171 args w) Tryz.func171 rfl 48 rfl ?_;refine run ?_;refine call (den_CheckO L os ho) ?_;refine run ?_;refine call (den_CheckL L ps hp) ?_;by_cases g1:(checkO os).2=0
 ·have go:goodO os=true:=by simp[goodO,g1]
  by_cases g2:(check ps).2=0
  ·have gp:goodL ps=true:=(goodL_iff ps).2 g2;rw[checkF_c go gp];by_cases h16:256<l.length
   ·refine run ?_;refine fin ?_;simp only[chkV,chk_many h16]
   refine run ?_
   refine loop ⟨[0,1,2,34,35],[],[],[]⟩ (fun k:Nat=>k<=l.length/\∀i,i<k->faultF os ps l i=0) (fun k=>l.length-k)
    (fun k=>⟨48,[(0,.v (ofcs os)),(1,.v (plans ps)),(2,.v (fils l)),(34,.v (vi l.length)),(35,.v (vi k))],[],[]⟩) 0 ⟨by omega,by omega⟩ ?_
   rintro k ⟨hk,hall⟩;by_cases hlt:k<l.length
   ·refine run ?_;refine call (den_checkF L os ps l k ho hp gp hl hlt) ?_;by_cases hz:faultF os ps l k=0
    ·refine run ?_;refine round (k+1) ⟨by omega,fun i hi=> ?_⟩ (by omega);by_cases e:i=k
     ·rw[e]; exact hz
     ·exact hall i (by omega)
    ·refine run ?_;refine fin ?_;simp only[chkV,chk_bad h16 hlt hall hz]
   ·refine run ?_;refine fin ?_;simp only[chkV,chk_ok h16 fun i hi=>hall i (by omega)]
  ·have gp:goodL ps=false:=by simp[goodL,g2]
   rw[checkF_1 (.inr gp)];refine run ?_;exact fin rfl
 ·have go:goodO os=false:=by simp[goodO,g1]
  rw[checkF_1 (.inl go)];refine run ?_;exact fin rfl
end Go.Arc
