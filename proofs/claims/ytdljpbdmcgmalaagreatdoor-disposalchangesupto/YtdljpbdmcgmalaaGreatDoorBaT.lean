/- A part of this claim. -/
import Derived.Test.YtdljpbdmcgmalaaGreatDoorSp9
import Derived.Test.YtdljpbdmcgmalaaGreatDoorBaI
set_option maxRecDepth 100000
namespace Go.Arc
open Go.Ab Go.RowKit Go.Proofs Tryz
variable {T : Lay}
theorem den_ixIsInt (l:List Int) (x:Int) (hl:l.length<=1048576):Den prog T 128 [ints l,vi x] (vi (ix (fun y=>decide (x=y)) l)):=by
 refine ja0 call128 func128 19 ?_;refine run ?_;refine ja7 ⟨[8,0,1,7],[],[],[]⟩ l.length (fun k=>∀n∈l.take k,decide (x=n)=false) sm ?_;rintro k ⟨hk,hall⟩;by_cases hlt:k<l.length
 ·obtain ⟨y,hy,-,-⟩:=ja1 hlt;by_cases hxy:x=y
  ·exact zdi
  ·exact zci
 ·refine run ?_;exact fin (ja5 (jgv (p:=fun n=>decide (x=n)) hall hlt))
theorem jmg (l:List Int) (x:Int) (hl:l.length<=1048576):Den prog T 71 [ints l,vi x] (vb (l.any fun y=>decide (x=y))):=by
 refine ja0 call71 func71 9 ?_;refine rc (den_ixIsInt l x hl) ?_;exact zbk
theorem den_ixInt (l:List Int) (f:FuncId) (cap:List V) (p:Int->Bool) (hl:l.length<=1048576) (hp:∀e∈l,Den prog T f (vi e::cap) (vb (p e))):
   Den prog T 162 [ints l,.func f cap] (vi (ix p l)):=by
  refine ja0 call162 func162 19 ?_;exact ixPf
theorem jkl (l:List Int) (f:FuncId) (cap:List V) (p:Int->Bool) (hl:l.length<=1048576) (hp:∀e∈l,Den prog T f (vi e::cap) (vb (p e))):
   Den prog T 98 [ints l,.func f cap] (vb (l.any p)):=by
  refine ja0 call98 func98 9 ?_;refine rc (den_ixInt l f cap p hl hp) ?_;exact zbj
theorem den_ixOfc (l:List Ofc) (f:FuncId) (cap:List V) (p:Ofc->Bool) (hl:l.length<=1048576) (hp:∀e∈l,Den prog T f (.agg e.cs::cap) (vb (p e))):
   Den prog T 371 [ofcs l,.func f cap] (vi (ix p l)):=by
  refine ja0 call371 func371 19 ?_;exact ixPf
theorem den_FindO1 (o:Ofc) (n:Int):Den prog T 372 [.agg o.cs,.row [vi n]] (vb (isId n o)):=by
 refine ja0 call372 func372 8 ?_;exact za
theorem den_FindO (l:List Ofc) (n:Int) (hl:l.length<=1048576):Den prog T 329 [ofcs l,vi n] (vi (findO l n)):=by
 refine ja0 call329 func329 8 ?_;refine rc (den_ixOfc l _ _ (isId n) hl fun o _=>den_FindO1 o n) ?_;exact za
theorem jnq (l:List Ofc) (n:Int) (hl:l.length<=1048576):Den prog T 225 [ofcs l,vi n] (vi (findO l n)):=by
 refine ja0 call225 func225 20 ?_;refine run ?_;refine ja7 ⟨[5,0,1],[],[],[]⟩ l.length (fun k=>∀o∈l.take k,isId n o=false) sm ?_;rintro k ⟨hk,hall⟩;by_cases hlt:k<l.length
 ·obtain ⟨x,hx,-,-⟩:=ja1 hlt;by_cases hxn:x.id=n
  ·refine runW hx ?_;exact fin (ja5 (jge (p:=isId n) hall hx (by simp[isId,hxn])))
  ·refine runW hx ?_;exact round (k+1) ⟨om,jae (q:=fun o:Ofc=>isId n o=false) hall hx (by simp[isId,hxn])⟩ om
 ·refine run ?_;exact fin (ja5 (jgv (p:=isId n) hall hlt))
theorem den_validO (f u:Int):Den prog T 209 [span f u] (vb (jaq f u)):=by
 refine ja0 call209 func209 18 ?_;unfold jaq;by_cases h1:0<=f <;> by_cases h2:f<u <;> by_cases h3:u<=1048576 <;> (refine run ?_; refine fin (ja3 ?_); simp; try omega)
instance:TZV prog 100 (.agg #[.int .i64 0,.string ⟨#[]⟩,.int .i64 0,.int .i64 0,.slice none 0 0]):=⟨kr⟩
instance:TMap prog 251 3 100 (.agg #[.int .i64 0,.string ⟨#[]⟩,.int .i64 0,.int .i64 0,.slice none 0 0]):=⟨kr,kr,kr⟩
theorem jiv:okVal (.agg #[.int .i64 0,.string ⟨#[]⟩,.int .i64 0,.int .i64 0,.slice none 0 0])=true:=rfl
theorem jiw:ofVal (.agg #[.int .i64 0,.string ⟨#[]⟩,.int .i64 0,.int .i64 0,.slice none 0 0])= .agg [vi 0,.str [],vi 0,vi 0,.val (.slice none 0 0)]:=rfl
theorem opv_mapn (σ:Sto):opv σ (.const (.map none))=some (.v (.val (.map none))):=rfl
theorem den_index (l:List Ofc) (hl:l.length<=1048576):Den prog T 208 [ofcs l] (mapO (idxO l)):=by
 refine ja0 call208 func208 30 ?_;refine runW opv_mapn ?_
 refine loop ⟨[3,9,10,11],[8],[],[]⟩ (fun k:Nat=>k<=l.length) (fun k=>l.length-k)
  (fun k=>⟨30,[(3,.m 8),(9,.v (ofcs l)),(10,.v (vi l.length)),(11,.v (vi k))],[(8,.map (jf8 (idxO (l.take k))))],[]⟩) 0 om ?_
 intro k hk;by_cases hlt:k<l.length
 ·obtain ⟨x,hx,-,-⟩:=ja1 hlt
  have hstep:idxO (l.take (k+1))=addO (idxO (l.take k)) x:=by
   obtain ⟨hlt',rfl⟩:=gsi.1 hx
   show (l.take (k+1)).foldl addO []=_
   rw[List.take_succ_eq_append_getElem hlt',List.foldl_append]; rfl
  have hf:=jjf x.id (idxO (l.take k));cases hlk:jaf (idxO (l.take k)) x.id with
  | some y=>
   rw[hlk] at hf;have ha:addO (idxO (l.take k)) x=idxO (l.take k):=by unfold addO; rw[hlk]; rfl
   rw[ha] at hstep;refine runW (ai hx (ai hf (ai jiv jiw))) ?_;refine round (k+1) om om ?_;rw[hstep]; rfl
  | none=>
   rw[hlk] at hf;have hu:=jqs hlk;have ha:addO (idxO (l.take k)) x=idxO (l.take k)++[x]:=by unfold addO; rw[hlk]; rfl
   rw[ha] at hstep;refine runW (ai hx (ai hf (ai hu (ai jiv jiw)))) ?_;refine round (k+1) om om ?_;rw[hstep]; rfl
 ·have he:l.take k=l:=List.take_of_length_le om;rw[he];refine run ?_;exact finFm (.refl _)
theorem den_next1 (es:List Ofc) (o:Ofc) (n:Int) (h:(jaf es n).isSome=true):Den prog T 267 [vi n,.row [mapO es],.row o.cs] (vb (!decide (frmO es n=o.til))):=by
 have hz:=jlv (jf8 es);have hf:=jjf n es;cases e:jaf es n with
 | none=>rw[e] at h; cases h
 | some x=>
  rw[e] at hf;have hfr:frmO es n=x.frm:=by unfold frmO; rw[e]
  rw[hfr];refine ja0 call267 func267 14 ?_;refine runW (ai hz (ai hf (ai jiv jiw))) ?_;exact fin rfl
theorem den_next (es:List Ofc) (o:Ofc) (ho:o.Fit):Den prog T 210 [mapO es,.agg o.cs] (vi (jc3 es o)):=by
 have hn:=ho.2;have hz:=jlv (jf8 es);refine ja0 call210 func210 46 ?_;refine run ?_;refine ja7 ⟨[14,2,3,12,13],[2,3],[],[]⟩ o.nxt.length (fun k=>∀i,i<k->dupAt o.nxt i=false) om ?_;rintro k ⟨hk,hall⟩;by_cases hlt:k<o.nxt.length
 ·obtain ⟨x,hx,-,-⟩:=ja1 hlt;have htk:((o.nxt.map Cint).take k).drop 0=(o.nxt.take k).map Cint:=by simp
  refine rcW (ai hx htk) (jmg (o.nxt.take k) x zei) ?_;cases hd:(o.nxt.take k).any fun y=>decide (x=y)
  ·refine run ?_;refine round (k+1) ⟨om,fun i hi=> ?_⟩ om;by_cases e:i=k
   ·rw[e]; exact dupAt_f hx hd
   ·exact zb2
  ·have hs:jc3 es o=6:=by unfold jc3; rw[if_pos (dups_at hx hd)]
   rw[hs];exact za
 ·have hd:dups o.nxt=false:=dups_end fun i hi=>hall i om;refine run ?_;refine ja7 ⟨[29,2,3,27,28],[2,3],[],[]⟩ o.nxt.length (fun k=>∀n∈o.nxt.take k,(jaf es n).isNone=false) sm ?_;rintro k ⟨hk,hall⟩;by_cases hlt:k<o.nxt.length
  ·obtain ⟨x,hx,-,-⟩:=ja1 hlt;have hf:=jjf x es;cases e:jaf es x with
   | none=>
    rw[e] at hf
    have hs:jc3 es o=7:=by
     unfold jc3;rw[if_neg (by simp[hd]),if_pos (je2 hx (by simp[e]))]
    rw[hs];refine runW (ai hx (ai hz (ai hf (ai jiv jiw)))) ?_;exact fin rfl
   | some y=>
    rw[e] at hf;refine runW (ai hx (ai hz (ai hf (ai jiv jiw)))) ?_;exact round (k+1) ⟨om,jae (q:=fun n:Int=>(jaf es n).isNone=false) hall hx (by simp[e])⟩ om
  ·have h7:(o.nxt.any fun n=>(jaf es n).isNone)=false:=jg4 hall hlt;refine rc (jkl o.nxt _ _ (fun n=> !decide (frmO es n=o.til)) hn fun n hm=>den_next1 es o n ?_) ?_
   ·have:=List.any_eq_false.1 h7 n hm;cases e:jaf es n <;> simp[e] at this ⊢
   ·have hs:jc3 es o=if (o.nxt.any fun n=> !decide (frmO es n=o.til))=true then 10 else 0:=by
     unfold jc3;rw[if_neg (by simp[hd]),if_neg (by simp only[h7]; exact Bool.noConfusion)]
    rw[hs];cases o.nxt.any fun n=> !decide (frmO es n=o.til)
    ·exact za
    ·exact za
theorem jrh (l:List Ofc) (o:Ofc) (hl:l.length<=1048576) (ho:o.Fit):Den prog T 221 [ofcs l,.agg o.cs] (vi (jc3 l o)):=by
 have hn:=ho.2;refine ja0 call221 func221 70 ?_;refine run ?_;refine ja7 ⟨[5,0,3],[3],[],[]⟩ o.nxt.length (fun k=>∀i,i<k->dupAt o.nxt i=false) om ?_;rintro k ⟨hk,hall⟩;by_cases hlt:k<o.nxt.length
 ·obtain ⟨x,hx,-,-⟩:=ja1 hlt;refine run ?_;refine ja7 ⟨[6,0,3,5],[3],[],[]⟩ k (fun j=>∀y∈o.nxt.take j,decide (x=y)=false) sm ?_;rintro j ⟨hj,hin⟩;by_cases hjk:j<k
  ·obtain ⟨y,hy,-,-⟩:=ja1 (l:=o.nxt) (k:=j) om;by_cases hxy:x=y
   ·subst hxy;have hmem:(o.nxt.take k).any (fun y=>decide (x=y))=true:=je2 (k:=j) (by rw[List.getElem?_take,if_pos hjk]; exact hy) sm;have hs:jc3 l o=6:=by unfold jc3; rw[if_pos (dups_at hx hmem)]
    rw[hs];refine runW (ai hx hy) ?_;exact fin rfl
   ·have hyx:¬y=x:=fun e=>hxy e.symm;refine runW (ai hx hy) ?_;exact round (j+1) ⟨om,jae (q:=fun y:Int=>decide (x=y)=false) hin hy (by simp[hxy])⟩ om
  ·have hd:(o.nxt.take k).any (fun y=>decide (x=y))=false:=by
    have:j=k:=om
    subst this;rw[List.any_eq_false]; intro y hy; simp[hin y hy]
   refine run ?_;refine round (k+1) ⟨om,fun i hi=> ?_⟩ om;by_cases e:i=k
   ·rw[e]; exact dupAt_f hx hd
   ·exact zb2
 ·have hd:dups o.nxt=false:=dups_end fun i hi=>hall i om;refine run ?_;refine ja7 ⟨[7,0,3],[3],[],[]⟩ o.nxt.length (fun k=>∀n∈o.nxt.take k,(jaf l n).isNone=false) sm ?_;rintro k ⟨hk,hall⟩;by_cases hlt:k<o.nxt.length
  ·obtain ⟨x,hx,-,-⟩:=ja1 hlt;refine rcW hx (jnq l x hl) ?_;rcases jkj l x with ⟨h1,h2⟩ | ⟨i,q,h1,h2,h3⟩
   ·have hs:jc3 l o=7:=by
     unfold jc3;rw[if_neg (by simp[hd]),if_pos (je2 hx (by simp[h2]))]
    rw[hs];exact za
   ·rw[h1];refine run ?_;exact round (k+1) ⟨om,jae (q:=fun n:Int=>(jaf l n).isNone=false) hall hx (by simp[h3])⟩ om
  ·have h7:(o.nxt.any fun n=>(jaf l n).isNone)=false:=jg4 hall hlt
   have hs:jc3 l o=if (o.nxt.any fun n=> !decide (frmO l n=o.til))=true then 10 else 0:=by
    unfold jc3;rw[if_neg (by simp[hd]),if_neg (by simp only[h7]; exact Bool.noConfusion)]
   rw[hs];refine run ?_;refine ja7 ⟨[8,0,3],[3],[],[]⟩ o.nxt.length (fun k=>∀n∈o.nxt.take k,(!decide (frmO l n=o.til))=false) sm ?_;rintro k ⟨hk,hall2⟩;by_cases hlt:k<o.nxt.length
   ·obtain ⟨x,hx,-,hm⟩:=ja1 hlt;have hx7:=List.any_eq_false.1 h7 x hm;refine rcW hx (jnq l x hl) ?_;rcases jkj l x with ⟨h1,h2⟩ | ⟨i,q,h1,h2,h3⟩
    ·simp[h2] at hx7
    ·have hfr:frmO l x=q.frm:=by unfold frmO; rw[h3]
     rw[h1];by_cases he:q.frm=o.til
     ·refine runW h2 ?_;exact round (k+1) ⟨om,jae (q:=fun n:Int=>(!decide (frmO l n=o.til))=false) hall2 hx (by simp[hfr,he])⟩ om
     ·rw[if_pos (je2 hx (by simp[hfr,he]))];refine runW h2 ?_;exact fin rfl
   ·rw[if_neg (by rw[jg4 hall2 hlt]; exact Bool.noConfusion)];exact za
theorem den_faultORef (l:List Ofc) (i:Nat) (hl:jdw l) (hi:i<l.length):Den prog T 165 [ofcs l,vi i] (vi (jct l i)):=by
 obtain ⟨hl0,hf⟩:=hl;obtain ⟨o,ho,-,hm⟩:=ja1 hi;obtain ⟨h1,h2⟩:=id (hf o hm);refine ja0 call165 func165 50 ?_;by_cases b1:o.id<1
 ·rw[jh7 ho (.inl b1)];exact zd0
 by_cases b2:1073741824<o.id
 ·rw[jh7 ho (.inr (.inl b2))];exact zd0
 refine rcW ho (jkn o.frm o.til) ?_;cases hg:jaq o.frm o.til
 ·rw[jh7 ho (.inr (.inr (.inl hg)))];exact za
 by_cases b4:8<o.nxt.length
 ·rw[jh7 ho (.inr (.inr (.inr b4)))];exact za
 have hb:¬badO o:=fun h=>by
  rcases h with h | h | h | h
  ·exact b1 h
  ·exact b2 h
  ·rw[hg] at h; cases h
  ·exact b4 h
 refine rc (jhm o.name h1) ?_;cases hn:name o.name
 ·rw[faultO_4 ho hb hn];exact za
 by_cases h0:i=0
 ·subst h0;rw[jpt ho hb hn];refine rc (jrh l o hl0 (hf o hm)) ?_;exact za
 ·obtain ⟨q,hq,-,-⟩:=ja1 (l:=l) (k:=i-1) om;by_cases hle:o.id<=q.id
  ·rw[faultO_5 ho hb hn h0 hq hle];refine runW hq ?_;exact fin rfl
  ·rw[faultO_s ho hb hn h0 hq hle];refine rcW hq (jrh l o hl0 (hf o hm)) ?_;exact za
theorem jqq (l:List Ofc) (hl:jdw l):Den prog T 104 [ofcs l] (chkV (jcv l)):=by
 have hl0:=hl.1;refine ja0 call104 func104 22 ?_;by_cases h16:32<l.length
 ·refine run ?_;refine fin ?_;simp only[chkV,jcv,jdz h16]
 refine run ?_;refine ja7 ⟨[4,0],[],[],[]⟩ l.length (fun k=>∀i,i<k->jct l i=0) om ?_;rintro k ⟨hk,hall⟩;by_cases hlt:k<l.length
 ·refine rc (den_faultORef l k hl hlt) ?_;by_cases hz:jct l k=0
  ·refine run ?_;refine round (k+1) ⟨om,fun i hi=> ?_⟩ om;by_cases e:i=k
   ·exact zcr
   ·exact zb2
  ·refine run ?_;refine fin ?_;simp only[chkV,jcv,jeb h16 hlt hall hz]
 ·refine run ?_;refine fin ?_;simp only[chkV,jcv,jds h16 fun i hi=>hall i om]
theorem den_GoodORef (l:List Ofc) (hl:jdw l):Den prog T 167 [ofcs l] (vb (jca l)):=by
 refine ja0 call167 func167 12 ?_;refine rc (jqq l hl) ?_;refine run ?_;exact fin (ja3 rfl)
theorem jp2 (L:LibC T) (l:List Ofc) (hl:jdw l):Den prog T 143 [ofcs l] (chkV (jcv l)):=by
 have hl0:=hl.1;refine ja0 call143 func143 71 ?_;by_cases h16:32<l.length
 ·refine run ?_;refine fin ?_;simp only[chkV,jcv,jdz h16]
 refine rc (den_index l hl0) ?_;refine run ?_;refine ja7 ⟨[15,0,4,13,14],[],[],[]⟩ l.length (fun k=>∀i,i<k->jct l i=0) om ?_;rintro k ⟨hk,hall⟩;by_cases hlt:k<l.length
 ·obtain ⟨o,ho,-,hm⟩:=ja1 hlt;have hof:=hl.2 o hm;obtain ⟨h1,h2⟩:=id hof
  have out:∀e:Int,jct l k=e->e≠0->chkV (jcv l)= .tup [vi k,vi e]:=fun e he hne=>by
   rw[jcv,jeb h16 hlt hall zfa,he]
  by_cases b1:o.id<1
  ·rw[out 2 (jh7 ho (.inl b1)) dc];exact zd0
  by_cases b2:1073741824<o.id
  ·rw[out 2 (jh7 ho (.inr (.inl b2))) dc];exact zd0
  refine rcW ho (den_validO o.frm o.til) ?_;cases hg:jaq o.frm o.til
  ·rw[out 2 (jh7 ho (.inr (.inr (.inl hg)))) dc];exact za
  by_cases b4:8<o.nxt.length
  ·rw[out 2 (jh7 ho (.inr (.inr (.inr b4)))) dc];exact za
  have hb:¬badO o:=fun h=>by
   rcases h with h | h | h | h
   ·exact b1 h
   ·exact b2 h
   ·rw[hg] at h; cases h
   ·exact b4 h
  refine rc (jiq L o.name h1) ?_;cases hn:name o.name
  ·rw[out 4 (faultO_4 ho hb hn) dc];exact za
  have hsi:=succ_idx l o;by_cases h0:k=0
  ·subst h0;have hs:=jpt ho hb hn;refine rc (den_next (idxO l) o hof) ?_;rw[hsi,<- hs];by_cases hz:jct l 0=0
   ·refine run ?_;refine round 1 ⟨om,fun i hi=> ?_⟩ om;rw[show i=0 by omega]; exact hz
   ·rw[out _ rfl hz];exact za
  ·obtain ⟨q,hq,-,-⟩:=ja1 (l:=l) (k:=k-1) om;by_cases hle:o.id<=q.id
   ·rw[out 5 (faultO_5 ho hb hn h0 hq hle) dc];refine runW hq ?_;exact fin rfl
   ·have hs:=faultO_s ho hb hn h0 hq hle;refine rcW hq (den_next (idxO l) o hof) ?_;rw[hsi,<- hs];by_cases hz:jct l k=0
    ·refine run ?_;refine round (k+1) ⟨om,fun i hi=> ?_⟩ om;by_cases e:i=k
     ·exact zcr
     ·exact zb2
    ·rw[out _ rfl hz];exact za
 ·refine run ?_;refine fin ?_;simp only[chkV,jcv,jds h16 fun i hi=>hall i om]
def fewO1 (o:Ofc):Bool:= !(decide (10<o.nxt.length) || decide (100<o.name.length))
def fewO (l:List Ofc):Bool:= !((decide (12<l.length) && decide (l.length<=32)) || decide (37<l.length)) && l.all fewO1
theorem den_FewO (l:List Ofc) (hl:jdw l):Den prog T 78 [ofcs l] (vb (fewO l)):=by
 have hl0:=hl.1;refine ja0 call78 func78 39 ?_;by_cases g:(12<l.length/\l.length<=32)\/37<l.length
 ·have hf:fewO l=false:=by
   rcases g with ⟨g1,g2⟩ | g
   ·simp[fewO,g1,g2]
   ·simp[fewO,g]
  rw[hf];by_cases a1:l.length<=32
  ·have a2:12<l.length:=om
   exact za
  ·have a2:12<l.length:=om
   have a3:37<l.length:=om
   exact za
 ·have hq:fewO l=l.all fewO1:=by
   have e1:(decide (12<l.length) && decide (l.length<=32))=false:=by
    cases e:decide (12<l.length)
    ·rfl
    ·have:12<l.length:=by simpa using e
     simp; omega
   have e2:decide (37<l.length)=false:=by simp; omega
   simp only[fewO,e1,e2,Bool.or_false,Bool.not_false,Bool.true_and]
  have go:∀Q:Prop,(12<l.length->¬l.length<=32->Q)->(¬ 12<l.length->Q)->Q:=fun Q a b=>by
   by_cases a1:12<l.length
   ·exact a a1 om
   ·exact b a1
  rw[hq];have a3:¬ 37<l.length:=om
  refine go _ (fun a1 a2=> ?_) (fun a1=> ?_) <;>
  ·refine run ?_;refine ja7 ⟨[3,0],[],[],[]⟩ l.length (fun k=>∀p∈l.take k,fewO1 p=true) sm ?_;rintro k ⟨hk,hall⟩;by_cases hlt:k<l.length
   ·obtain ⟨x,hx,hd,hm⟩:=ja1 hlt;obtain ⟨f1,f2⟩:=hl.2 x hm;by_cases g1:10<x.nxt.length
    ·refine runW hx ?_;refine fin (ja3 ?_);rw[jej hx (by simp[fewO1,g1])]
    by_cases g2:100<x.name.length
    ·refine runW hx ?_;refine fin (ja3 ?_);rw[jej hx (by simp[fewO1,g2])]
    refine runW hx ?_;exact round (k+1) ⟨om,jae (q:=fun p:Ofc=>fewO1 p=true) hall hx (by simp[fewO1,g1,g2])⟩ om
   ·refine run ?_;refine fin (ja3 ?_);rw[jj2 hall hlt]
theorem jox (d f:Int):Den prog T 272 [vi d,vi f] (vb (dayB d f)):=by
 refine ja0 call272 func272 12 ?_;unfold dayB;by_cases h1:f<=d <;> by_cases h2:d<=1048575 <;> (refine run ?_; refine fin (ja3 ?_); simp; try omega)
theorem jke (n a b:Int):Den prog T 224 [vi n,vi a,vi b] (vb (decide (a<=n/\n<=b))):=by
 refine ja0 call224 func224 15 ?_;by_cases h1:a<=n <;> by_cases h2:n<=b <;> (refine run ?_; refine fin (ja3 ?_); simp; try omega)
theorem den_free (L:LibC T) (s:Str) (hs:s.length<=1048576):Den prog T 333 [.str s] (vb (jd7 s)):=by
 refine ja0 call333 func333 13 ?_;refine rc (jiq L s hs) ?_;cases hn:name s
 ·refine run ?_;refine fin (ja3 ?_); simp[jd7,hn]
 ·cases h1:s == [111,112,101,110,101,100]
  ·exact zbt
  ·exact zbt
theorem den_event (s:Str) (hs:s.length<=1048576):Den prog T 290 [.str s] (vb (jd7 s)):=by
 refine ja0 call290 func290 13 ?_;refine rc (jhm s hs) ?_;cases hn:name s
 ·refine run ?_;refine fin (ja3 ?_); simp[jd7,hn]
 ·cases h1:s == [111,112,101,110,101,100]
  ·exact zbt
  ·exact zbt
theorem jqz (a b:Int):Den prog T 306 [datg a b] (vi (if jdd a b=true then 0 else 1)):=by
 refine ja0 call306 func306 18 ?_;by_cases h1:a<0
 ·have hg:jdd a b=false:=by simp[jdd]; omega
  rw[hg];exact za
 by_cases h2:b<a
 ·have hg:jdd a b=false:=by simp[jdd]; omega
  rw[hg];exact za
 by_cases h3:1048575<b
 ·have hg:jdd a b=false:=by simp[jdd]; omega
  rw[hg];exact za
 ·have hg:jdd a b=true:=by simp[jdd]; omega
  rw[hg];exact za
theorem den_datGood (a b:Int):Den prog T 291 [datg a b] (vb (jdd a b)):=by
 refine ja0 call291 func291 18 ?_;unfold jdd;by_cases h1:0<=a <;> by_cases h2:a<=b <;> by_cases h3:b<=1048575 <;> (refine run ?_; refine fin (ja3 ?_); simp; try omega)
theorem den_right (f:Fil) (n:Note):Den prog T 335 [.agg f.cs,.agg n.cs] (vb (jec f n)):=by
 refine ja0 call335 func335 16 ?_;refine rc (jqz n.fst n.lst) ?_;unfold jec;cases jdd n.fst n.lst
 ·exact za
 ·refine rc (jox n.rcd f.opn) ?_;exact za
theorem den_notes1 (L:LibC T) (n:Note) (hn:n.Fit):Den prog T 332 [.agg n.cs] (vb (!jd7 n.name)):=by
 refine ja0 call332 func332 7 ?_;refine rc (den_free L n.name hn) ?_;exact za
theorem den_notes2 (f:Fil) (n:Note):Den prog T 334 [.agg n.cs,.row f.cs] (vb (!jec f n)):=by
 refine ja0 call334 func334 8 ?_;refine rc (den_right f n) ?_;exact za
theorem den_notes3 (a b:Note):Den prog T 337 [.agg a.cs,.agg b.cs] (vi (cmpI a.rcd b.rcd)):=by
 refine ja0 call337 func337 10 ?_;refine rc (jmh a.rcd b.rcd) ?_;exact za
theorem cmpI_lt (a b:Int):cmpI a b<0↔a<b:=by
 unfold cmpI;split
 ·constructor <;> intro <;> omega
 ·split <;> (constructor <;> intro <;> omega)
theorem den_sortedNote (l:List Note) (f:FuncId) (hl:l.length<=1048576) (hp:∀a b:Note,Den prog T f [.agg a.cs,.agg b.cs] (vi (cmpI a.rcd b.rcd))):
   Den prog T 336 [ntss l,.func f []] (vb (!jhs l)):=by
  refine ja0 call336 func336 25 ?_;refine run ?_;refine jb6 ⟨[5,0,1],[],[],[]⟩ (fun i:Int=> -1<=i/\i+1<=l.length/\∀j:Nat,i<j->j<l.length->early l j=false) (fun i=>(i+1).toNat) (fun i=>[(5,.v (vi i))]) ((l.length:Int)-1) ⟨om,om,fun j h1 h2=>by omega⟩ ?_;rintro i ⟨h1,h2,hall⟩;by_cases hpos:0<i
  · obtain ⟨k,rfl⟩:∃k:Nat,i=k:=⟨i.toNat,om⟩;obtain ⟨y,hy,-,-⟩:=ja1 (l:=l) (k:=k) om;obtain ⟨x,hx,-,-⟩:=ja1 (l:=l) (k:=k-1) om;have he:=early_s (show k≠0 by omega) hx hy;refine rcW (ai hx hy) (hp y x) ?_;by_cases hlt:y.rcd<x.rcd
    · have hc:=(cmpI_lt y.rcd x.rcd).2 hlt;rw[jr6 (show k<l.length by omega) (by rw[he]; simp[hlt])];exact za
    · have hc:¬cmpI y.rcd x.rcd<0:=fun h=>hlt ((cmpI_lt _ _).1 h);refine run ?_;refine round ((k:Int)-1) ⟨om,om,fun j g1 g2=> ?_⟩ om;by_cases e:j=k
      · rw[e,he]; simp[hlt]
      · exact hall j om g2
  · rw[jqt fun j hj=>by
      by_cases h0:j=0
      · rw[h0]; exact early_0 l
      · exact hall j om hj]
    exact za
theorem den_notes (L:LibC T) (f:Fil) (hf:f.Fit):Den prog T 275 [.agg f.cs] (vi (jdy f)):=by
 have hn:=hf.2.2.1;refine ja0 call275 func275 22 ?_;by_cases h16:16<f.nts.length
 ·rw[notesErr_8 h16];exact za
 refine rc (jrr f.nts _ _ (fun n=> !jd7 n.name) hn fun n hm=>den_notes1 L n (hf.2.2.2 n hm)) ?_;cases h4:f.nts.any fun n=> !jd7 n.name
 ·refine rc (jrr f.nts _ _ (fun n=> !jec f n) hn fun n _=>den_notes2 f n) ?_;cases h2:f.nts.any fun n=> !jec f n
  ·rw[notesErr_s h16 h4 h2];refine rc (den_sortedNote f.nts _ hn fun a b=>den_notes3 a b) ?_;cases jhs f.nts
   ·exact za
   ·exact za
  ·rw[jop h16 h4 h2];exact za
 ·rw[notesErr_4 h16 h4];exact za
set_option maxHeartbeats 1000000 in
theorem den_notesRef (f:Fil) (hf:f.Fit):Den prog T 228 [.agg f.cs] (vi (jdy f)):=by
 have hn:=hf.2.2.1;refine ja0 call228 func228 73 ?_;by_cases h16:16<f.nts.length
 ·rw[notesErr_8 h16];exact za
 refine run ?_;refine ja7 ⟨[3,1],[1],[],[]⟩ f.nts.length (fun k=>∀n∈f.nts.take k,(!jd7 n.name)=false) sm ?_;rintro k ⟨hk,hall⟩;by_cases hlt:k<f.nts.length
 ·obtain ⟨x,hx,-,hm⟩:=ja1 hlt;refine rcW hx (den_event x.name (hf.2.2.2 x hm)) ?_;cases hfr:jd7 x.name
  ·rw[notesErr_4 h16 (je2 hx (by simp[hfr]))];exact za
  ·refine run ?_;exact round (k+1) ⟨om,jae (q:=fun n:Note=>(!jd7 n.name)=false) hall hx (by simp[hfr])⟩ om
 ·have h4:(f.nts.any fun n=> !jd7 n.name)=false:=jg4 hall hlt;refine run ?_;refine ja7 ⟨[4,1],[1],[],[]⟩ f.nts.length (fun k=>∀n∈f.nts.take k,(!jec f n)=false) sm ?_;rintro k ⟨hk,hall⟩;by_cases hlt:k<f.nts.length
  ·obtain ⟨x,hx,-,hm⟩:=ja1 hlt;refine rcW hx (den_datGood x.fst x.lst) ?_;cases hg:jdd x.fst x.lst
   ·rw[jop h16 h4 (je2 hx (by simp[jec,hg]))];exact za
   ·refine rcW hx (jke x.rcd f.opn 1048575) ?_;have hr:jec f x=decide (f.opn<=x.rcd/\x.rcd<=1048575):=by simp[jec,hg,dayB]
    cases hd:decide (f.opn<=x.rcd/\x.rcd<=1048575)
    ·rw[jop h16 h4 (je2 hx (by rw[hr,hd]; rfl))];exact za
    ·refine run ?_;exact round (k+1) ⟨om,jae (q:=fun n:Note=>(!jec f n)=false) hall hx (by rw[hr,hd]; rfl)⟩ om
  ·have h2:(f.nts.any fun n=> !jec f n)=false:=jg4 hall hlt;rw[notesErr_s h16 h4 h2];refine run ?_;refine jb6 ⟨[5,1],[1],[],[]⟩ (fun k:Nat=>1<=k/\∀j,j<k->early f.nts j=false) (fun k=>f.nts.length-k) (fun k=>[(5,.v (vi k))]) 1 ⟨om,fun j hj=>by rw[show j=0 by omega]; exact early_0 _⟩ ?_;rintro k ⟨hk,hall⟩;by_cases hlt:k<f.nts.length
   ·obtain ⟨y,hy,-,-⟩:=ja1 hlt;obtain ⟨x,hx,-,-⟩:=ja1 (l:=f.nts) (k:=k-1) om;have he:=early_s (show k≠0 by omega) hx hy;by_cases hc:y.rcd<x.rcd
    ·rw[if_pos (jr6 hlt (by rw[he]; simp[hc]))];refine runW (ai hx hy) ?_;exact fin rfl
    ·refine runW (ai hx hy) ?_;refine round (k+1) ⟨om,fun j hj=> ?_⟩ om;by_cases e:j=k
     ·rw[e,he]; simp[hc]
     ·exact hall j om
   ·rw[if_neg (by rw[jqt fun j hj=>hall j om]; exact Bool.noConfusion)];exact za
theorem den_ixFil (l:List Fil) (f:FuncId) (cap:List V) (p:Fil->Bool) (hl:l.length<=1048576) (hp:∀e∈l,Den prog T f (.agg e.cs::cap) (vb (p e))):
   Den prog T 163 [fils l,.func f cap] (vi (ix p l)):=by
  refine ja0 call163 func163 19 ?_;exact ixPf
theorem den_FindF1 (f:Fil) (n:Int):Den prog T 164 [.agg f.cs,.row [vi n]] (vb (jdl n f)):=by
 refine ja0 call164 func164 8 ?_;exact za
theorem jq0 (l:List Fil) (n:Int) (hl:l.length<=1048576):Den prog T 100 [fils l,vi n] (vi (jbp l n)):=by
 refine ja0 call100 func100 8 ?_;refine rc (den_ixFil l _ _ (jdl n) hl fun o _=>den_FindF1 o n) ?_;exact za
theorem jnr (l:List Fil) (n:Int) (hl:l.length<=1048576):Den prog T 115 [fils l,vi n] (vi (jbp l n)):=by
 refine ja0 call115 func115 20 ?_;refine run ?_;refine ja7 ⟨[5,0,1],[],[],[]⟩ l.length (fun k=>∀o∈l.take k,jdl n o=false) sm ?_;rintro k ⟨hk,hall⟩;by_cases hlt:k<l.length
 ·obtain ⟨x,hx,-,-⟩:=ja1 hlt;by_cases hxn:x.id=n
  ·refine runW hx ?_;exact fin (ja5 (jge (p:=jdl n) hall hx (by simp[jdl,hxn])))
  ·refine runW hx ?_;exact round (k+1) ⟨om,jae (q:=fun o:Fil=>jdl n o=false) hall hx (by simp[jdl,hxn])⟩ om
 ·refine run ?_;exact fin (ja5 (jgv (p:=jdl n) hall hlt))
theorem inS_and (f u d:Int):inS f u d=(decide (f<=d) && decide (d<u)):=by simp[inS]
theorem den_there (os:List Ofc) (id d:Int) (hl:os.length<=1048576):Den prog T 273 [ofcs os,vi id,vi d] (vb (jfl os id d)):=by
 refine ja0 call273 func273 33 ?_;refine rc (den_FindO os id hl) ?_;rcases jkj os id with ⟨h1,h2⟩ | ⟨i,o,h1,h2,h3⟩
 ·rw[thereO_n h2];exact za
 ·rw[h1,thereO_s h3,inS_and];by_cases g1:o.frm<=d
  ·by_cases g2:d<o.til
   ·refine runW h2 ?_;exact fin rfl
   ·refine runW h2 ?_;exact fin rfl
  ·refine runW h2 ?_;exact zr
theorem jff (f:Fil):badF f↔(f.id<1\/1073741824<f.id\/dayB f.opn 0=false\/(dayB f.cld f.opn=false/\f.cld≠1048576)\/f.pts<0\/100<f.pts):=Iff.rfl
theorem noClass_n {ps:List Plan} {f:Fil} (h:idx ps f.opn<0):jgu ps f=true:=by simp[jgu,h]
theorem noClass_s {ps:List Plan} {f:Fil} {v:Nat} {p:Plan} (h:idx ps f.opn=v) (hp:ps[v]? = some p):jgu ps f= !has p f.cls:=by
 unfold jgu;have:decide ((v:Int)<0)=false:=decide_eq_false om;rw[h,Int.toNat_natCast,pl_at hp,this]; rfl
set_option maxHeartbeats 2000000 in
theorem den_checkF (L:LibC T) (os:List Ofc) (ps:List Plan) (l:List Fil) (i:Nat) (ho:jdw os) (hp:Fits ps) (hg:jbe ps=true) (hl:FitsF l) (hi:i<l.length):
  Den prog T 212 [ofcs os,jad ps,fils l,vi i] (vi (jdh os ps l i)):=by
 obtain ⟨hl0,hf⟩:=hl;obtain ⟨f,hfi,-,hm⟩:=ja1 hi;have hff:=hf f hm;have hp0:=hp.1;have ho0:=ho.1;refine ja0 call212 func212 99 ?_;refine rcW hfi (den_AtL L ps f.opn hp) ?_;rw[atL_good hg];by_cases b1:f.id<1
 ·rw[jg0 hfi ((jff f).2 (.inl b1))];exact za
 by_cases b2:1073741824<f.id
 ·rw[jg0 hfi ((jff f).2 (.inr (.inl b2)))];exact za
 refine rc (jox f.opn 0) ?_;cases b3:dayB f.opn 0
 ·rw[jg0 hfi ((jff f).2 (.inr (.inr (.inl b3))))];exact za
 refine rc (jox f.cld f.opn) ?_
 have next:∀ {Q:Prop},((dayB f.cld f.opn=false/\f.cld≠1048576)->Q)->((dayB f.cld f.opn=true)->Q)->(dayB f.cld f.opn=false->f.cld=1048576->Q)->Q:=fun {Q} a b c=>by
  cases e:dayB f.cld f.opn
  ·by_cases h:f.cld=1048576
   ·exact c e h
   ·exact a ⟨e,h⟩
  ·exact b e
 have tail:∀(h4:¬(dayB f.cld f.opn=false/\f.cld≠1048576)) (h5:¬f.pts<0) (h6:¬ 100<f.pts),
   jdh os ps l i=if jek l i f=true then 5 else if name f.title=false then 4 else if jfl os f.ofc f.opn=false then 7 else if jgu ps f=true then 24 else jdy f:=fun h4 h5 h6=>
  faultF_r hfi fun h=>by
   rcases (jff f).1 h with h | h | h | h | h | h
   ·exact b1 h
   ·exact b2 h
   ·rw[b3] at h; cases h
   ·exact h4 h
   ·exact h5 h
   ·exact h6 h
 have two:f.pts<0\/100<f.pts->jdh os ps l i=2:=fun h=>jg0 hfi ((jff f).2 (by rcases h with h | h <;> simp[h]));refine next (fun h4=> ?_) (fun h4=> ?_) (fun h4 h4'=> ?_)
 ·exact zdz
 all_goals rw[h4]
 all_goals by_cases b5:f.pts<0
 ·rw[two (.inl b5)];exact za
 rotate_left
 ·rw[two (.inl b5)];exact za
 rotate_left
 all_goals by_cases b6:100<f.pts
 ·rw[two (.inr b6)];exact za
 rotate_left
 ·rw[two (.inr b6)];exact za
 rotate_left
 all_goals
  rw[tail (by simp[*]) b5 b6]
  have hprev:(jek l i f=true/\∃q,i≠0/\l[i-1]? = some q/\f.id<=q.id)\/(jek l i f=false/\(i=0\/∃q,i≠0/\l[i-1]? = some q/\¬f.id<=q.id)):=by
   by_cases h0:i=0
   ·right; rw[h0]; exact ⟨prevF_0 l f,.inl rfl⟩
   ·obtain ⟨q,hq,-,-⟩:=ja1 (l:=l) (k:=i-1) om;by_cases hle:f.id<=q.id
    ·left; exact ⟨by rw[prevF_s h0 hq]; simp[hle],q,h0,hq,hle⟩
    ·right; exact ⟨by rw[prevF_s h0 hq]; simp[hle],.inr ⟨q,h0,hq,hle⟩⟩
  have rest:∀ {st:St} {Q:AX->St->Prop},True:=fun {_ _} => trivial;rcases hprev with ⟨hpv,q,h0,hq,hle⟩ | ⟨hpv,h0 | ⟨q,h0,hq,hle⟩⟩
  ·exact zbo
  all_goals
   rw[if_neg zej]
   first
    | (subst h0; refine run ?_)
    | refine runW hq ?_
   refine call (jiq L f.title hff.2.1) ?_;cases hn:name f.title
   ·rw[if_pos rfl];exact za
   ·rw[if_neg ze2];refine rc (den_there os f.ofc f.opn ho0) ?_;cases ht:jfl os f.ofc f.opn
    ·rw[if_pos rfl];exact za
    ·rw[if_neg ze2];by_cases hv:idx ps f.opn<0
     ·rw[noClass_n hv,if_pos rfl];exact za
     ·obtain ⟨v,hv',hvl⟩:=jna hv;obtain ⟨p,hpv',-,hpm⟩:=ja1 hvl;rw[noClass_s hv' hpv'];rw[hv'] at hv ⊢;refine rcW hpv' (jj0 p f.cls (hp.2 p hpm).1) ?_;cases has p f.cls
      ·exact za
      ·refine rc (den_notes L f hff) ?_;exact za
theorem dayB_eq (d f:Int):decide (f<=d/\d<=1048575)=dayB d f:=rfl
set_option maxHeartbeats 2000000 in
theorem den_faultFRef (os:List Ofc) (ps:List Plan) (l:List Fil) (i:Nat) (ho:jdw os) (hp:Fits ps) (hl:FitsF l) (hi:i<l.length):
  Den prog T 169 [ofcs os,jad ps,fils l,vi i] (vi (jdh os ps l i)):=by
 obtain ⟨hl0,hf⟩:=hl;obtain ⟨f,hfi,-,hm⟩:=ja1 hi;have hff:=hf f hm;have hp0:=hp.1;have ho0:=ho.1;refine ja0 call169 func169 97 ?_;refine rcW hfi (jke f.id 1 1073741824) ?_;by_cases b1:f.id<1
 ·rw[jg0 hfi ((jff f).2 (.inl b1)),show decide ((1:Int)<=f.id/\f.id<=1073741824)=false by simp; omega];exact za
 by_cases b2:1073741824<f.id
 ·rw[jg0 hfi ((jff f).2 (.inr (.inl b2))),show decide ((1:Int)<=f.id/\f.id<=1073741824)=false by simp; omega];exact za
 rw[show decide ((1:Int)<=f.id/\f.id<=1073741824)=true by simp; omega];refine rc (jke f.opn 0 1048575) ?_;rw[dayB_eq];cases b3:dayB f.opn 0
 ·rw[jg0 hfi ((jff f).2 (.inr (.inr (.inl b3))))];exact za
 refine rc (jke f.cld f.opn 1048575) ?_;rw[dayB_eq]
 have next:∀ {Q:Prop},((dayB f.cld f.opn=false/\f.cld≠1048576)->Q)->((dayB f.cld f.opn=true)->Q)->(dayB f.cld f.opn=false->f.cld=1048576->Q)->Q:=fun {Q} a b c=>by
  cases e:dayB f.cld f.opn
  ·by_cases h:f.cld=1048576
   ·exact c e h
   ·exact a ⟨e,h⟩
  ·exact b e
 have tail:∀(h4:¬(dayB f.cld f.opn=false/\f.cld≠1048576)) (h5:¬(f.pts<0\/100<f.pts)),
   jdh os ps l i=if jek l i f=true then 5 else if name f.title=false then 4 else if jfl os f.ofc f.opn=false then 7 else if jgu ps f=true then 24 else jdy f:=fun h4 h5=>
  faultF_r hfi fun h=>by
   rcases (jff f).1 h with h | h | h | h | h | h
   ·exact b1 h
   ·exact b2 h
   ·rw[b3] at h; cases h
   ·exact h4 h
   ·exact h5 (.inl h)
   ·exact h5 (.inr h)
 have two:f.pts<0\/100<f.pts->jdh os ps l i=2:=fun h=>jg0 hfi ((jff f).2 (by rcases h with h | h <;> simp[h]));refine next (fun h4=> ?_) (fun h4=> ?_) (fun h4 h4'=> ?_)
 ·exact zdz
 all_goals
  rw[h4];refine rc (jke f.pts 0 100) ?_;by_cases b5:f.pts<0\/100<f.pts
  ·rw[two b5,show decide ((0:Int)<=f.pts/\f.pts<=100)=false by simp; omega];exact za
  rw[tail (by simp[*]) b5,show decide ((0:Int)<=f.pts/\f.pts<=100)=true by simp; omega]
  have hprev:(jek l i f=true/\∃q,i≠0/\l[i-1]? = some q/\f.id<=q.id)\/(jek l i f=false/\(i=0\/∃q,i≠0/\l[i-1]? = some q/\¬f.id<=q.id)):=by
   by_cases h0:i=0
   ·right; rw[h0]; exact ⟨prevF_0 l f,.inl rfl⟩
   ·obtain ⟨q,hq,-,-⟩:=ja1 (l:=l) (k:=i-1) om;by_cases hle:f.id<=q.id
    ·left; exact ⟨by rw[prevF_s h0 hq]; simp[hle],q,h0,hq,hle⟩
    ·right; exact ⟨by rw[prevF_s h0 hq]; simp[hle],.inr ⟨q,h0,hq,hle⟩⟩
  rcases hprev with ⟨hpv,q,h0,hq,hle⟩ | ⟨hpv,h0 | ⟨q,h0,hq,hle⟩⟩
  ·exact zbo
  all_goals
   rw[if_neg zej]
   first
    | (subst h0; refine run ?_)
    | refine runW hq ?_
   refine call (jhm f.title hff.2.1) ?_;cases hn:name f.title
   ·rw[if_pos rfl];exact za
   ·rw[if_neg ze2];refine rc (jnq os f.ofc ho0) ?_;rcases jkj os f.ofc with ⟨h1,h2⟩ | ⟨k,o,h1,h2,h3⟩
    ·rw[thereO_n h2,if_pos rfl];exact za
    ·rw[h1,thereO_s h3];refine rcW h2 (den_In04 o.frm o.til f.opn) ?_;cases hin:inS o.frm o.til f.opn
     ·rw[if_pos rfl];exact za
     ·rw[if_neg ze2];refine rc (den_IndexRef ps f.opn hp0) ?_;by_cases hv:idx ps f.opn<0
      ·rw[noClass_n hv,if_pos rfl];exact za
      ·obtain ⟨v,hv',hvl⟩:=jna hv;obtain ⟨p,hpv',-,hpm⟩:=ja1 hvl;rw[noClass_s hv' hpv'];rw[hv'] at hv ⊢;refine rcW hpv' (jjg p f.cls (hp.2 p hpm).1) ?_;cases has p f.cls
       ·exact za
       ·refine rc (den_notesRef f hff) ?_;exact za
theorem jnh {os:List Ofc} {ps:List Plan} {l:List Fil} (h:jca os=false\/jbe ps=false):jei os ps l=(-1,1):=by unfold jei; rw[if_pos h]
theorem checkF_c {os:List Ofc} {ps:List Plan} {l:List Fil} (h:jca os=true) (h':jbe ps=true):jei os ps l=chk 256 l.length (jdh os ps l):=by unfold jei; rw[if_neg (by simp[h,h'])]
theorem den_CheckF (L:LibC T) (os:List Ofc) (ps:List Plan) (l:List Fil) (ho:jdw os) (hp:Fits ps) (hl:FitsF l):
  Den prog T 147 [ofcs os,jad ps,fils l] (chkV (jei os ps l)):=by
 have hl0:=hl.1;refine ja0 call147 func147 48 ?_;refine rc (jp2 L os ho) ?_;refine rc (jko L ps hp) ?_;by_cases g1:(jcv os).2=0
 ·have go:jca os=true:=by simp[jca,g1]
  by_cases g2:(check ps).2=0
  ·have gp:jbe ps=true:=(jpn ps).2 g2;rw[checkF_c go gp];by_cases h16:256<l.length
   ·refine run ?_;refine fin ?_;simp only[chkV,jdz h16]
   refine run ?_;refine ja7 ⟨[35,0,1,2,34],[],[],[]⟩ l.length (fun k=>∀i,i<k->jdh os ps l i=0) om ?_;rintro k ⟨hk,hall⟩;by_cases hlt:k<l.length
   ·refine rc (den_checkF L os ps l k ho hp gp hl hlt) ?_;by_cases hz:jdh os ps l k=0
    ·refine run ?_;refine round (k+1) ⟨om,fun i hi=> ?_⟩ om;by_cases e:i=k
     ·exact zcr
     ·exact zb2
    ·refine run ?_;refine fin ?_;simp only[chkV,jeb h16 hlt hall hz]
   ·refine run ?_;refine fin ?_;simp only[chkV,jds h16 fun i hi=>hall i om]
  ·have gp:jbe ps=false:=by simp[jbe,g2]
   rw[jnh (.inr gp)];exact za
 ·have go:jca os=false:=by simp[jca,g1]
  rw[jnh (.inl go)];exact za
theorem den_CheckFRef (os:List Ofc) (ps:List Plan) (l:List Fil) (ho:jdw os) (hp:Fits ps) (hl:FitsF l):
  Den prog T 106 [ofcs os,jad ps,fils l] (chkV (jei os ps l)):=by
 have hl0:=hl.1;refine ja0 call106 func106 36 ?_;refine rc (den_GoodORef os ho) ?_;cases go:jca os
 ·rw[jnh (.inl go)];exact za
 refine rc (den_GoodL ps hp) ?_;cases gp:jbe ps
 ·rw[jnh (.inr gp)];exact za
 rw[checkF_c go gp];by_cases h16:256<l.length
 ·refine run ?_;refine fin ?_;simp only[chkV,jdz h16]
 refine run ?_;refine ja7 ⟨[8,0,1,2],[],[],[]⟩ l.length (fun k=>∀i,i<k->jdh os ps l i=0) om ?_;rintro k ⟨hk,hall⟩;by_cases hlt:k<l.length
 ·refine rc (den_faultFRef os ps l k ho hp hl hlt) ?_;by_cases hz:jdh os ps l k=0
  ·refine run ?_;refine round (k+1) ⟨om,fun i hi=> ?_⟩ om;by_cases e:i=k
   ·exact zcr
   ·exact zb2
  ·refine run ?_;refine fin ?_;simp only[chkV,jeb h16 hlt hall hz]
 ·refine run ?_;refine fin ?_;simp only[chkV,jds h16 fun i hi=>hall i om]
end Go.Arc
