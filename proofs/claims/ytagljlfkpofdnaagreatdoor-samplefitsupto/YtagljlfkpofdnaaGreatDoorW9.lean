/- A part of this claim. -/
import Derived.Test.YtagljlfkpofdnaaGreatDoorSp2
set_option maxRecDepth 100000
namespace Go.Arc
open Go.Ab Go.RowKit Go.Proofs
variable {T : Lay}
theorem den_ixMov (l:List Mov) (f:FuncId) (cap:List V) (p:Mov->Bool) (hl:l.length<=1048576) (hp:∀e∈l,Den Tryz.prog T f (.agg e.cs::cap) (vb (p e))):
   Den Tryz.prog T 238 [movs l,.func f cap] (vi (ix p l)):=by
  refine den_of_body follows (fun args w=>Tryz.call238 args w) Tryz.func238 rfl 19 rfl ?_;refine run ?_
  refine loop ⟨[0,1,7,8],[],[],[]⟩ (fun k:Nat=>k<=l.length/\∀e∈l.take k,p e=false) (fun k=>l.length-k)
    (fun k=>⟨19,[(0,.v (movs l)),(1,.v (.func f cap)),(7,.v (vi l.length)),(8,.v (vi k))],[],[]⟩) 0 ⟨by omega,by simp⟩ ?_
  rintro k ⟨hk,hall⟩;by_cases hlt:k<l.length
  · obtain ⟨x,hx,-,hm⟩:=drop_at hlt;refine runW hx ?_;refine call (hp x hm) ?_;cases hpc:p x
    · refine run ?_;exact round (k+1) ⟨by omega,take_snoc hall hx hpc⟩ (by omega)
    · refine run ?_;exact fin (vi_eq (ix_at hall hx hpc))
  · refine run ?_;exact fin (vi_eq (ix_none hall hlt))
theorem den_ixPlan (l:List Plan) (f:FuncId) (cap:List V) (p:Plan->Bool) (hl:l.length<=1048576) (hp:∀e∈l,Den Tryz.prog T f (.agg e.cs::cap) (vb (p e))):
   Den Tryz.prog T 106 [plans l,.func f cap] (vi (ix p l)):=by
  refine den_of_body follows (fun args w=>Tryz.call106 args w) Tryz.func106 rfl 19 rfl ?_;refine run ?_
  refine loop ⟨[0,1,7,8],[],[],[]⟩ (fun k:Nat=>k<=l.length/\∀e∈l.take k,p e=false) (fun k=>l.length-k)
    (fun k=>⟨19,[(0,.v (plans l)),(1,.v (.func f cap)),(7,.v (vi l.length)),(8,.v (vi k))],[],[]⟩) 0 ⟨by omega,by simp⟩ ?_
  rintro k ⟨hk,hall⟩;by_cases hlt:k<l.length
  · obtain ⟨x,hx,-,hm⟩:=drop_at hlt;refine runW hx ?_;refine call (hp x hm) ?_;cases hpc:p x
    · refine run ?_;exact round (k+1) ⟨by omega,take_snoc hall hx hpc⟩ (by omega)
    · refine run ?_;exact fin (vi_eq (ix_at hall hx hpc))
  · refine run ?_;exact fin (vi_eq (ix_none hall hlt))
theorem den_Next1 (c:Mov) (s:Str):Den Tryz.prog T 239 [.agg c.cs,.row [.str s]] (vb (c.frm == s)):=by
 refine den_of_body follows (fun args w=>Tryz.call239 args w) Tryz.func239 rfl 8 rfl ?_;refine run ?_;exact fin rfl
abbrev nextV (old new:Plan) (s:Str):V:=match next old new s with
 | some x=> .tup [.str x,vb true]
 | none=> .tup [.str [],vb false]
theorem nextV_s {old new:Plan} {s x:Str} (h:next old new s=some x):nextV old new s= .tup [.str x,vb true]:=by simp[nextV,h]
theorem nextV_n {old new:Plan} {s:Str} (h:next old new s=none):nextV old new s= .tup [.str [],vb false]:=by simp[nextV,h]
theorem ix_find {α:Type} (p:α->Bool) (l:List α):(ix p l= -1/\l.find? p=none)\/∃k x,ix p l=(k:Nat)/\k<l.length/\l[k]? = some x/\l.find? p=some x/\p x=true:=by
 cases h:l.findIdx? p with
 | none=>
  refine .inl ⟨by simp[ix,h],?_⟩;rw[List.findIdx?_eq_none_iff] at h;rw[List.find?_eq_none];intro x hx; simp[h x hx]
 | some i=>
  obtain ⟨hlt,hpi,hbef⟩:=List.findIdx?_eq_some_iff_getElem.1 h;refine .inr ⟨i,l[i],by simp[ix,h],hlt,List.getElem?_eq_getElem hlt,?_,hpi⟩;rw[List.find?_eq_some_iff_getElem];exact ⟨hpi,i,hlt,rfl,fun j hj=>by simpa using hbef j hj⟩
theorem den_Next (L:LibC T) (old new:Plan) (s:Str) (ho:old.Fit) (hn:new.Fit) (hs:s.length<=1048576):Den Tryz.prog T 158 [.agg old.cs,.agg new.cs,.str s] (nextV old new s):=by
 obtain ⟨ho1,ho2,ho3,ho4⟩:=ho;obtain ⟨hn1,hn2,hn3,hn4⟩:=hn;refine den_of_body follows (fun args w=>Tryz.call158 args w) Tryz.func158 rfl 59 rfl ?_;refine run ?_;refine call (den_Has old s ho1) ?_;cases h1:has old s
 ·refine run ?_;exact fin (nextV_n (by simp[next,h1])).symm
 ·refine run ?_;refine call (den_ixMov new.mov _ _ (fun m=>m.frm == s) hn2 fun e _=>den_Next1 e s) ?_;rcases ix_find (fun m:Mov=>m.frm == s) new.mov with ⟨hi,hf⟩ | ⟨k,x,hi,hlt,hx,hf,-⟩
  ·rw[hi];refine run ?_;refine call (den_Has new s hn1) ?_;cases h2:has new s
   ·refine run ?_;have hnext:next old new s=up new s:=by simp[next,h1,hf]
    refine loop ⟨[5,9,33,34,35],[5],[],[]⟩ (fun y:Nat×Nat=>y.1<=new.cls.length/\y.2<=lens s/\(0<y.2->has new (pre s y.2)=true)/\∀c∈new.cls.take y.1,within s c.code=true->lens c.code<=y.2) (fun y=>new.cls.length-y.1)
     (fun y=>⟨59,[(5,.p 5 0),(9,.v (.str (pre s y.2))),(33,.v (clss new.cls)),(34,.v (vi new.cls.length)),(35,.v (vi y.1))],[(5,.con [.str s])],[]⟩) (0,0) ⟨by simp,by simp,by simp,by simp⟩ ?_ ?_
    ·rintro ⟨k,j⟩ ⟨hk,hj,hh,hall⟩;simp only at hk hj hh hall;by_cases hlt:k<new.cls.length
     ·obtain ⟨c,hc,hd,hm⟩:=drop_at hlt;have hcl:=(hn3 c hm).1;refine runW hc ?_;refine call (den_Within L s c.code hs hcl) ?_;cases hw:within s c.code
      ·refine run ?_;refine round (k+1,j) ⟨by simp only; omega,hj,hh,?_⟩ (by simp only; omega);refine take_snoc (q:=fun c:Cls=>within s c.code=true->lens c.code<=j) hall hc ?_;rw[hw]; intro h; cases h
      ·refine run ?_;refine call (den_numbers L c.code hcl) ?_;obtain ⟨l,m,hps,hpm,hm1,hm2,hm3⟩:=within_some hw;obtain ⟨w1,w2,w3⟩:=within_pre hw;have hlm:=lens_s hpm;rw[numsV_s hpm];refine run ?_
       have hpl:(pre s j).length<=1048576:=by
        by_cases hz:j=0
        ·subst hz; rw[pre_zero]; simp
        ·rw[pre_some hps hz];have:=fmt_len_le (l.take j);obtain ⟨-,h6,-⟩:=parse_some hps;simp at this; omega
       refine call (den_numbers L (pre s j) hpl) ?_
       have hnb:∃nb,numsV (pre s j)=nb/\((nb= .val (.slice none 0 0)/\j=0)\/∃q,nb=nats q/\q.length=j):=by
        by_cases hz:j=0
        ·subst hz;exact ⟨_,numsV_n (by rw[pre_zero]; exact parse_nil),.inl ⟨rfl,rfl⟩⟩
        ·rw[lens_s hps] at hj;have:=parse_take hps (j:=j) (by omega) hj;rw[pre_some hps hz];exact ⟨_,numsV_s this,.inr ⟨_,rfl,by simp; omega⟩⟩
       obtain ⟨nb,e,hnb⟩:=hnb;rw[e]
       have hgo:∀j',j<=j'->m.length<=j'->∀c∈new.cls.take (k+1),within s c.code=true->lens c.code<=j':=fun j' g1 g2=>
        take_snoc (q:=fun c:Cls=>within s c.code=true->lens c.code<=j') (fun e he hw=>Nat.le_trans (hall e he hw) g1) hc (fun _=>by rw[hlm]; exact g2)
       by_cases hgt:j<m.length
       ·have hgt':¬m.length<=j:=by omega
        have hne:0<m.length:=by omega
        have hnew:c.code=pre s m.length:=by rw[<- hlm]; exact w3
        have hhas:has new (pre s m.length)=true:=has_iff.2 ⟨c,hm,hnew⟩;rcases hnb with ⟨rfl,rfl⟩ | ⟨q,rfl,rfl⟩
        ·refine run ?_;refine round (k+1,m.length) ⟨by simp only; omega,by simp only; rw[lens_s hps]; omega,fun _=>hhas,hgo _ (by omega) (by omega)⟩ (by simp only; omega) ?_;simp only; rw[<- hnew]; rfl
        ·refine run ?_;refine round (k+1,m.length) ⟨by simp only; omega,by simp only; rw[lens_s hps]; omega,fun _=>hhas,hgo _ (by omega) (by omega)⟩ (by simp only; omega) ?_;simp only; rw[<- hnew]; rfl
       ·rcases hnb with ⟨rfl,rfl⟩ | ⟨q,rfl,rfl⟩
        ·omega
        ·refine run ?_;exact round (k+1,q.length) ⟨by simp only; omega,hj,hh,hgo _ (by omega) (by omega)⟩ (by simp only; omega)
     ·have hall':∀c∈new.cls,within s c.code=true->lens c.code<=j:=take_all (q:=fun c:Cls=>within s c.code=true->lens c.code<=j) hall hlt;have hu:=up_best h2 hj hh hall';by_cases hz:j=0
      ·subst hz;rw[pre_zero];refine run ?_;refine fin (Eq.symm (nextV_n ?_));rw[hnext,hu]; rfl
      ·have hb:pre s j≠[]:=fun e=>by
        cases hps:parse s with
        | none=>rw[lens_n hps] at hj; omega
        | some l=>
         obtain ⟨h0,-,-⟩:=parse_some hps;rw[pre_some hps hz] at e;refine fmt_ne (fun e'=> ?_) e;have:=congrArg List.length e';rw[List.length_take,List.length_nil] at this;have:=List.length_pos_iff.2 h0;omega
       have hb':=beq_f hb;refine runW hb' ?_;refine fin (Eq.symm (nextV_s ?_));rw[hnext,hu,if_neg hz]
    ·rw[pre_zero]; rfl
   ·refine run ?_;refine fin (Eq.symm (nextV_s ?_));simp[next,h1,hf,up,h2]
  ·rw[hi];refine runW hx ?_;refine fin (Eq.symm (nextV_s ?_));simp[next,h1,hf]
end Go.Arc
