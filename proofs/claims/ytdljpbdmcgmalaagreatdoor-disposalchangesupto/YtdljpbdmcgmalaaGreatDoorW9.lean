/- A part of this claim. -/
import Derived.Test.YtdljpbdmcgmalaaGreatDoorSp2
set_option maxRecDepth 100000
namespace Go.Arc
open Go.Ab Go.RowKit Go.Proofs Tryz
variable {T : Lay}
theorem den_ixMov (l:List Mov) (f:FuncId) (cap:List V) (p:Mov->Bool) (hl:l.length<=1048576) (hp:∀e∈l,Den prog T f (.agg e.cs::cap) (vb (p e))):
   Den prog T 369 [movs l,.func f cap] (vi (ix p l)):=by
  refine ja0 call369 func369 19 ?_;exact ixPf
theorem den_ixPlan (l:List Plan) (f:FuncId) (cap:List V) (p:Plan->Bool) (hl:l.length<=1048576) (hp:∀e∈l,Den prog T f (.agg e.cs::cap) (vb (p e))):
   Den prog T 327 [jad l,.func f cap] (vi (ix p l)):=by
  refine ja0 call327 func327 19 ?_;exact ixPf
theorem den_Next1 (c:Mov) (s:Str):Den prog T 370 [.agg c.cs,.row [.str s]] (vb (c.frm == s)):=by
 refine ja0 call370 func370 8 ?_;exact za
abbrev nextV (old new:Plan) (s:Str):V:=match next old new s with
 | some x=> .tup [.str x,vb true]
 | none=> .tup [.str [],vb false]
theorem jhw {old new:Plan} {s x:Str} (h:next old new s=some x):nextV old new s= .tup [.str x,vb true]:=by simp[nextV,h]
theorem jix {old new:Plan} {s:Str} (h:next old new s=none):nextV old new s= .tup [.str [],vb false]:=by simp[nextV,h]
theorem ix_find {α:Type} (p:α->Bool) (l:List α):(ix p l= -1/\l.find? p=none)\/∃k x,ix p l=(k:Nat)/\k<l.length/\l[k]? = some x/\l.find? p=some x/\p x=true:=by
 cases h:l.findIdx? p with
 | none=>
  exact zca
 | some i=>
  obtain ⟨hlt,hpi,hbef⟩:=List.findIdx?_eq_some_iff_getElem.1 h;refine .inr ⟨i,l[i],by simp[ix,h],hlt,gge hlt,?_,hpi⟩;exact zcz
theorem den_Next (L:LibC T) (old new:Plan) (s:Str) (ho:old.Fit) (hn:new.Fit) (hs:s.length<=1048576):Den prog T 326 [.agg old.cs,.agg new.cs,.str s] (nextV old new s):=by
 obtain ⟨ho1,ho2,ho3,ho4⟩:=ho;obtain ⟨hn1,hn2,hn3,hn4⟩:=hn;refine ja0 call326 func326 59 ?_;refine rc (jj0 old s ho1) ?_;cases h1:has old s
 ·refine run ?_;exact fin (jix (by simp[next,h1])).symm
 ·refine rc (den_ixMov new.mov _ _ (fun m=>m.frm == s) hn2 fun e _=>den_Next1 e s) ?_;rcases ix_find (fun m:Mov=>m.frm == s) new.mov with ⟨hi,hf⟩ | ⟨k,x,hi,hlt,hx,hf,-⟩
  ·rw[hi];refine rc (jj0 new s hn1) ?_;cases h2:has new s
   ·refine run ?_;have hnext:next old new s=up new s:=by simp[next,h1,hf]
    refine loop ⟨[5,9,33,34,35],[5],[],[]⟩ (fun y:Nat×Nat=>y.1<=new.cls.length/\y.2<=lens s/\(0<y.2->has new (pre s y.2)=true)/\∀c∈new.cls.take y.1,jc5 s c.code=true->lens c.code<=y.2) (fun y=>new.cls.length-y.1)
     (fun y=>⟨59,[(5,.p 5 0),(9,.v (.str (pre s y.2))),(33,.v (clss new.cls)),(34,.v (vi new.cls.length)),(35,.v (vi y.1))],[(5,.con [.str s])],[]⟩) (0,0) ⟨sm,sm,sm,sm⟩ ?_ ?_
    ·rintro ⟨k,j⟩ ⟨hk,hj,hh,hall⟩;simp only at hk hj hh hall;by_cases hlt:k<new.cls.length
     ·obtain ⟨c,hc,hd,hm⟩:=ja1 hlt;have hcl:=(hn3 c hm).1;refine rcW hc (jp1 L s c.code hs hcl) ?_;cases hw:jc5 s c.code
      ·refine run ?_;refine round (k+1,j) ⟨by simp only; omega,hj,hh,?_⟩ zeh;refine jae (q:=fun c:Cls=>jc5 s c.code=true->lens c.code<=j) hall hc ?_;rw[hw]; intro h; cases h
      ·refine rc (jo2 L c.code hcl) ?_;obtain ⟨l,m,hps,hpm,hm1,hm2,hm3⟩:=jr4 hw;obtain ⟨w1,w2,w3⟩:=within_pre hw;have hlm:=jgz hpm;rw[jg3 hpm];refine run ?_
       have hpl:(pre s j).length<=1048576:=by
        by_cases hz:j=0
        ·subst hz; rw[jn6]; simp
        ·rw[jl7 hps hz];have:=jki (l.take j);obtain ⟨-,h6,-⟩:=jde hps;simp at this; omega
       refine call (jo2 L (pre s j) hpl) ?_
       have hnb:∃nb,numsV (pre s j)=nb/\((nb= .val (.slice none 0 0)/\j=0)\/∃q,nb=nats q/\q.length=j):=by
        by_cases hz:j=0
        ·subst hz;exact ⟨_,jgs (by rw[jn6]; exact parse_nil),.inl ⟨rfl,rfl⟩⟩
        ·rw[jgz hps] at hj;have:=jma hps (j:=j) om hj;rw[jl7 hps hz];exact ⟨_,jg3 this,.inr ⟨_,rfl,by simp; omega⟩⟩
       obtain ⟨nb,e,hnb⟩:=hnb;rw[e]
       have hgo:∀j',j<=j'->m.length<=j'->∀c∈new.cls.take (k+1),jc5 s c.code=true->lens c.code<=j':=fun j' g1 g2=>
        jae (q:=fun c:Cls=>jc5 s c.code=true->lens c.code<=j') (fun e he hw=>Nat.le_trans (hall e he hw) g1) hc (fun _=>by rw[hlm]; exact g2)
       by_cases hgt:j<m.length
       ·have hgt':¬m.length<=j:=om
        have hne:0<m.length:=om
        have hnew:c.code=pre s m.length:=by rw[<- hlm]; exact w3
        have hhas:has new (pre s m.length)=true:=has_iff.2 ⟨c,hm,hnew⟩;rcases hnb with ⟨rfl,rfl⟩ | ⟨q,rfl,rfl⟩
        ·exact zbc
        ·exact zbc
       ·rcases hnb with ⟨rfl,rfl⟩ | ⟨q,rfl,rfl⟩
        ·omega
        ·refine run ?_;exact round (k+1,q.length) ⟨by simp only; omega,hj,hh,hgo _ om om⟩ zeh
     ·have hall':∀c∈new.cls,jc5 s c.code=true->lens c.code<=j:=jcq (q:=fun c:Cls=>jc5 s c.code=true->lens c.code<=j) hall hlt;have hu:=up_best h2 hj hh hall';by_cases hz:j=0
      ·subst hz;rw[jn6];refine run ?_;refine fin (Eq.symm (jix ?_));rw[hnext,hu]; rfl
      ·have hb:pre s j≠[]:=fun e=>by
        cases hps:ja6 s with
        | none=>rw[lens_n hps] at hj; omega
        | some l=>
         obtain ⟨h0,-,-⟩:=jde hps;rw[jl7 hps hz] at e;refine fmt_ne (fun e'=> ?_) e;have:=congrArg List.length e';rw[List.length_take,List.length_nil] at this;have:=List.length_pos_iff.2 h0;omega
       have hb':=beq_f hb;refine runW hb' ?_;refine fin (Eq.symm (jhw ?_));rw[hnext,hu,if_neg hz]
    ·rw[jn6]; rfl
   ·refine run ?_;refine fin (Eq.symm (jhw ?_));simp[next,h1,hf,up,h2]
  ·rw[hi];refine runW hx ?_;refine fin (Eq.symm (jhw ?_));simp[next,h1,hf]
theorem den_NextRef (old new:Plan) (s:Str) (ho:old.Fit) (hn:new.Fit) (hs:s.length<=1048576):Den prog T 289 [.agg old.cs,.agg new.cs,.str s] (nextV old new s):=by
 obtain ⟨ho1,ho2,ho3,ho4⟩:=ho;obtain ⟨hn1,hn2,hn3,hn4⟩:=hn;refine ja0 call289 func289 47 ?_;refine rc (jjg old s ho1) ?_;cases h1:has old s
 ·refine run ?_;exact fin (jix (by simp[next,h1])).symm
 ·refine run ?_;refine ja7 ⟨[8,2,4],[4],[],[]⟩ new.mov.length (fun k=>∀m∈new.mov.take k,(m.frm == s)=false) sm ?_;rintro k ⟨hk,hall⟩;by_cases hlt:k<new.mov.length
  ·obtain ⟨m,hm,hd,hmem⟩:=ja1 hlt;cases he:m.frm == s
   ·refine runW (ai hm he) ?_;exact round (k+1) ⟨om,jae hall hm he⟩ om
   ·refine runW (ai hm he) ?_;refine fin (Eq.symm (jhw ?_))
    have hf:new.mov.find? (fun m=>m.frm == s)=some m:=by
     rw[List.find?_eq_some_iff_getElem];obtain ⟨hlt',rfl⟩:=gsi.1 hm
     exact ⟨he,k,hlt',rfl,fun j hj=>by
      have:=hall new.mov[j] (List.mem_iff_getElem?.2 ⟨j,by rw[List.getElem?_take,if_pos hj]; exact gge _⟩)
      simp[this]⟩
    simp[next,h1,hf]
  ·have hf:new.mov.find? (fun m=>m.frm == s)=none:=by
    rw[List.find?_eq_none];intro m hm;simp[jcq hall hlt m hm]
   have hnext:next old new s=up new s:=by simp[next,h1,hf]
   refine run ?_;refine jb6 ⟨[9,10,4],[4],[],[]⟩ (fun y:Bool×Str=>y.2.length<=1048576/\up new s=if y.1=true then up new y.2 else none) (fun y=>if y.1=true then lens y.2+1 else 0) (fun y=>[(9,.v (.str y.2)),(10,.v (vb y.1))]) (true,s) ⟨hs,rfl⟩ ?_;rintro ⟨b,a⟩ ⟨ha,hu⟩;simp only at ha hu;cases b
   ·refine run ?_;refine fin (Eq.symm (jix ?_));rw[hnext,hu]; rfl
   ·simp only[if_true] at hu;refine rc (jjg new a hn1) ?_;cases h2:has new a
    ·refine rc (jqo a ha) ?_;cases hpa:jdb a with
     | none=>
      rw[jih hpa];refine run ?_;refine round (false,[]) ⟨sm,?_⟩ sm;rw[hu,up_top hpa h2]; rfl
     | some u=>
      obtain ⟨l,hl,hl2,hue,hpu⟩:=jra hpa;rw[jky hpa];refine run ?_;refine round (true,u) ⟨?_,?_⟩ ?_
      ·have:=jki (l.take (l.length-1));obtain ⟨-,h6,-⟩:=jde hl;rw[hue];simp at this; simp only; omega
      ·simp only[if_true];rw[hu,up_parent hpa h2]
      ·simp only[if_true];rw[jgz hl,jgz hpu]; simp; omega
    ·refine run ?_;refine fin (Eq.symm (jhw ?_));rw[hnext,hu]; simp[up,h2]
end Go.Arc
