/- A part of this claim. -/
import Derived.Test.YtagljlfkpofdnaaGreatDoorW36
import Derived.Shelf.Sort.Plain
import Derived.Test.YtagljlfkpofdnaaGreatDoorBaV
import Derived.Test.YtagljlfkpofdnaaGreatDoorBaR
set_option maxRecDepth 100000
namespace Go.Arc
open Go.Ab Go.RowKit Go.Proofs
variable {T : Lay}
theorem den_inside13 (n a b:Int):Den Tryz.prog T 41 [vi n,vi a,vi b] (vb (decide (a<=n/\n<=b))):=by
 refine den_of_body follows (fun args w=>Tryz.call41 args w) Tryz.func41 rfl 15 rfl ?_;by_cases h1:a<=n <;> by_cases h2:n<=b <;> (refine run ?_; refine fin (vb_eq ?_); simp; try omega)
theorem den_letters13 (s:Str) (hl:s.length<=1048576):Den Tryz.prog T 96 [.str s] (vb (letB s)):=by
 refine den_of_body follows (fun args w=>Tryz.call96 args w) Tryz.func96 rfl 36 rfl ?_;refine run ?_
 refine loop ⟨[0,5,6],[],[],[]⟩ (fun k:Nat=>k<=s.length/\(∀c∈s.take k,capB c=true)/\∀(j:Nat) x y,j+1<k->s[j]? = some x->s[j+1]? = some y->x.toNat<y.toNat) (fun k=>s.length-k)
  (fun k=>⟨36,[(0,.v (.str s)),(5,.v (vi s.length)),(6,.v (vi k))],[],[]⟩) 0 ⟨Nat.zero_le _,by simp,fun j _ _ hj=>by omega⟩ ?_
 rintro k ⟨hk,hall,hris⟩;by_cases hlt:k<s.length
 ·obtain ⟨c,hc,-,hm⟩:=drop_at hlt;by_cases c1:(c.toNat:Int)<65
  ·rw[letB_no fun h=>by have:=h.1 c hm; unfold capB at this; rw[Bool.and_eq_true,decide_eq_true_eq] at this; omega];refine runW (And.intro hc (eq_true c1)) ?_;exact fin rfl
  by_cases c2:90<(c.toNat:Int)
  ·rw[letB_no fun h=>by have:=h.1 c hm; unfold capB at this; rw[Bool.and_eq_true,decide_eq_true_eq,decide_eq_true_eq] at this; omega];refine runW (And.intro hc (And.intro (eq_false c1) (eq_true c2))) ?_;exact fin rfl
  have hcap:capB c=true:=by unfold capB; rw[decide_eq_true (by omega),decide_eq_true (by omega)]; rfl
  have hall2:=take_snoc (q:=fun c=>capB c=true) hall hc hcap;by_cases h0:k=0
  ·subst h0;refine runW (And.intro hc (And.intro (eq_false c1) (eq_false c2))) ?_;exact round (0+1) ⟨hlt,hall2,fun j _ _ hj=>by omega⟩ (by omega)
  ·obtain ⟨b,hb,-,-⟩:=drop_at (l:=s) (k:=k-1) (by omega);have hpos:((0:Int)<(k:Int))=True:=eq_true (by omega);by_cases c3:(c.toNat:Int)<=(b.toNat:Int)
   ·rw[letB_no fun h=>by
     have:=h.2.1 (k-1) b c hb (by rw[show k-1+1=k by omega]; exact hc)
     omega]
    refine runW (And.intro hpos (And.intro hc (And.intro hb (And.intro (eq_false c1) (And.intro (eq_false c2) (eq_true c3)))))) ?_;exact fin rfl
   ·refine runW (And.intro hpos (And.intro hc (And.intro hb (And.intro (eq_false c1) (And.intro (eq_false c2) (eq_false c3)))))) ?_;refine round (k+1) ⟨hlt,hall2,fun j x y hj h1 h2=> ?_⟩ (by omega);by_cases hjk:j+1=k
    ·subst hjk;rw[hc] at h2;cases h2;rw[show j+1-1=j by omega,h1] at hb;cases hb;omega
    ·exact hris j x y (by omega) h1 h2
 ·have hA:(∀c∈s,capB c=true)/\∀(i:Nat) x y,s[i]? = some x->s[i+1]? = some y->x.toNat<y.toNat:=⟨fun c hc=>take_all hall hlt c hc,fun i x y hx hy=>hris i x y (by have:=(List.getElem?_eq_some_iff.1 hy).1; omega) hx hy⟩;by_cases hn:s=[]
  ·rw[letB_no fun h=>h.2.2 hn];subst hn;refine run ?_;exact fin rfl
  ·rw[(letB_iff s).2 ⟨hA.1,hA.2,hn⟩];have hb:(s == [])=false:=by rw[beq_eq_false_iff_ne]; exact hn
   refine runW (And.intro hb hn) ?_;exact fin rfl
end Go.Arc
set_option maxRecDepth 100000
namespace Go.Arc
open Go.Ab Go.RowKit Go.Proofs
variable {T : Lay}
theorem cellsF_app (l m:List Fil):cellsF (l++m)=cellsF l++cellsF m:=by simp[cellsF]
theorem cellsF_drop:∀(l:List Fil) (k:Nat),(cellsF l).drop (k*8)=cellsF (l.drop k)
 | _,0=>rfl
 | [],k+1=>by simp[cellsF]
 | x::l,k+1=>by
  rw[cellsF_cons,show (k+1)*8=k*8+8 by omega];simp only[List.cons_append,List.nil_append,List.drop_succ_cons];exact cellsF_drop l k
theorem cellsF_take:∀(l:List Fil) (k:Nat),(cellsF l).take (k*8)=cellsF (l.take k)
 | _,0=>by simp[cellsF]
 | [],k+1=>by simp[cellsF]
 | x::l,k+1=>by
  rw[cellsF_cons,show (k+1)*8=k*8+8 by omega];simp only[List.cons_append,List.nil_append,List.take_succ_cons];rw[cellsF_take l k]; rfl
theorem denM_ixFil (l:List Fil) (f:FuncId) (cap:List V) (p:Fil->Bool) (hl:l.length<=1048576) (hp:∀e∈l,Den Tryz.prog T f (.agg e.cs::cap) (vb (p e))):
   DenM Tryz.prog T 52 (cellsF l) [.s 999999 0 l.length 8,.v (.func f cap)] (cellsF l) (.v (vi (ix p l))):=by
  refine denM_of_body follows (fun args w=>Tryz.call52 args w) Tryz.func52 rfl 19 rfl rfl ?_;refine run ?_
  refine loop ⟨[0,1,7,8],[999999],[],[]⟩ (fun k:Nat=>k<=l.length/\∀e∈l.take k,p e=false) (fun k=>l.length-k)
    (fun k=>⟨19,[(0,.s 999999 0 l.length 8),(1,.v (.func f cap)),(7,.v (vi l.length)),(8,.v (vi k))],[(999999,.var (cellsF l))],[]⟩) 0 ⟨by omega,by simp⟩ ?_
  rintro k ⟨hk,hall⟩;by_cases hlt:k<l.length
  · obtain ⟨x,hx,hd,hm⟩:=drop_at hlt;have hd':(cellsF l).drop (k*8)=vi x.id::vi x.ofc::vi x.opn::vi x.cld :: .str x.cls :: .str x.title::vi x.pts::ntss x.nts::cellsF (l.drop (k+1)):=by rw[cellsF_drop,hd]; rfl
    refine runW hd' ?_;refine call (hp x hm) ?_;cases hpc:p x
    · refine run ?_;exact round (k+1) ⟨by omega,take_snoc hall hx hpc⟩ (by omega)
    · refine run ?_;exact finM0 (.v (.of (vi_eq (ix_at hall hx hpc))))
  · refine run ?_;exact finM0 (.v (.of (vi_eq (ix_none hall hlt))))
theorem denM_delFil (l:List Fil) (f:FuncId) (cap:List V) (p:Fil->Bool) (hl:l.length<=1048576) (h0:l≠[]) (hp:∀e∈l,Den Tryz.prog T f (.agg e.cs::cap) (vb (p e))):
   DenM Tryz.prog T 62 (cellsF l) [.s 999999 0 l.length 8,.v (.func f cap)] (cellsF (l.filter fun e=> !p e))
     (if l.filter (fun e=> !p e)=[] then .v (.slice 8 []) else .s 999999 0 (l.filter fun e=> !p e).length 8):=by
  have hlen:0<l.length:=List.length_pos_iff.2 h0;refine denM_of_body follows (fun args w=>Tryz.call62 args w) Tryz.func62 rfl 42 rfl rfl ?_;refine run ?_;refine callM 999999 (denM_ixFil l f cap p hl hp) ?_;rcases hix:l.findIdx? p with _ | i
  · have hi:ix p l= -1:=by simp[ix,hix]
    have hf:l.filter (fun e=> !p e)=l:=by
      rw[List.filter_eq_self];intro e he;simp[List.findIdx?_eq_none_iff.1 hix e he]
    rw[hi,hf,if_neg h0];refine run ?_;exact finM0 (.refl _)
  · obtain ⟨hlt,hpi,hbef⟩:=List.findIdx?_eq_some_iff_getElem.1 hix;have hi:ix p l=i:=by simp[ix,hix]
    rw[hi];refine run ?_
    have hfi:((l.take (i+1)).filter fun e=> !p e)=l.take i:=by
      rw[filter_take (List.getElem?_eq_getElem hlt),if_neg (by simp[hpi]),List.filter_eq_self];intro e he;obtain ⟨j,hj,rfl⟩:=List.mem_iff_getElem.1 he;simp only[List.length_take] at hj;simp[hbef j (by omega)]
    have hkl:((l.take (i+1)).filter fun e=> !p e).length=i:=by rw[hfi]; simp; omega
    refine loop ⟨[0,1,5,6],[999999],[],[]⟩ (fun y:Nat×List V=>i+1<=y.1/\y.1<=l.length/\y.2.length=l.length*8/\((l.take y.1).filter fun e=> !p e).length<y.1/\
        y.2.take (((l.take y.1).filter fun e=> !p e).length*8)=cellsF ((l.take y.1).filter fun e=> !p e)/\y.2.drop (y.1*8)=cellsF (l.drop y.1)) (fun y=>l.length-y.1)
      (fun y=>⟨42,[(0,.s 999999 0 l.length 8),(1,.v (.func f cap)),(5,.v (vi ((l.take y.1).filter fun e=> !p e).length)),(6,.v (vi y.1))],[(999999,.var y.2)],[]⟩) (i+1,cellsF l) ?_ ?_ ?_
    · refine ⟨by simp,by simp; omega,cellsF_len l,?_,?_,cellsF_drop l _⟩
      · simp only; rw[hfi]; simp; omega
      · simp only; rw[hfi]; simp only[List.length_take,Nat.min_eq_left (Nat.le_of_lt hlt),cellsF_take]
    · rintro ⟨j,cs⟩ ⟨h1,h2,h3,h4,h5,h6⟩;simp only at h1 h2 h3 h4 h5 h6;by_cases hj:j<l.length
      · obtain ⟨x,hx,hd,hm⟩:=drop_at hj;have hd':cs.drop (j*8)=vi x.id::vi x.ofc::vi x.opn::vi x.cld :: .str x.cls :: .str x.title::vi x.pts::ntss x.nts::cellsF (l.drop (j+1)):=by rw[h6,hd]; rfl
        refine runW hd' ?_;refine call (hp x hm) ?_
        have hdn:cs.drop (j*8+8)=cellsF (l.drop (j+1)):=by
          rw[<- List.drop_drop,hd']; rfl
        cases hpc:p x
        · have hf:=filter_take (q:=fun e=> !p e) hx;simp only[hpc,Bool.not_false,if_true] at hf;refine run ?_;have hl1:(cs.take (((l.take j).filter fun e=> !p e).length*8)).length=((l.take j).filter fun e=> !p e).length*8:=by rw[List.length_take]; omega
          refine round (j+1,cs.take (((l.take j).filter fun e=> !p e).length*8)++x.cs++cs.drop (((l.take j).filter fun e=> !p e).length*8+8)) ⟨by simp only; omega,by simp only; omega,?_,?_,?_,?_⟩ (by simp only; omega) ?_
          · simp only[List.length_append,hl1,List.length_drop,List.length_cons,List.length_nil]; omega
          · simp only; rw[hf]; simp only[List.length_append,List.length_cons,List.length_nil]; omega
          · simp only; rw[hf];rw[List.take_append_of_le_length (by simp only[List.length_append,hl1,List.length_cons,List.length_nil]; omega),List.take_of_length_le (by simp only[List.length_append,hl1,List.length_cons,List.length_nil]; omega),h5,cellsF_app];rfl
          · simp only;rw[List.drop_append,List.drop_eq_nil_of_le (by simp only[List.length_append,hl1,List.length_cons,List.length_nil]; omega),List.nil_append,List.drop_drop,<- hdn];congr 1;simp only[List.length_append,hl1,List.length_cons,List.length_nil]; omega
          · simp only[hf,List.length_append,List.length_cons,List.length_nil]; rfl
        · have hf:=filter_take (q:=fun e=> !p e) hx;simp only[hpc,Bool.not_true,Bool.false_eq_true,if_false] at hf;refine run ?_;refine round (j+1,cs) ⟨by omega,by omega,h3,?_,?_,?_⟩ (by simp only; omega) ?_
          · simp only; rw[hf]; omega
          · simp only; rw[hf]; exact h5
          · simp only; rw[show (j+1)*8=j*8+8 by omega]; exact hdn
          · simp only[hf]; rfl
      · have hj':j=l.length:=by omega
        subst hj';simp only[List.take_length] at h4 h5;have htl:l.take l.length=l:=List.take_length;refine runW htl ?_;by_cases hz:l.filter (fun e=> !p e)=[]
        · rw[if_pos hz];have hz':(l.filter (fun e=> !p e)).length=0:=by rw[hz]; rfl
          refine runW hz' ?_;rw[hz];exact finM0 (.refl _)
        · rw[if_neg hz];have hz':0<(l.filter (fun e=> !p e)).length:=List.length_pos_iff.2 hz;refine runW h5 ?_;exact finM0 (.refl _)
    · simp only[hkl]; rfl
theorem den_delFil0 (f:FuncId) (cap:List V):Den Tryz.prog T 62 [fils [],.func f cap] (fils []):=by
 refine den_of_body follows (fun args w=>Tryz.call62 args w) Tryz.func62 rfl 42 rfl ?_;refine run ?_;refine call (den_ixFil [] f cap (fun _=>false) (by simp) (by simp)) ?_;have hi:ix (fun _:Fil=>false) []= -1:=rfl;rw[hi];refine run ?_;exact fin rfl
end Go.Arc
set_option maxRecDepth 100000
namespace Go.Arc
open Go.Ab Go.RowKit Go.Proofs
variable {T : Lay}
theorem denS_sortI13 (zs:List Int) (kk:Option (TypeId×Nat×Nat)) (hl:zs.length<=1048576):
  DenS Tryz.prog T 77 [(999000,.var (zs.map vint) none kk)] [] [.s 999000 0 zs.length 1] [(999000,.var ((sortI zs).map vint) none kk)] [] (.v (.tup [])):=
 denS_sort (fun args w=>Tryz.call77 args w) (fun blk cap zs w hH hb hz=>Any.slices_Sort_int Tryz.lays189 blk 0 cap zs w hH hb hz) zs kk hl
theorem ints_chunk13 (l:List Int):chunk 0 l.length 1 (l.map vint)=l.map Cint:=chunk_one vint l
theorem wk_t13 {a b c:V} (h:Wk a b):Wk (.tup [a,c]) (.tup [b,c]):= .t2 h (.refl _)
def gonC (n d:Int) (c:Crt):Bool:=decide (c.day<=d) && c.fls.any fun y=>decide (n=y)
def gonD (n d:Int) (c:Dep):Bool:=decide (c.day<=d) && decide (c.fil=n)
def gonB (r:Rgs) (n d:Int):Bool:=r.crs.any (gonC n d) || r.dps.any (gonD n d)
theorem gonB_eq (r:Rgs) (f:Fil) (d:Int):gonB r f.id d=(gone1 r f d || gone2 r f d):=by
 unfold gonB gone1 gone2;congr 1
 ·congr 1
  funext c
  unfold gonC namedB;congr 1;congr 1
  funext y
  exact decide_eq_decide.2 eq_comm
 ·congr 1
  funext c
  unfold gonD namedB;simp
theorem den_gon1 (n d:Int) (c:Crt) (hc:c.fls.length<=1048576):Den Tryz.prog T 121 [.agg c.cs,.row [vi d],.row [vi n]] (vb (gonC n d c)):=by
 refine den_of_body follows (fun args w=>Tryz.call121 args w) Tryz.func121 rfl 15 rfl ?_;unfold gonC;by_cases h:c.day<=d
 ·rw[decide_eq_true h];refine runW (eq_true h) ?_;refine call (den_hasInt c.fls n hc) ?_;refine run ?_;exact fin rfl
 ·rw[decide_eq_false h];refine runW (eq_false h) ?_;exact fin rfl
theorem den_gon2 (n d:Int) (c:Dep):Den Tryz.prog T 123 [.agg c.cs,.row [vi d],.row [vi n]] (vb (gonD n d c)):=by
 refine den_of_body follows (fun args w=>Tryz.call123 args w) Tryz.func123 rfl 15 rfl ?_;unfold gonD;by_cases h:c.day<=d
 ·rw[decide_eq_true h];refine runW (eq_true h) ?_;exact fin rfl
 ·rw[decide_eq_false h];refine runW (eq_false h) ?_;exact fin rfl
theorem den_gon (r:Rgs) (h:r.Fit) (n d:Int):Den Tryz.prog T 75 [.agg r.cs,vi n,vi d] (vb (gonB r n d)):=by
 have h1:=h.crs.1;have h2:=h.dps;unfold gonB;refine den_of_body follows (fun args w=>Tryz.call75 args w) Tryz.func75 rfl 17 rfl ?_;refine run ?_;refine call (den_anyCrt r.crs _ _ (gonC n d) h1 fun c hc=>den_gon1 n d c (h.crs.2 c hc).1) ?_;cases r.crs.any (gonC n d)
 ·refine run ?_;refine call (den_anyDep r.dps _ _ (gonD n d) h2 fun c _=>den_gon2 n d c) ?_;refine run ?_;exact fin rfl
 ·refine run ?_;exact fin rfl
theorem candB_eq (r:Rgs) (cls:Str) (d:Int) (f:Fil):candB r cls d f=(decide (state f d=2) && !(gonB r f.id d) && decide ((classR r.pls f d).2=0) && within (classR r.pls f d).1 cls):=by
 rw[gonB_eq]; rfl
theorem den_cand1 (L:LibC T) (r:Rgs) (h:r.Fit) (cls:Str) (hc:cls.length<=1048576) (d:Int) (f:Fil) (hf:f.Fit):
  Den Tryz.prog T 74 [.agg f.cs,.row r.cs,.row [vi d],.row [.str cls]] (vb (!candB r cls d f)):=by
 rw[candB_eq];have hcl:=classR_len h.pls hf d;refine den_of_body follows (fun args w=>Tryz.call74 args w) Tryz.func74 rfl 37 rfl ?_;refine run ?_;refine call (den_Class L r.pls f d h.pls hf) ?_;refine run ?_;refine call (den_State f d) ?_;by_cases h1:state f d=2
 case neg=>
  rw[decide_eq_false h1];refine runW (eq_false h1) ?_;exact fin rfl
 rw[decide_eq_true h1];refine runW (eq_true h1) ?_;refine call (den_gon r h f.id d) ?_;cases gonB r f.id d
 case true=>
  refine run ?_;exact fin rfl
 by_cases h2:(classR r.pls f d).2=0
 case neg=>
  rw[decide_eq_false h2];refine runW (eq_false h2) ?_;exact fin rfl
 rw[decide_eq_true h2];refine runW (eq_true h2) ?_;refine call (den_Within L (classR r.pls f d).1 cls hcl hc) ?_;cases within (classR r.pls f d).1 cls <;> (refine run ?_; exact fin rfl)
theorem candE_1 {r:Rgs} {cls:Str} {d:Int} (h:checkG r≠0):candE r cls d=1:=if_pos h
theorem candE_3 {r:Rgs} {cls:Str} {d:Int} (h:checkG r=0) (h2:(parse cls).isSome=false):candE r cls d=3:=by unfold candE; rw[if_neg (fun e=>e h),if_pos h2]
theorem candE_2 {r:Rgs} {cls:Str} {d:Int} (h:checkG r=0) (h2:(parse cls).isSome=true) (h3:dayG d=false):candE r cls d=2:=by
 unfold candE; rw[if_neg (fun e=>e h),if_neg (by rw[h2]; decide),if_pos h3]
theorem candE_0 {r:Rgs} {cls:Str} {d:Int} (h:checkG r=0) (h2:(parse cls).isSome=true) (h3:dayG d=true):candE r cls d=0:=by
 unfold candE; rw[if_neg (fun e=>e h),if_neg (by rw[h2]; decide),if_neg (by rw[h3]; decide)]
theorem candR_e {r:Rgs} {cls:Str} {d e:Int} (h:candE r cls d=e) (he:e≠0):candR r cls d=[]:=by unfold candR; rw[if_neg (by rw[h]; exact he)]
theorem candR_0 {r:Rgs} {cls:Str} {d:Int} (h:candE r cls d=0):candR r cls d=candL r cls d:=by unfold candR; rw[if_pos h]
theorem den_candidates (L:LibC T) (r:Rgs) (h:r.Fit) (cls:Str) (hc:cls.length<=1048576) (d:Int):Den Tryz.prog T 35 [.agg r.cs,.str cls,vi d] (.tup [fils (candR r cls d),vi (candE r cls d)]):=by
 have hl:=h.fls.1;refine den_of_body follows (fun args w=>Tryz.call35 args w) Tryz.func35 rfl 29 rfl ?_;refine run ?_;refine call (den_CheckG L r h) ?_;by_cases h1:checkG r=0
 case neg=>
  rw[candR_e (candE_1 h1) (by decide),candE_1 h1];refine runW h1 ?_;exact finW (wk_t13 (.nil 8))
 refine runW h1 ?_;refine call (den_Parse L cls hc) ?_;cases hp:parse cls with
 | none=>
  have h2:(parse cls).isSome=false:=by rw[hp]; rfl
  rw[candR_e (candE_3 h1 h2) (by decide),candE_3 h1 h2,parseV_n hp];refine run ?_;exact finW (wk_t13 (.nil 8))
 | some q=>
  have h2:(parse cls).isSome=true:=by rw[hp]; rfl
  rw[parseV_s hp];refine run ?_;refine call (den_inside13 d 0 1048575) ?_;cases h3:dayG d
  ·rw[candR_e (candE_2 h1 h2 h3) (by decide),candE_2 h1 h2 h3];have h4:decide (0<=d/\d<=1048575)=false:=by rw[Bool.decide_and]; exact h3
   rw[h4];refine run ?_;exact finW (wk_t13 (.nil 8))
  ·rw[candR_0 (candE_0 h1 h2 h3),candE_0 h1 h2 h3];have h4:decide (0<=d/\d<=1048575)=true:=by rw[Bool.decide_and]; exact h3
   rw[h4];refine run ?_
   have hfil:(r.fls.filter fun e=> !(!candB r cls d e))=candL r cls d:=by
    unfold candL;congr 1
    funext e
    rw[Bool.not_not]
   refine callN (denN_cloneFil r.fls hl) (fun hz=> ?_) (fun hz=> ?_)
   ·have hz':r.fls=[]:=by simpa using hz
    have hcz:candL r cls d=[]:=by unfold candL; rw[hz']; rfl
    rw[hcz];refine run ?_;refine call (den_delFil0 _ _) ?_;refine run ?_;exact finW (wk_t13 (.refl _))
   ·have hz':r.fls≠[]:=fun e=>hz (by rw[e]; rfl);have hlen:(r.fls.map Fil.cs).length=r.fls.length:=by simp
    rw[show (r.fls.map Fil.cs).flatten=cellsF r.fls from rfl];refine runW hlen ?_;have hD:=denM_delFil (T:=T) r.fls 74 [.row r.cs,.row [vi d],.row [.str cls]] (fun f=> !candB r cls d f) hl hz' fun f hf=>den_cand1 L r h cls hc d f (h.fls.2 f hf);rw[hfil] at hD;refine callM 26 hD ?_;by_cases hne:candL r cls d=[]
    ·rw[if_pos hne,hne];refine run ?_;exact finW (wk_t13 (.refl _))
    ·rw[if_neg hne];have hcl:=cellsF_len (candL r cls d);have hcc:=cellsF_chunk (candL r cls d);generalize cellsF (candL r cls d)=C at hcl hcc;refine run ?_;refine finF2 (Wk.of ?_) ?_
     ·rw[show fils (candL r cls d)= .slice 8 ((candL r cls d).map Fil.cs) from rfl,<- hcc]
     ·rw[hcl]; omega
theorem den_insNil:Den Tryz.prog T 183 [.val (.slice none 0 0),vi 0,vi 0] (.tup []):=by
 refine den_of_body follows (fun args w=>Tryz.call183 args w) Tryz.func183 rfl 49 rfl ?_;refine run ?_;refine loop ⟨[0,1,2,6],[],[],[]⟩ (fun _:Unit=>True) (fun _=>0) (fun _=>⟨49,[(0,.v (.val (.slice none 0 0))),(1,.v (vi 0)),(2,.v (vi 0)),(6,.v (vi 1))],[],[]⟩) () trivial ?_;rintro ⟨⟩ -;refine run ?_;exact fin rfl rfl
theorem den_pdqNil (x:Int):Den Tryz.prog T 125 [.val (.slice none 0 0),vi 0,vi 0,vi x] (.tup []):=by
 refine den_of_body follows (fun args w=>Tryz.call125 args w) Tryz.func125 rfl 134 rfl ?_;refine run ?_;refine loop ⟨[0,1,2,3],[],[],[]⟩ (fun _:Unit=>True) (fun _=>0) (fun _=>⟨134,[(0,.v (.val (.slice none 0 0))),(1,.v (vi 0)),(2,.v (vi 0)),(3,.v (vi x))],[],[]⟩) () trivial ?_;rintro ⟨⟩ -;refine run ?_;refine call den_insNil ?_;refine run ?_;exact fin rfl rfl
theorem den_len64Nil:Den Tryz.prog T 192 [.val (.int .u64 0)] (vi 0):=by
 refine den_of_body follows (fun args w=>Tryz.call192 args w) Tryz.func192 rfl 25 rfl ?_;refine run ?_;simp only[List.append_eq,List.cons_append,List.getElem?_cons_zero,Option.map_some];refine run ?_;exact fin rfl
theorem den_lenNil:Den Tryz.prog T 126 [.val (.int .u64 0)] (vi 0):=by
 refine den_of_body follows (fun args w=>Tryz.call126 args w) Tryz.func126 rfl 8 rfl ?_;refine run ?_;refine awL_cond (b:=false) rfl (fun h=>absurd h (by decide)) (fun _=> ?_);refine run ?_;refine call den_len64Nil ?_;refine run ?_;exact fin rfl
theorem den_sortNil:Den Tryz.prog T 77 [.val (.slice none 0 0)] (.tup []):=by
 refine den_of_body follows (fun args w=>Tryz.call77 args w) Tryz.func77 rfl 11 rfl ?_;refine run ?_;refine call den_lenNil ?_;refine run ?_;refine call (den_pdqNil 0) ?_;refine run ?_;exact fin rfl rfl
theorem idsF_take {l:List Fil} {k:Nat} {f:Fil} (h:l[k]? = some f):idsF (l.take (k+1))=idsF (l.take k)++[f.id]:=by
 obtain ⟨hlt,rfl⟩:=List.getElem?_eq_some_iff.1 h;unfold idsF;rw[List.take_succ_eq_append_getElem hlt,List.map_append]; rfl
set_option maxHeartbeats 1000000 in
theorem den_ids (l:List Fil) (hl:l.length<=1048576):Den Tryz.prog T 36 [fils l] (ints (sortI (idsF l))):=by
 refine den_of_body follows (fun args w=>Tryz.call36 args w) Tryz.func36 rfl 21 rfl ?_;refine run ?_
 refine loopV (fun y:Nat×List Int×Nat×Nat=>if y.2.1=[] then ⟨[3,6,7,8],[],[],[]⟩ else ⟨[3,6,7,8],[16],[],[]⟩)
  (fun y=>y.1<=l.length/\y.2.1=idsF (l.take y.1)/\y.2.1.length=y.1/\(y.2.1≠[]->y.2.1.length<=y.2.2.2/\y.2.2.2<=maxLen)) (fun y=>l.length-y.1)
  (fun y=>if y.2.1=[] then ⟨21,[(3,.v (.val (.slice none 0 0))),(6,.v (fils l)),(7,.v (vi l.length)),(8,.v (vi y.1))],[],[]⟩ else
   ⟨21,[(3,.v (.val (.slice (some ⟨y.2.2.1,0,none⟩) y.2.1.length y.2.2.2))),(6,.v (fils l)),(7,.v (vi l.length)),(8,.v (vi y.1))],[(16,.var (y.2.1.map vint) (some y.2.2.1) (some (3,1,y.2.2.2)))],[]⟩)
  (0,[],0,0) ⟨Nat.zero_le _,rfl,rfl,fun h=>absurd rfl h⟩ rfl ?_
 rintro ⟨k,out,r',cap⟩ ⟨hk,ho,hlen,hout⟩;simp only at hk ho hlen hout;have hnn:∀x:Int,[x]≠[]:=fun x=>List.cons_ne_nil _ _;by_cases hlt:k<l.length
 ·obtain ⟨f,hx,-,-⟩:=drop_at hlt;have hsn:=idsF_take hx;rw[<- ho] at hsn;by_cases hout0:out=[]
  ·subst hout0;simp only[if_true];refine runB hx ?_;refine appO_r ?_;unfold appR;refine run ?_;intro r2 cap2 hnm g1 g2;refine run ?_;refine roundV (k+1,[f.id],r2,cap2) ⟨by simp only; omega,by simp only; rw[hsn]; rfl,by simp at hlen; simp only[List.length_cons,List.length_nil]; omega,fun _=>⟨by simpa using g1,g2⟩⟩ (by simp only; omega) ?_
   show keepS (if [f.id]=[] then _ else _) _=some (if [f.id]=[] then _ else _)
   rw[if_neg (hnn _),if_neg (hnn _)];rfl
  ·simp only[hout0,if_false];obtain ⟨hc1,hc2⟩:=hout hout0;have hp:=List.length_pos_iff.2 hout0;refine runB hx ?_;refine appO_r ?_;unfold appR;refine run ?_;refine ⟨.inl trivial,?_⟩;intro r2 cap2 hnm g1 g2;have e1:out.map vint++[[vi f.id]].flatten=(out++[f.id]).map vint:=by simp[vint]
   have e2:out.length+[[vi f.id]].length=(out++[f.id]).length:=by simp
   rw[e1,e2];rw[e2] at g1;have hne:out++[f.id]≠[]:=by simp
   have hol:(out++[f.id]).length=k+1:=by simp only[List.length_append,List.length_cons,List.length_nil]; omega
   obtain ⟨out1,ho1⟩:∃o1,out++[f.id]=o1:=⟨_,rfl⟩;rw[ho1] at g1 hne hsn hol ⊢;refine run ?_;refine roundV (k+1,out1,r2,cap2) ⟨by simp only; omega,by simp only; rw[hsn],hol,fun _=>⟨g1,g2⟩⟩ (by simp only; omega) ?_
   show keepS (if out1=[] then _ else _) _=some (if out1=[] then _ else _)
   rw[if_neg hne,if_neg hne];rfl
 ·have hkl:k=l.length:=by omega
  have hall:out=idsF l:=by rw[ho,List.take_of_length_le (by omega)]
  by_cases hout0:out=[]
  ·rw[<- hall,hout0];simp only[if_true];refine run ?_;refine call den_sortNil ?_;refine run ?_;rw[show sortI []=[] from sortI_rise List.Pairwise.nil];exact finW (.nil 1)
  ·rw[<- hall];simp only[hout0,if_false];obtain ⟨hc1,hc2⟩:=hout hout0;have hp:=List.length_pos_iff.2 hout0;refine run ?_;refine callX (callS [(999000,16)] (denS_sortI13 out (some (3,1,cap)) (by omega)) (.cons (.sn rfl rfl hc1 hc2 hp) .nil) ?_ ?_)
   ·intro x hx;simp only[List.mem_singleton] at hx;subst hx;exact ⟨16,_,rfl,rfl,rfl,.inl rfl,rfl⟩
   refine run ?_;refine finFr (id:=16) (r:=r') (n:=out.length) (cap:=cap) (e:=3) (size:=1) (cs:=(sortI out).map vint) ?_ hc1 ?_ ?_
   ·rw[<- sortI_len out,ints_chunk13];exact .refl _
   ·rw[List.length_map,sortI_len]; omega
   ·simp[findN,findK,Blk.nm,nmOf,look_cons']
theorem candR_len (r:Rgs) (cls:Str) (d:Int):(candR r cls d).length<=r.fls.length:=by
 unfold candR;split
 ·exact List.length_filter_le _ _
 ·exact Nat.zero_le _
theorem den_Candidates (L:LibC T) (r:Rgs) (h:r.Fit) (cls:Str) (hc:cls.length<=1048576) (d:Int):Den Tryz.prog T 8 [.agg r.cs,.str cls,vi d] (.tup [ints (canR r cls d),vi (candE r cls d)]):=by
 have hl:=candR_len r cls d;have hl0:=h.fls.1;refine den_of_body follows (fun args w=>Tryz.call8 args w) Tryz.func8 rfl 20 rfl ?_;refine run ?_;refine call (den_candidates L r h cls hc d) ?_;refine run ?_;refine call (den_ids (candR r cls d) (by omega)) ?_;refine run ?_;exact fin rfl
end Go.Arc
set_option maxRecDepth 100000
namespace Go.Arc
open Go.Ab Go.RowKit Go.Proofs
variable {T : Lay}
theorem den_score13 (L:LibT T) (s:Str) (n:Int) (hs:s.length<=1000000) (hn:0<=n/\n<=1073741824):Den Tryz.prog T 42 [.str s,vi n] (.str (scrD s n)):=by
 have hd:=dec_small hn;have hi:=lib_itoa L n (by omega) (by omega);unfold scrD scrT;obtain ⟨z,hz⟩:∃z,decS n=z:=⟨_,rfl⟩;rw[show Lib.itoa n=z from hz] at hi;rw[hz] at hd ⊢;refine den_of_body follows (fun args w=>Tryz.call42 args w) Tryz.func42 rfl 11 rfl ?_;refine run ?_;refine call hi ?_;have h1:(s++[32]).length=s.length+1:=by simp
 refine runW h1 ?_;refine call (den_DigestSum L (s++[32]++z) (by simp only[List.length_append,List.length_cons,List.length_nil]; omega)) ?_;refine run ?_;exact fin rfl
theorem scrR_4 {s:Str} {n:Int} (h:name s=false):scrR s n=([],4):=if_pos h
theorem scrR_2 {s:Str} {n:Int} (h:name s=true) (h2:idB n=false):scrR s n=([],2):=by unfold scrR; rw[if_neg (by rw[h]; decide),if_pos h2]
theorem scrR_0 {s:Str} {n:Int} (h:name s=true) (h2:idB n=true):scrR s n=(scrD s n,0):=by unfold scrR; rw[if_neg (by rw[h]; decide),if_neg (by rw[h2]; decide)]
theorem idB_in {n:Int} (h:idB n=true):0<=n/\n<=1073741824:=by have:=of_decide_eq_true (show decide (1<=n/\n<=1073741824)=true from h); omega
theorem den_Score (L:LibT T) (s:Str) (n:Int) (hs:s.length<=1000000):Den Tryz.prog T 10 [.str s,vi n] (.tup [.str (scrR s n).1,vi (scrR s n).2]):=by
 refine den_of_body follows (fun args w=>Tryz.call10 args w) Tryz.func10 rfl 15 rfl ?_;refine run ?_;refine call (den_Name (libC L) s (by omega)) ?_;cases h1:name s
 ·rw[scrR_4 h1];refine run ?_;exact fin rfl
 refine run ?_;refine call (den_inside13 n 1 1073741824) ?_;cases h2:idB n
 ·rw[scrR_2 h1 h2,show decide (1<=n/\n<=1073741824)=false from h2];refine run ?_;exact fin rfl
 ·rw[scrR_0 h1 h2,show decide (1<=n/\n<=1073741824)=true from h2];refine run ?_;refine call (den_score13 L s n hs (idB_in h2)) ?_;refine run ?_;exact fin rfl
end Go.Arc
set_option maxRecDepth 100000
namespace Go.Arc
open Go.Ab Go.RowKit Go.Proofs
variable {T : Lay}
abbrev fnV (f:FuncId):V:= .func f []
abbrev onlyV (f:FuncId):V:= .func 89 [.row [.func f []]]
abbrev methsV:List V:=[.val .nilFunc,.val .nilFunc,.val .nilFunc,
 fnV 91,fnV 87,fnV 92,
 fnV 93,fnV 40,fnV 94,
 fnV 95,fnV 96,onlyV 97,
 fnV 99,fnV 87,onlyV 100]
theorem den_only (f:FuncId):Den Tryz.prog T 88 [.func f []] (onlyV f):=by
 refine den_of_body follows (fun args w=>Tryz.call88 args w) Tryz.func88 rfl 4 rfl ?_;refine run ?_;exact fin rfl
theorem den_methods:Den Tryz.prog T 46 [] (.agg methsV):=by
 refine den_of_body follows (fun args w=>Tryz.call46 args w) Tryz.func46 rfl 14 rfl ?_;refine run ?_;refine call (den_only 97) ?_;refine run ?_;refine call (den_only 100) ?_;refine run ?_;exact finC1 (.refl _)
theorem den_empty13 (s:Str):Den Tryz.prog T 87 [.str s] (vb (decide (s=[]))):=by
 refine den_of_body follows (fun args w=>Tryz.call87 args w) Tryz.func87 rfl 5 rfl ?_;refine run ?_;refine fin (vb_eq ?_);rw[Bool.eq_iff_iff,decide_eq_true_eq,beq_iff_eq]
theorem den_num1 (s:Smp):Den Tryz.prog T 91 [.agg s.cs] (vb (decide (1<=s.n/\s.n<=256) && decide (0<=s.sta/\s.sta<=s.n-1))):=by
 refine den_of_body follows (fun args w=>Tryz.call91 args w) Tryz.func91 rfl 14 rfl ?_;refine run ?_;refine call (den_inside13 s.n 1 256) ?_;cases h:decide (1<=s.n/\s.n<=256)
 ·refine run ?_;exact fin rfl
 ·have h:=of_decide_eq_true h;refine run ?_;refine call (den_inside13 s.sta 0 (s.n-1)) ?_;refine run ?_;exact fin rfl
theorem den_num2 (s:Smp):Den Tryz.prog T 93 [.agg s.cs] (vb (decide (0<=s.n/\s.n<=256) && decide (s.sta=0))):=by
 refine den_of_body follows (fun args w=>Tryz.call93 args w) Tryz.func93 rfl 11 rfl ?_;refine run ?_;refine call (den_inside13 s.n 0 256) ?_;cases decide (0<=s.n/\s.n<=256) <;> (refine run ?_; exact fin rfl)
theorem den_num3 (s:Smp):Den Tryz.prog T 95 [.agg s.cs] (vb (decide (s.n=0) && decide (s.sta=0))):=by
 refine den_of_body follows (fun args w=>Tryz.call95 args w) Tryz.func95 rfl 11 rfl ?_;by_cases h:s.n=0
 ·rw[decide_eq_true h];refine runW h ?_;exact fin rfl
 ·rw[decide_eq_false h];refine runW h ?_;exact fin rfl
theorem den_num4 (s:Smp):Den Tryz.prog T 99 [.agg s.cs] (vb (decide (0<=s.n/\s.n<=100) && decide (s.sta=0))):=by
 refine den_of_body follows (fun args w=>Tryz.call99 args w) Tryz.func99 rfl 11 rfl ?_;refine run ?_;refine call (den_inside13 s.n 0 100) ?_;cases decide (0<=s.n/\s.n<=100) <;> (refine run ?_; exact fin rfl)
theorem smpE_2 {s:Smp} (h:idB s.id=false\/¬(1<=s.mth/\s.mth<=4)\/numB s=false):smpE s=2:=if_pos h
theorem smpE_3 {s:Smp} (h:¬(idB s.id=false\/¬(1<=s.mth/\s.mth<=4)\/numB s=false)) (h2:(parse s.cls).isSome=false):smpE s=3:=by unfold smpE; rw[if_neg h,if_pos h2]
theorem smpE_1 {s:Smp} (h:¬(idB s.id=false\/¬(1<=s.mth/\s.mth<=4)\/numB s=false)) (h2:(parse s.cls).isSome=true) (h3:seedB s=false):smpE s=1:=by
 unfold smpE; rw[if_neg h,if_neg (by rw[h2]; decide),if_pos h3]
theorem smpE_0 {s:Smp} (h:¬(idB s.id=false\/¬(1<=s.mth/\s.mth<=4)\/numB s=false)) (h2:(parse s.cls).isSome=true) (h3:seedB s=true):smpE s=0:=by
 unfold smpE; rw[if_neg h,if_neg (by rw[h2]; decide),if_neg (by rw[h3]; decide)]
set_option maxHeartbeats 1000000 in
theorem den_CheckSmp (L:LibC T) (s:Smp) (hc:s.cls.length<=1048576) (hs:s.seed.length<=1048576):Den Tryz.prog T 12 [.agg s.cs] (vi (smpE s)):=by
 refine den_of_body follows (fun args w=>Tryz.call12 args w) Tryz.func12 rfl 40 rfl ?_;refine run ?_;refine call (den_inside13 s.id 1 1073741824) ?_;cases h1:idB s.id
 ·rw[smpE_2 (.inl h1),show decide (1<=s.id/\s.id<=1073741824)=false from h1];refine run ?_;exact fin rfl
 rw[show decide (1<=s.id/\s.id<=1073741824)=true from h1];refine run ?_;refine call (den_inside13 s.mth 1 4) ?_;by_cases h2:1<=s.mth/\s.mth<=4
 case neg=>
  rw[smpE_2 (.inr (.inl h2)),decide_eq_false h2];refine run ?_;exact fin rfl
 rw[decide_eq_true h2];have hb:numB s=false->smpE s=2:=fun h=>smpE_2 (.inr (.inr h))
 have hg:numB s=true->¬(idB s.id=false\/¬(1<=s.mth/\s.mth<=4)\/numB s=false):=by
  rintro hb (e | e | e)
  ·rw[h1] at e; cases e
  ·exact e h2
  ·rw[hb] at e; cases e
 have hm:s.mth=1\/s.mth=2\/s.mth=3\/s.mth=4:=by omega
 have hCP:=den_Parse (T:=T) L s.cls hc;have hNm:=den_Name (T:=T) L s.seed hs;have hLt:=den_letters13 (T:=T) s.seed hs;have hEm:=den_empty13 (T:=T) s.seed;have hN1:=den_num1 (T:=T) s;have hN2:=den_num2 (T:=T) s;have hN3:=den_num3 (T:=T) s;have hN4:=den_num4 (T:=T) s;obtain ⟨i,m,n,k,c,sd⟩:=s;simp only at h1 h2 hm hCP hNm hLt hEm;rcases hm with rfl | rfl | rfl | rfl
 ·obtain ⟨B,hB⟩:∃B,numB ⟨i,1,n,k,c,sd⟩=B:=⟨_,rfl⟩;obtain ⟨D,hD⟩:∃D,seedB ⟨i,1,n,k,c,sd⟩=D:=⟨_,rfl⟩;have hN:=hN1;have hS:=hEm;rw[show (decide (1<=n/\n<=256) && decide (0<=k/\k<=n-1))=B from hB] at hN;rw[show decide (sd=[])=D from hD] at hS;refine run ?_;refine call den_methods ?_;refine run ?_;refine call hN ?_;cases B
  ·rw[hb hB];refine run ?_;exact fin rfl
  refine run ?_;refine call hCP ?_;cases hp:parse c with
  | none=>
   rw[parseV_n hp,smpE_3 (hg hB) (by rw[hp]; rfl)];refine run ?_;exact fin rfl
  | some q=>
   have hi:(parse c).isSome=true:=by rw[hp]; rfl
   rw[parseV_s hp];refine run ?_;refine call hS ?_;cases D
   ·rw[smpE_1 (hg hB) hi hD];refine run ?_;exact fin rfl
   ·rw[smpE_0 (hg hB) hi hD];refine run ?_;exact fin rfl
 ·obtain ⟨B,hB⟩:∃B,numB ⟨i,2,n,k,c,sd⟩=B:=⟨_,rfl⟩;obtain ⟨D,hD⟩:∃D,seedB ⟨i,2,n,k,c,sd⟩=D:=⟨_,rfl⟩;have hN:=hN2;have hS:=hNm;rw[show (decide (0<=n/\n<=256) && decide (k=0))=B from (Bool.and_comm _ _).trans hB] at hN;rw[show name sd=D from hD] at hS;refine run ?_;refine call den_methods ?_;refine run ?_;refine call hN ?_;cases B
  ·rw[hb hB];refine run ?_;exact fin rfl
  refine run ?_;refine call hCP ?_;cases hp:parse c with
  | none=>
   rw[parseV_n hp,smpE_3 (hg hB) (by rw[hp]; rfl)];refine run ?_;exact fin rfl
  | some q=>
   have hi:(parse c).isSome=true:=by rw[hp]; rfl
   rw[parseV_s hp];refine run ?_;refine call hS ?_;cases D
   ·rw[smpE_1 (hg hB) hi hD];refine run ?_;exact fin rfl
   ·rw[smpE_0 (hg hB) hi hD];refine run ?_;exact fin rfl
 ·obtain ⟨B,hB⟩:∃B,numB ⟨i,3,n,k,c,sd⟩=B:=⟨_,rfl⟩;obtain ⟨D,hD⟩:∃D,seedB ⟨i,3,n,k,c,sd⟩=D:=⟨_,rfl⟩;have hN:=hN3;have hS:=hLt;rw[show (decide (n=0) && decide (k=0))=B from (Bool.and_comm _ _).trans hB] at hN;rw[show letB sd=D from hD] at hS;refine run ?_;refine call den_methods ?_;refine run ?_;refine call hN ?_;cases B
  ·rw[hb hB];refine run ?_;exact fin rfl
  refine run ?_;refine call hCP ?_;cases hp:parse c with
  | none=>
   rw[parseV_n hp,smpE_3 (hg hB) (by rw[hp]; rfl)];refine run ?_;exact fin rfl
  | some q=>
   have hi:(parse c).isSome=true:=by rw[hp]; rfl
   rw[parseV_s hp];refine run ?_;refine call hS ?_;cases D
   ·rw[smpE_1 (hg hB) hi hD];refine run ?_;exact fin rfl
   ·rw[smpE_0 (hg hB) hi hD];refine run ?_;exact fin rfl
 ·obtain ⟨B,hB⟩:∃B,numB ⟨i,4,n,k,c,sd⟩=B:=⟨_,rfl⟩;obtain ⟨D,hD⟩:∃D,seedB ⟨i,4,n,k,c,sd⟩=D:=⟨_,rfl⟩;have hN:=hN4;have hS:=hEm;rw[show (decide (0<=n/\n<=100) && decide (k=0))=B from (Bool.and_comm _ _).trans hB] at hN;rw[show decide (sd=[])=D from hD] at hS;refine run ?_;refine call den_methods ?_;refine run ?_;refine call hN ?_;cases B
  ·rw[hb hB];refine run ?_;exact fin rfl
  refine run ?_;refine call hCP ?_;cases hp:parse c with
  | none=>
   rw[parseV_n hp,smpE_3 (hg hB) (by rw[hp]; rfl)];refine run ?_;exact fin rfl
  | some q=>
   have hi:(parse c).isSome=true:=by rw[hp]; rfl
   rw[parseV_s hp];refine run ?_;refine call hS ?_;cases D
   ·rw[smpE_1 (hg hB) hi hD];refine run ?_;exact fin rfl
   ·rw[smpE_0 (hg hB) hi hD];refine run ?_;exact fin rfl
end Go.Arc
set_option maxRecDepth 100000
namespace Go.Arc
open Go.Ab Go.RowKit Go.Proofs
variable {T : Lay}
theorem ins_row {α:Type} {P R:List α} {x:α} {j:Nat} (hj:j<=P.length) (v:α->V):
  ((P.take j++x::P.drop j++R).map v).drop j=v x::(P.drop j++R).map v:=by
 have h:(P.take j).length=j:=by rw[List.length_take]; omega
 rw[List.append_assoc,List.map_append,List.drop_append_of_le_length (by rw[List.length_map,h]; omega),List.drop_eq_nil_of_le (by rw[List.length_map,h]; omega)];rfl
theorem ins_row1 {α:Type} {P R:List α} {x y:α} {j:Nat} (hj:j+1<=P.length) (hy:P[j]? = some y) (v:α->V):
  ((P.take (j+1)++x::P.drop (j+1)++R).map v).drop j=v y::v x::(P.drop (j+1)++R).map v:=by
 obtain ⟨hlt,rfl⟩:=List.getElem?_eq_some_iff.1 hy;have h:(P.take j).length=j:=by rw[List.length_take]; omega
 rw[List.take_succ_eq_append_getElem hlt,List.append_assoc,List.append_assoc,List.map_append,List.drop_append_of_le_length (by rw[List.length_map,h]; omega),List.drop_eq_nil_of_le (by rw[List.length_map,h]; omega)];rfl
theorem ins_step {α:Type} {P R:List α} {x y:α} {j:Nat} (hj:j+1<=P.length) (hy:P[j]? = some y) (v:α->V):
  (((P.take (j+1)++x::P.drop (j+1)++R).map v).take (j+1)++[v y]++((P.take (j+1)++x::P.drop (j+1)++R).map v).drop (j+1+1)).take j++[v x] ++
   (((P.take (j+1)++x::P.drop (j+1)++R).map v).take (j+1)++[v y]++((P.take (j+1)++x::P.drop (j+1)++R).map v).drop (j+1+1)).drop (j+1)=(P.take j++x::P.drop j++R).map v:=by
 obtain ⟨hlt,rfl⟩:=List.getElem?_eq_some_iff.1 hy;have h:(P.take j).length=j:=by rw[List.length_take]; omega
 obtain ⟨A,hA⟩:∃A,P.take j=A:=⟨_,rfl⟩;obtain ⟨B,hB⟩:∃B,P.drop (j+1)=B:=⟨_,rfl⟩;rw[List.drop_eq_getElem_cons hlt,List.take_succ_eq_append_getElem hlt,hA,hB];rw[hA] at h;subst h;have e1:A.length+1+1-A.length=2:=by omega
 have e2:List.take (A.length+1) (A.map v)=A.map v:=List.take_of_length_le (by rw[List.length_map]; omega);have e3:List.drop (A.length+1+1) (A.map v)=[]:=List.drop_eq_nil_of_le (by rw[List.length_map]; omega);simp[List.take_append,List.drop_append,e1,e2,e3]
abbrev gr175:List Gent:=⟨bz 18 0,18,.one 0 0⟩::⟨bz 18 1,17,.one 1 0⟩::⟨bz 18 3,16,.one 2 0⟩::⟨bz 18 7,15,.one 3 0⟩::⟨bz 18 15,14,.one 4 0⟩::⟨bz 18 31,13,.one 5 0⟩::⟨bz 18 63,12,.one 6 0⟩::⟨bz 18 127,11,.one 7 0⟩::⟨bz 18 255,10,.one 8 0⟩::⟨bz 18 511,9,.one 10 0⟩::⟨bz 18 1535,8,.one 11 0⟩::⟨bz 18 3583,7,.one 12 0⟩::⟨bz 18 7679,6,.alt [(9,1),(13,0)]⟩::⟨bz 18 15871,5,.alt [(9,1)]⟩::⟨bz 18 8191,5,.alt [(13,0)]⟩::⟨bz 18 16383,4,.one 14 0⟩::⟨bz 18 32767,3,.alt [(15,0)]⟩::⟨bz 18 65535,2,.one 16 0⟩::⟨bz 18 131071,1,.alt [(17,0)]⟩::⟨bz 18 262143,0,.fin⟩::[]
theorem srtS_one {α:Type} (lt:α->α->Bool) (l:List α):srtS lt (l.take 1)++l.drop 1=l:=by
 cases l with
 | nil=>rfl
 | cons x r=>rfl
abbrev CmpI (T:Lay) (f:FuncId) (cap:List V) (lt:Int->Int->Bool) (l:List Int):Prop:=
 ∀x∈l,∀y∈l,∃c:Int,Den Tryz.prog T f (vi x::vi y::cap) (vi c)/\decide (c<0)=lt x y
set_option maxHeartbeats 2000000 in
theorem denS_insI (kk:Option (TypeId×Nat×Nat)) (l:List Int) (f:FuncId) (cap:List V) (lt:Int->Int->Bool) (hl:l.length<=1000) (h0:l≠[]) (hc:CmpI T f cap lt l):
  DenS Tryz.prog T 161 [(999000,.var (l.map vint) none kk)] [] [.s 999000 0 l.length 1,.v (vi 0),.v (vi l.length),.v (.func f cap)] [(999000,.var ((srtS lt l).map vint) none kk)] [] (.v (.tup [])):=by
 have hlen:0<l.length:=List.length_pos_iff.2 h0;refine denS_of_body follows (fun args w=>Tryz.call161 args w) Tryz.func161 rfl 53 rfl rfl ?_;refine run ?_
 refine loop ⟨[0,1,2,3,8],[999000],[],[]⟩ (fun y:Nat×List V=>1<=y.1/\y.1<=l.length/\y.2=(srtS lt (l.take y.1)++l.drop y.1).map vint) (fun y=>l.length-y.1)
  (fun y=>⟨53,[(0,.s 999000 0 l.length 1),(1,.v (vi 0)),(2,.v (vi l.length)),(3,.v (.func f cap)),(8,.v (vi y.1))],[(999000,.var y.2 none kk)],[]⟩) (1,l.map vint) ⟨Nat.le_refl _,hlen,by rw[srtS_one]⟩ ?_
 rintro ⟨i,cs⟩ ⟨h1,h2,h3⟩;simp only at h1 h2 h3;by_cases hi:i<l.length
 ·obtain ⟨x,hx,hd,hm⟩:=drop_at hi;obtain ⟨P,hP⟩:∃P,srtS lt (l.take i)=P:=⟨_,rfl⟩;have hPl:P.length=i:=by rw[<- hP,srtS_len,List.length_take]; omega
  have hPm:∀y∈P,y∈l:=fun y hy=>by rw[<- hP] at hy; exact List.mem_of_mem_take ((srtS_perm _ _).mem_iff.1 hy)
  have hd0:P.drop i=[]:=List.drop_eq_nil_of_le (by omega);have ht0:P.take i=P:=List.take_of_length_le (by omega);rw[hP,hd] at h3;refine run ?_
  refine loop ⟨[0,1,2,3,8,9],[999000],[],[]⟩ (fun y:Nat×List V=>y.1<=i/\(∀z∈P.drop y.1,lt x z=true)/\y.2=(P.take y.1++x::P.drop y.1++l.drop (i+1)).map vint) (fun y=>y.1)
   (fun y=>⟨53,[(0,.s 999000 0 l.length 1),(1,.v (vi 0)),(2,.v (vi l.length)),(3,.v (.func f cap)),(8,.v (vi i)),(9,.v (vi y.1))],[(999000,.var y.2 none kk)],[]⟩) (i,cs)
   ⟨Nat.le_refl _,by simp only; rw[hd0]; simp,by simp only; rw[h3,ht0,hd0]; simp⟩ ?_
  rintro ⟨j,ds⟩ ⟨g1,g2,g3⟩;simp only at g1 g2 g3;have hdl:ds.length=l.length:=by rw[g3]; simp; omega
  have hend:(j=0\/∃y,P[j-1]? = some y/\lt x y=false)->ds=(srtS lt (l.take (i+1))++l.drop (i+1)).map vint:=fun hz=>by
   rw[g3,srtS_take hx,hP,insF_at (by omega) g2 hz]
  cases j with
  | zero=>
   refine run ?_;exact round (i+1,ds) ⟨by simp only; omega,by simp only; omega,hend (.inl rfl)⟩ (by simp only; omega)
  | succ j=>
   obtain ⟨y,hy⟩:∃y,P[j]? = some y:=⟨_,List.getElem?_eq_getElem (by omega)⟩;have hym:=hPm y (List.mem_of_getElem? hy);obtain ⟨c,hden,hlt⟩:=hc x hm y hym;have e1:ds.drop (j+1)=vi x::(P.drop (j+1)++l.drop (i+1)).map vint:=by rw[g3]; exact ins_row (by omega) vint
   have e2:ds.drop (j+1-1)=vi y::vi x::(P.drop (j+1)++l.drop (i+1)).map vint:=by rw[g3,Nat.add_sub_cancel]; exact ins_row1 (by omega) hy vint
   refine runW (And.intro e1 e2) ?_;refine call hden ?_;cases hb:lt x y
   ·have hc0:¬c<0:=by rw[hb] at hlt; exact of_decide_eq_false hlt
    refine runW (eq_false hc0) ?_;exact round (i+1,ds) ⟨by simp only; omega,by simp only; omega,hend (.inr ⟨y,by simpa using hy,hb⟩)⟩ (by simp only; omega)
   ·have hc0:c<0:=by rw[hb] at hlt; exact of_decide_eq_true hlt
    refine runD (And.intro (eq_true hc0) (And.intro e1 e2)) ?_;refine aw_graph gr175 ?_;refine runGraph (And.intro e1 e2) ?_
    try simp only[and_self,and_self_left,and_self_right,and_e1,and_e2]
    have ej:((j+1:Nat):Int)-1=(j:Int):=by omega
    have hrow:List.take (j+1-1) (List.take (j+1) ds++[vi y]++List.drop (j+1+1) ds)++[vi x]++List.drop (j+1-1+1) (List.take (j+1) ds++[vi y]++List.drop (j+1+1) ds)=
      (P.take j++x::P.drop j++l.drop (i+1)).map vint:=by
     have:=ins_step (R:=l.drop (i+1)) (x:=x) (by omega) hy vint;rw[<- g3] at this;exact this
    rw[hrow,ej];refine round (j,(P.take j++x::P.drop j++l.drop (i+1)).map vint) ⟨by simp only; omega,fun z hz=> ?_,rfl⟩ (by simp only; omega)
    ·simp only at hz;rw[List.drop_eq_getElem_cons (by omega)] at hz;rcases List.mem_cons.1 hz with rfl | hz
     ·obtain ⟨_,rfl⟩:=List.getElem?_eq_some_iff.1 hy; exact hb
     ·exact g2 z hz
 ·have hil:i=l.length:=by omega
  subst hil;have h4:cs=(srtS lt l).map vint:=by rw[h3,List.take_length,List.drop_length,List.append_nil]
  rw[h4];refine run ?_;exact finS1 (.v (.refl _))
end Go.Arc
