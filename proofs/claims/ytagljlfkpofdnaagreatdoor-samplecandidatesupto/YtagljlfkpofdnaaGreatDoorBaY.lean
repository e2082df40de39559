/- A part of this claim. -/
import Derived.Test.YtagljlfkpofdnaaGreatDoorBaX
set_option maxRecDepth 100000
namespace Go.Arc
open Go.Ab Go.RowKit Go.Proofs
variable {T : Lay}
abbrev vint (n:Int):V:=vi n
theorem den_lessI (a b:Int):Den Tryz.prog T 51 [vi a,vi b] (vb (decide (a<b))):=by
 refine den_of_body follows (fun args w=>Tryz.call51 args w) Tryz.func51 rfl 17 rfl ?_;refine run ?_;refine call (den_isNaN a) ?_;refine run ?_;exact fin rfl
theorem den_sortedI (l:List Int) (hl:l.length<=1048576):Den Tryz.prog T 16 [ints l] (vb (srtI l)):=by
 refine den_of_body follows (fun args w=>Tryz.call16 args w) Tryz.func16 rfl 21 rfl ?_;refine run ?_
 refine loop ⟨[0,3],[],[],[]⟩ (fun i:Int=> -1<=i/\i+1<=l.length/\∀j:Nat,i<j->j<l.length->backI l j=false) (fun i=>(i+1).toNat)
  (fun i=>⟨21,[(0,.v (ints l)),(3,.v (vi i))],[],[]⟩) ((l.length:Int)-1) ⟨by omega,by omega,fun j h1 h2=>by omega⟩ ?_
 rintro i ⟨h1,h2,hall⟩;by_cases hpos:0<i
 ·obtain ⟨k,rfl⟩:∃k:Nat,i=k:=⟨i.toNat,by omega⟩;obtain ⟨y,hy,-,-⟩:=drop_at (l:=l) (k:=k) (by omega);obtain ⟨x,hx,-,-⟩:=drop_at (l:=l) (k:=k-1) (by omega);have he:=backI_s (show k≠0 by omega) hx hy;refine runW (And.intro hx hy) ?_;refine call (den_lessI y x) ?_;by_cases hlt:y<x
  ·rw[srtI_at (show k<l.length by omega) (by rw[he]; simp[hlt])];refine run ?_;exact fin rfl
  ·refine run ?_;refine round ((k:Int)-1) ⟨by omega,by omega,fun j g1 g2=> ?_⟩ (by omega);by_cases e:j=k
   ·rw[e,he]; simp[hlt]
   ·exact hall j (by omega) g2
 ·rw[srtI_end fun j hj=>by
   by_cases h0:j=0
   ·rw[h0]; exact backI_0 l
   ·exact hall j (by omega) hj]
  refine run ?_;exact fin rfl
theorem denN_cloneInt (l:List Int) (hl:l.length<=1048576):DenN Tryz.prog T 177 [ints l] 1 (l.map Cint):=by
 refine denN_of_body follows (fun args w=>Tryz.call177 args w) Tryz.func177 rfl 8 rfl ?_;cases l with
 | nil=>
  refine run ?_;intro b;cases b
  ·refine run ?_;exact finN0 rfl (.refl _)
  ·refine run ?_;exact finN0 rfl (.nil 1)
 | cons x r=>
  have h:r.length+1<=1048576:=hl;have e:ints (x::r)= .slice 1 (Cint x::r.map Cint):=rfl;rw[e];refine runB trivial ?_;refine appO_l ?_;refine run ?_;refine finN (id:=7) [] ?_ ?_
  ·simp only[σ_mk,look_cons',↓reduceIte,List.length_map,List.length_cons,List.map_cons]
  ·rw[List.append_nil]; rfl
def cellC (l:List Int) (m:Nat):List V:=(compI (l.take m)++l.drop (compI (l.take m)).length).map vint
theorem cellC_len (l:List Int) (m:Nat) (h:m<=l.length):(cellC l m).length=l.length:=by
 have:=compI_len l m;unfold cellC;rw[List.length_map,List.length_append,List.length_drop];omega
theorem cellC_take (l:List Int) (m:Nat):(cellC l m).take (compI (l.take m)).length=(compI (l.take m)).map vint:=by
 unfold cellC;rw[<- List.map_take,List.take_left]
theorem cellC_drop (l:List Int) (m i:Nat) (h:(compI (l.take m)).length<=i):(cellC l m).drop i=(l.drop i).map vint:=by
 unfold cellC;rw[<- List.map_drop,List.drop_append];rw[List.drop_eq_nil_of_le h,List.nil_append,List.drop_drop];congr 2;omega
theorem cellC_put (l:List Int) (m:Nat) {x:Int} (_hx:l[m]? = some x) (_h:(compI (l.take m)).length+1<=m) (hd:compI (l.take (m+1))=compI (l.take m)++[x]):
  (cellC l m).take (compI (l.take m)).length++[vi x]++(cellC l m).drop ((compI (l.take m)).length+1)=cellC l (m+1):=by
 rw[cellC_take,cellC_drop l m _ (Nat.le_succ _)];unfold cellC;rw[hd,List.map_append,List.map_append,List.length_append];rfl
theorem denM_compact (l:List Int) (hl:l.length<=1048576) (h0:l≠[]):DenM Tryz.prog T 176 (l.map vint) [.s 999999 0 l.length 1] ((compI l).map vint) (.s 999999 0 (compI l).length 1):=by
 have hlen:0<l.length:=List.length_pos_iff.2 h0;have hml:(l.map vint).length=l.length:=List.length_map _;refine denM_of_body follows (fun args w=>Tryz.call176 args w) Tryz.func176 rfl 61 rfl rfl ?_;obtain ⟨x0,hx0,-,-⟩:=drop_at hlen;by_cases h2:l.length<2
 ·have e1:l.take 1=l:=List.take_of_length_le (by omega);have e2:=compI_one hx0;rw[e1] at e2
  have e3:compI l=l:=by
   rw[e2]
   match l,hx0,h2 with
   | [a],hx,_=>simp at hx; rw[hx]
  rw[e3];refine run ?_;exact finM0 (.refl _)
 ·refine run ?_
  refine loop ⟨[0,3],[999999],[],[]⟩ (fun k:Nat=>1<=k/\k<=l.length/\compI (l.take k)=l.take k) (fun k=>l.length-k)
   (fun k=>⟨61,[(0,.s 999999 0 l.length 1),(3,.v (vi k))],[(999999,.var (l.map vint))],[]⟩) 1 ⟨by omega,by omega,by rw[compI_one hx0]; rw[take_snocI hx0]; rfl⟩ ?_
  rintro k ⟨hk1,hk,hall⟩;by_cases hlt:k<l.length
  ·obtain ⟨x,hx,hd,-⟩:=drop_at hlt;obtain ⟨y,hy,hdy,-⟩:=drop_at (l:=l) (k:=k-1) (by omega);have hd':(l.map vint).drop k=vi x::(l.drop (k+1)).map vint:=by rw[<- List.map_drop,hd]; rfl
   have hdy':(l.map vint).drop (k-1)=vi y::(l.drop (k-1+1)).map vint:=by rw[<- List.map_drop,hdy]; rfl
   by_cases hxy:x=y
   ·have hk0:compI (l.take (k+1))=l.take k:=by rw[compI_same hk1 hy hx hxy,hall]
    have hlk:(l.take k).length=k:=by rw[List.length_take]; omega
    have hcell:l.map vint=cellC l (k+1):=by unfold cellC; rw[hk0,hlk,List.take_append_drop]
    have hc1:(compI (l.take (k+1))).length=k:=by rw[hk0,hlk]
    refine runW (And.intro hd' (And.intro hdy' hxy)) ?_
    refine loop ⟨[0,3,4,5],[999999],[],[]⟩ (fun z:Nat=>1<=z/\k+z<=l.length/\(compI (l.take (k+z))).length+1<=k+z/\1<=(compI (l.take (k+z))).length) (fun z=>l.length-z)
     (fun z=>⟨61,[(0,.s 999999 0 l.length 1),(3,.v (vi (compI (l.take (k+z))).length)),(4,.s 999999 k (l.length-k) 1),(5,.v (vi z))],[(999999,.var (cellC l (k+z)))],[]⟩) 1 ⟨Nat.le_refl 1,hlt,by rw[hc1]; omega,by rw[hc1]; exact hk1⟩ ?_ (by rw[hcell,hc1]; rfl)
    rintro z ⟨hz1,hz2,hz3,hz4⟩;have hlen2:=cellC_len l (k+z) hz2;have hend:=cellC_take l (k+z);have hput:=fun {x:Int} (h:l[k+z]? = some x)=>cellC_put l (k+z) h hz3;by_cases hzl:k+z<l.length
    ·obtain ⟨u,hu,hdu,-⟩:=drop_at hzl;obtain ⟨v,hv,hdv,-⟩:=drop_at (l:=l) (k:=k+z-1) (by omega);have hdu':=cellC_drop l (k+z) (k+z) (by omega);have hdv':=cellC_drop l (k+z) (k+z-1) (by omega);rw[hdu,List.map_cons] at hdu';rw[hdv,List.map_cons] at hdv';have hput':=hput hu;by_cases huv:u=v
     ·have hsame:cellC l (k+(z+1))=cellC l (k+z):=by unfold cellC; rw[show k+(z+1)=k+z+1 by omega,compI_same (by omega) hv hu huv]
      have hsame2:compI (l.take (k+(z+1)))=compI (l.take (k+z)):=by rw[show k+(z+1)=k+z+1 by omega,compI_same (by omega) hv hu huv]
      obtain ⟨Cs,hCs⟩:∃Cs,cellC l (k+z)=Cs:=⟨_,rfl⟩;obtain ⟨c,hc⟩:∃c,(compI (l.take (k+z))).length=c:=⟨_,rfl⟩;rw[hCs] at hdu' hdv' hlen2 hsame;rw[hc] at hz3 hz4;rw[hCs,hc];have hix:k+z-1=k+(z-1):=by omega
      rw[hix] at hdv';refine runW (And.intro hdu' (And.intro hdv' huv)) ?_;refine round (z+1) ⟨by omega,by omega,by rw[hsame2,hc]; omega,by rw[hsame2,hc]; exact hz4⟩ (by omega) ?_;rw[hsame,hsame2,hc];rfl
     ·have hdiff:compI (l.take (k+(z+1)))=compI (l.take (k+z))++[u]:=by rw[show k+(z+1)=k+z+1 by omega,compI_diff (by omega) hv hu huv]
      have hput'':=hput' (by rw[show k+z+1=k+(z+1) by omega]; exact hdiff);rw[show k+z+1=k+(z+1) by omega] at hput'';obtain ⟨Cs,hCs⟩:∃Cs,cellC l (k+z)=Cs:=⟨_,rfl⟩;obtain ⟨c,hc⟩:∃c,(compI (l.take (k+z))).length=c:=⟨_,rfl⟩;rw[hCs] at hdu' hdv' hlen2 hput'';rw[hc] at hz3 hz4 hput'';rw[hCs,hc];have hdl:(compI (l.take (k+(z+1)))).length=c+1:=by rw[hdiff,List.length_append,hc]; rfl
      have hix:k+z-1=k+(z-1):=by omega
      rw[hix] at hdv';refine runW (And.intro hdu' (And.intro hdv' (eq_false huv))) ?_;refine round (z+1) ⟨by omega,by omega,by rw[hdl]; omega,by rw[hdl]; omega⟩ (by omega) ?_;rw[hdl,<- hput''];rfl
    ·have hkz:k+z=l.length:=by omega
     rw[hkz,List.take_length] at hend hz3 hz4;rw[hkz] at hlen2;rw[hkz,List.take_length];have hcl:((compI l).map vint).length=(compI l).length:=List.length_map _;obtain ⟨Cs,hCs⟩:∃Cs,cellC l l.length=Cs:=⟨_,rfl⟩;obtain ⟨c,hc⟩:∃c,(compI l).length=c:=⟨_,rfl⟩;rw[hCs] at hend hlen2;rw[hc] at hz3 hz4 hend;rw[hCs,hc];refine runW hend ?_;exact finM0 (.refl _)
   ·refine runW (And.intro hd' (And.intro hdy' (eq_false hxy))) ?_;exact round (k+1) ⟨by omega,by omega,by rw[compI_diff hk1 hy hx hxy,hall,take_snocI hx]⟩ (by omega)
  ·have hkl:k=l.length:=by omega
   subst hkl;rw[List.take_length] at hall;rw[hall];refine run ?_;exact finM0 (.refl _)
end Go.Arc
set_option maxRecDepth 100000
namespace Go.Arc
open Go.Ab Go.RowKit Go.Proofs
variable {T : Lay}
def lowE (r:Rgs):Nat->Int×Int
 | 0=>checkO r.ofs
 | 1=>check r.pls
 | 2=>checkF r.ofs r.pls r.fls
 | 3=>checkR r.rls
 | _=>checkH r.hls
def listsE (r:Rgs):Int:=fstE [(checkO r.ofs).2,(check r.pls).2,(checkF r.ofs r.pls r.fls).2,(checkR r.rls).2,(checkH r.hls).2]
theorem den_lists1 (L:LibC T) (r:Rgs) (h:r.Fit):Den Tryz.prog T 167 [.row r.cs] (chkV (checkO r.ofs)):=by
 refine den_of_body follows (fun args w=>Tryz.call167 args w) Tryz.func167 rfl 8 rfl ?_;refine run ?_;refine call (den_CheckO L r.ofs h.ofs) ?_;refine run ?_;exact fin rfl
theorem den_lists2 (L:LibC T) (r:Rgs) (h:r.Fit):Den Tryz.prog T 169 [.row r.cs] (chkV (check r.pls)):=by
 refine den_of_body follows (fun args w=>Tryz.call169 args w) Tryz.func169 rfl 8 rfl ?_;refine run ?_;refine call (den_CheckL L r.pls h.pls) ?_;refine run ?_;exact fin rfl
theorem den_lists3 (L:LibC T) (r:Rgs) (h:r.Fit):Den Tryz.prog T 170 [.row r.cs] (chkV (checkF r.ofs r.pls r.fls)):=by
 refine den_of_body follows (fun args w=>Tryz.call170 args w) Tryz.func170 rfl 12 rfl ?_;refine run ?_;refine call (den_CheckF L r.ofs r.pls r.fls h.ofs h.pls h.fls) ?_;refine run ?_;exact fin rfl
theorem den_lists4 (L:LibC T) (r:Rgs) (h:r.Fit):Den Tryz.prog T 172 [.row r.cs] (chkV (checkR r.rls)):=by
 refine den_of_body follows (fun args w=>Tryz.call172 args w) Tryz.func172 rfl 8 rfl ?_;refine run ?_;refine call (den_CheckR L r.rls h.rls) ?_;refine run ?_;exact fin rfl
theorem den_lists5 (L:LibC T) (r:Rgs) (h:r.Fit):Den Tryz.prog T 174 [.row r.cs] (chkV (checkH r.hls)):=by
 refine den_of_body follows (fun args w=>Tryz.call174 args w) Tryz.func174 rfl 8 rfl ?_;refine run ?_;refine call (den_CheckH L r.hls h.hls) ?_;refine run ?_;exact fin rfl
theorem fst_at (c:Nat->Int×Int):∀(n k m:Nat),k<n->(∀j,j<k->(c (m+j)).2=0)->(c (m+k)).2≠0->fstE ((List.range' m n).map fun j=>(c j).2)=(c (m+k)).2
 | 0,k,m,hk,_,_=>absurd hk (Nat.not_lt_zero k)
 | n+1,k,m,hk,h,hb=>by
  rw[List.range'_succ,List.map_cons];unfold fstE;cases k with
  | zero=>exact if_pos hb
  | succ k=>
   rw[if_neg (by have:=h 0 (by omega); simpa using this)];rw[fst_at c n k (m+1) (by omega) (fun j hj=>by rw[show m+1+j=m+(j+1) by omega]; exact h (j+1) (by omega)) (by rw[show m+1+k=m+(k+1) by omega]; exact hb)];rw[show m+1+k=m+(k+1) by omega]
theorem fst_end (c:Nat->Int×Int):∀(n m:Nat),(∀j,j<n->(c (m+j)).2=0)->fstE ((List.range' m n).map fun j=>(c j).2)=0
 | 0,m,_=>rfl
 | n+1,m,h=>by
  rw[List.range'_succ,List.map_cons];unfold fstE;rw[if_neg (by have:=h 0 (by omega); simpa using this)];exact fst_end c n (m+1) fun j hj=>by rw[show m+1+j=m+(j+1) by omega]; exact h (j+1) (by omega)
theorem den_lists (L:LibC T) (r:Rgs) (h:r.Fit):Den Tryz.prog T 118 [.agg r.cs] (vi (listsE r)):=by
 have hrows:∀k,k<5->∃g,[[V.func 167 [.row r.cs]],[V.func 169 [.row r.cs]],[V.func 170 [.row r.cs]],[V.func 172 [.row r.cs]],[V.func 174 [.row r.cs]]][k]? = some [.func g [.row r.cs]]/\Den Tryz.prog T g [.row r.cs] (chkV (lowE r k)):=fun k hk=>by
  match k,hk with
  | 0,_=>exact ⟨_,rfl,den_lists1 L r h⟩
  | 1,_=>exact ⟨_,rfl,den_lists2 L r h⟩
  | 2,_=>exact ⟨_,rfl,den_lists3 L r h⟩
  | 3,_=>exact ⟨_,rfl,den_lists4 L r h⟩
  | 4,_=>exact ⟨_,rfl,den_lists5 L r h⟩
 have hE:listsE r=fstE ((List.range' 0 5).map fun j=>(lowE r j).2):=rfl;rw[hE];obtain ⟨c,hc⟩:∃c,lowE r=c:=⟨_,rfl⟩;rw[hc] at hrows ⊢;refine den_of_body follows (fun args w=>Tryz.call118 args w) Tryz.func118 rfl 29 rfl ?_;refine run ?_;obtain ⟨R,hR⟩:∃R,[[V.func 167 [.row r.cs]],[V.func 169 [.row r.cs]],[V.func 170 [.row r.cs]],[V.func 172 [.row r.cs]],[V.func 174 [.row r.cs]]]=R:=⟨_,rfl⟩;have hRl:R.length=5:=by rw[<- hR]; rfl
 rw[hR] at hrows
 refine loop ⟨[2,14,15,16],[],[],[]⟩ (fun k:Nat=>k<=5/\∀j,j<k->(c j).2=0) (fun k=>5-k)
  (fun k=>⟨29,[(2,.v (vi 0)),(14,.v (.slice 1 R)),(15,.v (vi 5)),(16,.v (vi k))],[],[]⟩) 0 ⟨by decide,fun j hj=>absurd hj (Nat.not_lt_zero j)⟩ ?_ (by rw[<- hR]; rfl)
 rintro k ⟨hk,hall⟩;by_cases hlt:k<5
 ·obtain ⟨g,hg,hden⟩:=hrows k hlt;have hkR:k<R.length:=by omega
  refine runW hg ?_;refine call hden ?_;by_cases hz:(c k).2=0
  ·refine runW hz ?_;refine round (k+1) ⟨hlt,fun j hj=> ?_⟩ (by omega);by_cases hjk:j=k
   ·subst hjk; exact hz
   ·exact hall j (by omega)
  ·refine runW hz ?_;refine fin (vi_eq ?_);have:=fst_at c 5 k 0 hlt (fun j hj=>by rw[Nat.zero_add]; exact hall j hj) (by rw[Nat.zero_add]; exact hz);rw[this,Nat.zero_add]
 ·refine run ?_;refine fin (vi_eq ?_);exact (fst_end c 5 0 fun j hj=>by rw[Nat.zero_add]; exact hall j (by omega)).symm
end Go.Arc
set_option maxRecDepth 100000
namespace Go.Arc
open Go.Ab Go.RowKit Go.Proofs
variable {T : Lay}
theorem argsV {κ:List (Nat×Nat)} {h:List (Nat×Blk)} : ∀l:List V,ArgsM κ h (l.map .v) (l.map .v)
 | []=> .nil
 | x::l=> .cons (.v x) (argsV l)
theorem finSm {P:Program} {rs:List ResultVar} {i:Nat} {es:List (V×V)} {nm:Option Nat} {r r':TV} {st:St} (h3:WkT r' r) (hB:Go.Ab.look i st.h=some (.map es nm):=by rfl) (h2:resT P st rs=some r':=by rfl):fpostS P rs [(i,.map es nm)] [] r .rt st:=
 finS (fun x hx=>by simp only[List.mem_singleton] at hx; subst hx; exact ⟨_,hB,.map (.inr rfl)⟩) h3 h2
theorem hasF_find (l:List Fil) (n:Int):decide (findF l n<0)= !hasF l n:=by
 unfold findF hasF;have:=ix_ge (isIdF n) l;cases h:l.any (isIdF n) with
 | true=>
  rw[h] at this;have h2:(l.any fun f=>decide (f.id=n))=true:=h;rw[h2];simp at this ⊢;omega
 | false=>
  rw[h] at this;have h2:(l.any fun f=>decide (f.id=n))=false:=h;rw[h2];simp at this ⊢;omega
theorem den_isDay11 (d:Int):Den Tryz.prog T 178 [vi d] (vb (dayG d)):=by
 refine den_of_body follows (fun args w=>Tryz.call178 args w) Tryz.func178 rfl 9 rfl ?_;unfold dayG;by_cases h:0<=d
 ·by_cases h2:d<=1048575
  ·refine runW (And.intro (eq_true h) (eq_true h2)) ?_;exact fin rfl
  ·refine runW (And.intro (eq_true h) (eq_false h2)) ?_;exact fin rfl
 ·refine runW (eq_false h) ?_;exact fin rfl
theorem den_elements1 (r:Rgs) (h:r.Fit) (f:Int):Den Tryz.prog T 179 [vi f,.row r.cs] (vb (!hasF r.fls f)):=by
 have hl:=h.fls.1;refine den_of_body follows (fun args w=>Tryz.call179 args w) Tryz.func179 rfl 9 rfl ?_;refine run ?_;refine call (den_FindF r.fls f hl) ?_;refine run ?_;exact fin (vb_eq (hasF_find r.fls f))
abbrev gBlk (ps:List (Int×Bool)) (b:Nat):List (Nat×Blk):=[(999000,.map (mapG ps) (some b))]
instance:TZV Tryz.prog 4 (.bool false):=⟨by kernel_rfl⟩
theorem den_elements2 (ps:List (Int×Bool)) (b:Nat) (f:Int):DenS Tryz.prog T 180 (gBlk ps b) [] [.v (vi f),.v (.row [.val (.map (some b))])] (gBlk ps b) [] (.v (vb (getG ps f))):=by
 have hf:=find_mapG f ps;have hg:=findG_get ps f;refine denS_of_body follows (fun args w=>Tryz.call180 args w) Tryz.func180 rfl 7 rfl rfl ?_;refine runW (And.intro hf hg) ?_;exact finSm (.v (.refl _))
theorem denS_ixInt (l:List Int) (f:FuncId) (cap:List V) (p:Int->Bool) (ps:List (Int×Bool)) (b:Nat) (hl:l.length<=1048576) (hp:∀e∈l,DenS Tryz.prog T f (gBlk ps b) [] (.v (vi e)::cap.map .v) (gBlk ps b) [] (.v (vb (p e)))):
   DenS Tryz.prog T 61 (gBlk ps b) [] [.v (ints l),.v (.func f cap)] (gBlk ps b) [] (.v (vi (ix p l))):=by
  refine denS_of_body follows (fun args w=>Tryz.call61 args w) Tryz.func61 rfl 19 rfl rfl ?_;refine run ?_
  refine loop ⟨[0,1,7,8],[999000],[],[]⟩ (fun k:Nat=>k<=l.length/\∀e∈l.take k,p e=false) (fun k=>l.length-k)
    (fun k=>⟨19,[(0,.v (ints l)),(1,.v (.func f cap)),(7,.v (vi l.length)),(8,.v (vi k))],gBlk ps b,[]⟩) 0 ⟨by omega,by simp⟩ ?_
  rintro k ⟨hk,hall⟩;by_cases hlt:k<l.length
  · obtain ⟨x,hx,-,hm⟩:=drop_at hlt;refine runW hx ?_;refine callX (callS [(999000,999000)] (hp x hm) (.cons (.v _) (argsV cap)) ?_ ?_)
    · intro y hy;simp only[List.mem_singleton] at hy;subst hy;exact ⟨999000,_,rfl,rfl,rfl,.inr rfl,rfl⟩
    cases hpc:p x
    · refine run ?_;exact round (k+1) ⟨by omega,take_snoc hall hx hpc⟩ (by omega)
    · refine run ?_;rw[<- ix_at hall hx hpc];exact finSm (.v (.refl _))
  · refine run ?_;rw[<- ix_none hall hlt];exact finSm (.v (.refl _))
theorem denS_anyInt (l:List Int) (f:FuncId) (cap:List V) (p:Int->Bool) (ps:List (Int×Bool)) (b:Nat) (hl:l.length<=1048576) (hp:∀e∈l,DenS Tryz.prog T f (gBlk ps b) [] (.v (vi e)::cap.map .v) (gBlk ps b) [] (.v (vb (p e)))):
   DenS Tryz.prog T 23 (gBlk ps b) [] [.v (ints l),.v (.func f cap)] (gBlk ps b) [] (.v (vb (l.any p))):=by
  refine denS_of_body follows (fun args w=>Tryz.call23 args w) Tryz.func23 rfl 9 rfl rfl ?_;refine run ?_;refine callX (callS [(999000,999000)] (denS_ixInt l f cap p ps b hl hp) (.cons (.v _) (.cons (.v _) .nil)) ?_ ?_)
  · intro y hy;simp only[List.mem_singleton] at hy;subst hy;exact ⟨999000,_,rfl,rfl,rfl,.inr rfl,rfl⟩
  refine run ?_;refine finSm (.v (.of (vb_eq ?_)));exact ix_ge p l
theorem den_compact0:Den Tryz.prog T 176 [ints []] (ints []):=by
 refine den_of_body follows (fun args w=>Tryz.call176 args w) Tryz.func176 rfl 61 rfl ?_;refine run ?_;exact fin rfl
theorem any_eqI (l:List Int) (p q:Int->Bool) (h:∀x∈l,p x=q x):l.any p=l.any q:=by
 induction l with
 | nil=>rfl
 | cons x r ih=>rw[List.any_cons,List.any_cons,h x (.head _),ih fun y hy=>h y (.tail _ hy)]
theorem any_notF (fs:List Fil) (l:List Int):(l.any fun f=> !hasF fs f)= !(l.all (hasF fs)):=by
 induction l with
 | nil=>rfl
 | cons x r ih=>rw[List.any_cons,List.all_cons,ih]; cases hasF fs x <;> rfl
def psAt (ps:List (Int×Bool)) (l:List Elm) (k:Nat):List (Int×Bool):=(l.take k).foldl (fun ps x=>addG ps x.fls x.gone) ps
theorem psAt_succ (ps:List (Int×Bool)) {l:List Elm} {k:Nat} {x:Elm} (h:l[k]? = some x):psAt ps l (k+1)=addG (psAt ps l k) x.fls x.gone:=by
 unfold psAt;rw[take_snocE h,List.foldl_append];rfl
theorem one_map' (o:Option Nat):((Value.map o).oneCell'=true)=True:=eq_true rfl
end Go.Arc
set_option maxRecDepth 100000
namespace Go.Arc
open Go.Ab Go.RowKit Go.Proofs
variable {T : Lay}
theorem den_day11R (d:Int):Den Tryz.prog T 202 [vi d] (vb (dayG d)):=by
 refine den_of_body follows (fun args w=>Tryz.call202 args w) Tryz.func202 rfl 9 rfl ?_;unfold dayG;by_cases h:0<=d
 ·by_cases h2:d<=1048575
  ·refine runW (And.intro (eq_true h) (eq_true h2)) ?_;exact fin rfl
  ·refine runW (And.intro (eq_true h) (eq_false h2)) ?_;exact fin rfl
 ·refine runW (eq_false h) ?_;exact fin rfl
def filesE (fs:List Fil) (l:List Int):Int:=if l.all (hasF fs)=false then 7 else if risI l=false then 5 else 0
theorem findF_neg {fs:List Fil} {n:Int} (h:findF fs n<0):hasF fs n=false:=by
 have:=hasF_find fs n;rw[decide_eq_true h] at this;cases e:hasF fs n
 ·rfl
 ·rw[e] at this; cases this
theorem findF_pos {fs:List Fil} {n:Int} (h:¬findF fs n<0):hasF fs n=true:=by
 have:=hasF_find fs n;rw[decide_eq_false h] at this;cases e:hasF fs n
 ·rw[e] at this; cases this
 ·rfl
theorem filesE_7 {fs:List Fil} {l:List Int} {k:Nat} {x:Int} (hx:l[k]? = some x) (h:hasF fs x=false):filesE fs l=7:=by
 unfold filesE;rw[if_pos];rw[List.all_eq_false];exact ⟨x,List.mem_of_getElem? hx,by rw[h]; decide⟩
theorem den_files11 (_L:LibC T) (r:Rgs) (l:List Int) (h:r.Fit) (hl:l.length<=1048576):Den Tryz.prog T 203 [.agg r.cs,ints l] (vi (filesE r.fls l)):=by
 have hf:=h.fls.1;refine den_of_body follows (fun args w=>Tryz.call203 args w) Tryz.func203 rfl 37 rfl ?_;refine run ?_
 refine loop ⟨[1,2,5],[2],[],[]⟩ (fun k:Nat=>k<=l.length/\∀e∈l.take k,hasF r.fls e=true) (fun k=>l.length-k)
  (fun k=>⟨37,[(1,.v (ints l)),(2,.p 2 0),(5,.v (vi k))],[(2,.var r.cs)],[]⟩) 0 ⟨Nat.zero_le _,by simp⟩ ?_
 rintro k ⟨hk,hall⟩;by_cases hlt:k<l.length
 ·obtain ⟨x,hx,-,-⟩:=drop_at hlt;refine runW hx ?_;refine call (den_FindFRef r.fls x hf) ?_;by_cases hn:findF r.fls x<0
  ·rw[filesE_7 hx (findF_neg hn)];refine runW (eq_true hn) ?_;exact fin rfl
  ·refine runW (eq_false hn) ?_;exact round (k+1) ⟨hlt,take_snoc hall hx (findF_pos hn)⟩ (by omega)
 have hall:=take_all hall hlt
 have h7:filesE r.fls l=if risI l=false then 5 else 0:=by
  unfold filesE;rw[if_neg];rw[List.all_eq_true.2 hall];decide
 rw[h7];clear h7;refine run ?_
 refine loop ⟨[1,6],[],[],[]⟩ (fun k:Nat=>1<=k/\(k<=l.length\/k=1)/\∀(i:Nat) x y,i+1<k->l[i]? = some x->l[i+1]? = some y->x<y) (fun k=>l.length-k)
  (fun k=>⟨37,[(1,.v (ints l)),(6,.v (vi k))],[],[]⟩) 1 ⟨Nat.le_refl _,.inr rfl,fun i x y hi=>by omega⟩ ?_
 rintro k ⟨h1,hk,hasc⟩;by_cases hlt:k<l.length
 ·obtain ⟨x,hx,-,-⟩:=drop_at hlt;obtain ⟨y,hy,-,-⟩:=drop_at (l:=l) (k:=k-1) (by omega);by_cases hxy:x<=y
  ·have hr:risI l=false:=by
    cases e:risI l
    ·rfl
    ·have:=(risI_iff l).1 e (k-1) y x hy (by rw[show k-1+1=k by omega]; exact hx);omega
   rw[if_pos hr];refine runW (And.intro hx (And.intro hy (eq_true hxy))) ?_;exact fin rfl
  ·refine runW (And.intro hx (And.intro hy (eq_false hxy))) ?_;refine round (k+1) ⟨by omega,.inl hlt,fun i u v hi hu hv=> ?_⟩ (by omega);by_cases hik:i+1=k
   ·subst hik;rw[Nat.add_sub_cancel] at hy;rw[hy] at hu;rw[hx] at hv;cases hu;cases hv;omega
   ·exact hasc i u v (by omega) hu hv
 ·have hr:risI l=true:=(risI_iff l).2 fun i x y hx hy=>hasc i x y (by have:=(List.getElem?_eq_some_iff.1 hy).1; omega) hx hy;rw[if_neg (by rw[hr]; decide)];refine run ?_;exact fin rfl
theorem elmE_2 {fs:List Fil} {pre:List Elm} {last:Option Elm} {x:Elm} (h:idB x.id=false\/dayG x.day=false):elmE fs pre last x=2:=by unfold elmE; rw[if_pos h]
theorem elmE_f {fs:List Fil} {pre:List Elm} {last:Option Elm} {x:Elm} (h:¬(idB x.id=false\/dayG x.day=false)) (hf:filesE fs x.fls≠0):elmE fs pre last x=filesE fs x.fls:=by
 unfold elmE filesE at *;rw[if_neg h];by_cases h7:x.fls.all (hasF fs)=false
 ·rw[if_pos h7,if_pos h7]
 ·rw[if_neg h7] at hf ⊢;rw[if_neg h7];by_cases h5:risI x.fls=false
  ·rw[if_pos h5,if_pos (.inl h5)]
  ·rw[if_neg h5] at hf; exact absurd rfl hf
def lateX (last:Option Elm) (x:Elm):Bool:=match last with | some q=>decide (x.day<q.day) | none=>false
theorem elmE_r {fs:List Fil} {pre:List Elm} {last:Option Elm} {x:Elm} (h:¬(idB x.id=false\/dayG x.day=false)) (hf:filesE fs x.fls=0):elmE fs pre last x=if lateX last x=true then 5 else if x.gone=true/\x.fls.any (goneB pre)=true then 6 else 0:=by
 unfold elmE;unfold filesE at hf;rw[if_neg h];by_cases h7:x.fls.all (hasF fs)=false
 ·rw[if_pos h7] at hf; cases hf
 ·rw[if_neg h7] at hf ⊢;by_cases h5:risI x.fls=false
  ·rw[if_pos h5] at hf; cases hf
  ·by_cases h6:lateX last x=true
   ·rw[if_pos h6,if_pos (.inr h6)]
   ·rw[if_neg h6,if_neg (fun e=>e.elim h5 h6)]
theorem lateX_0 (l:List Elm) (x:Elm):lateX (lastAt l 0) x=false:=rfl
theorem lateX_s {l:List Elm} {k:Nat} (h0:k≠0) {q:Elm} (hq:l[k-1]? = some q) (x:Elm):lateX (lastAt l k) x=decide (x.day<q.day):=by unfold lateX lastAt; rw[if_neg h0,hq]
theorem elsE_go {fs:List Fil} {l pre:List Elm} {k:Nat} {x:Elm} (hx:l[k]? = some x) (h1:elsE fs pre none l=elsE fs (pre++l.take k) (lastAt l k) (l.drop k)):
  (∀n,elmE fs (pre++l.take k) (lastAt l k) x=n->n≠0->elsE fs pre none l=n)/\(elmE fs (pre++l.take k) (lastAt l k) x=0->elsE fs pre none l=elsE fs (pre++l.take (k+1)) (lastAt l (k+1)) (l.drop (k+1))):=by
 have e1:=elsE_step (fs:=fs) hx (pre++l.take k) (lastAt l k);refine ⟨fun n hn h0=> ?_,fun h0=> ?_⟩
 ·subst hn;rw[if_pos h0] at e1;exact h1.trans e1
 ·rw[if_neg (by rw[h0]; decide)] at e1;rw[List.append_assoc,<- take_snocE hx] at e1;rw[lastAt_succ hx];exact h1.trans e1
theorem selE_at {r:Rgs} {k:Nat} {s:Sel} (h:r.sls[k]? = some s):(selE r)[k]? = some s.el:=by unfold selE; rw[List.getElem?_map,h]; rfl
theorem crtE_at {r:Rgs} {k:Nat} {s:Crt} (h:r.crs[k]? = some s):(crtE r)[k]? = some s.el:=by unfold crtE; rw[List.getElem?_map,h]; rfl
theorem depE_at {r:Rgs} {k:Nat} {s:Dep} (h:r.dps[k]? = some s):(depE r)[k]? = some s.el:=by unfold depE; rw[List.getElem?_map,h]; rfl
theorem idB_iff (n:Int):idB n=false↔n<1\/1073741824<n:=by
 unfold idB;rw[decide_eq_false_iff_not];omega
theorem den_selections11 (L:LibC T) (r:Rgs) (h:r.Fit):Den Tryz.prog T 132 [.agg r.cs] (vi (listE r.fls [] (selE r))):=by
 have hl:=h.sls.1;have hlen:(selE r).length=r.sls.length:=List.length_map _;refine den_of_body follows (fun args w=>Tryz.call132 args w) Tryz.func132 rfl 66 rfl ?_;unfold listE;rw[hlen];by_cases hbig:1024<r.sls.length
 ·rw[if_pos hbig];refine runW (eq_true hbig) ?_;exact fin rfl
 rw[if_neg hbig];refine runW (eq_false hbig) ?_
 refine loop ⟨[1,3,4],[1],[],[]⟩ (fun k:Nat=>k<=r.sls.length/\elsE r.fls [] none (selE r)=elsE r.fls ([]++(selE r).take k) (lastAt (selE r) k) ((selE r).drop k)) (fun k=>r.sls.length-k)
  (fun k=>⟨66,[(1,.p 1 0),(3,.v (sels r.sls)),(4,.v (vi k))],[(1,.var r.cs)],[]⟩) 0 ⟨Nat.zero_le _,rfl⟩ ?_
 rintro k ⟨hk,h1⟩;by_cases hlt:k<r.sls.length
 ·obtain ⟨x,hx,-,hm⟩:=drop_at hlt;obtain ⟨hbad,hnext⟩:=elsE_go (selE_at hx) h1;have hxf:=h.sls.2 x hm;by_cases h2:x.smp<1
  ·rw[hbad 2 (elmE_2 (.inl ((idB_iff _).2 (.inl h2)))) (by decide)];refine runW (And.intro hx (eq_true h2)) ?_;exact fin rfl
  by_cases h3:1073741824<x.smp
  ·rw[hbad 2 (elmE_2 (.inl ((idB_iff _).2 (.inr h3)))) (by decide)];refine runW (And.intro hx (And.intro (eq_false h2) (eq_true h3))) ?_;exact fin rfl
  refine runW (And.intro hx (And.intro (eq_false h2) (eq_false h3))) ?_;refine call (den_day11R x.day) ?_;cases hd:dayG x.day
  ·rw[hbad 2 (elmE_2 (.inr hd)) (by decide)];refine run ?_;exact fin rfl
  have hok:¬(idB x.el.id=false\/dayG x.el.day=false):=by
   rintro (e | e)
   ·have:=(idB_iff _).1 e;exact this.elim h2 h3
   ·rw[show x.el.day=x.day from rfl,hd] at e; cases e
  refine runW hx ?_;refine call (den_files11 L r x.fls h hxf) ?_;by_cases hf:filesE r.fls x.fls=0
  ·have hr:=elmE_r (pre:=[]++(selE r).take k) (last:=lastAt (selE r) k) hok hf;by_cases hk0:k=0
   ·subst hk0;rw[lateX_0] at hr;refine runW (And.intro hf hx) ?_;exact round 1 ⟨hlt,hnext hr⟩ (by omega)
   ·obtain ⟨y,hy,-,-⟩:=drop_at (l:=r.sls) (k:=k-1) (by omega);have hpos:(0:Int)<k:=by omega
    rw[lateX_s hk0 (selE_at hy)] at hr;by_cases hlt2:x.day<y.day
    ·rw[if_pos (decide_eq_true (show x.el.day<y.el.day from hlt2))] at hr;rw[hbad 5 hr (by decide)];refine runW (And.intro hf (And.intro hx (And.intro hy (And.intro (eq_true hpos) (eq_true hlt2))))) ?_;exact fin rfl
    ·rw[if_neg (by rw[decide_eq_true_eq]; exact hlt2)] at hr;refine runW (And.intro hf (And.intro hx (And.intro hy (And.intro (eq_true hpos) (eq_false hlt2))))) ?_;exact round (k+1) ⟨hlt,hnext hr⟩ (by omega)
  ·rw[hbad _ (elmE_f hok hf) hf];refine runW hf ?_;exact fin rfl
 ·have hkl:k=r.sls.length:=by omega
  subst hkl;rw[h1,List.drop_of_length_le (by omega)];refine run ?_;exact fin rfl
end Go.Arc
set_option maxRecDepth 100000
namespace Go.Arc
open Go.Ab Go.RowKit Go.Proofs
variable {T : Lay}
theorem find_at {α:Type} {p:α->Bool} {l:List α} {k:Nat} {x:α} (c:Nat) (hc:k<c) (h:∀e∈l.take k,p e=false) (hx:l[k]? = some x) (hp:p x=true):(l.take c).find? p=some x:=by
 obtain ⟨hlt,rfl⟩:=List.getElem?_eq_some_iff.1 hx;rw[List.find?_eq_some_iff_getElem];refine ⟨hp,k,by rw[List.length_take]; omega,by rw[List.getElem_take],fun j hj=> ?_⟩;have:=h l[j] (List.mem_iff_getElem?.2 ⟨j,by rw[List.getElem?_take,if_pos hj]; exact List.getElem?_eq_getElem _⟩);rw[List.getElem_take,this];rfl
theorem find_no {α:Type} {p:α->Bool} {l:List α} {c:Nat} (h:∀e∈l.take c,p e=false):(l.take c).find? p=none:=by
 rw[List.find?_eq_none];intro x hx;rw[h x hx];decide
theorem hasI_at {n:Int} {l:List Int} {k:Nat} {x:Int} (hx:l[k]? = some x) (h:x=n):hasI n l=true:=List.any_eq_true.2 ⟨x,List.mem_of_getElem? hx,decide_eq_true h⟩
theorem hasI_no {n:Int} {l:List Int} (h:∀e∈l,e≠n):hasI n l=false:=List.any_eq_false.2 fun e he=>by rw[decide_eq_false (h e he)]; decide
theorem den_Gone (r:Rgs) (h:r.Fit) (n:Int) (c d:Nat) (hc:c<=r.crs.length) (hd:d<=r.dps.length):Den Tryz.prog T 79 [.agg r.cs,vi n,vi c,vi d] (.tup [vi (goneR r n c d).1,vi (goneR r n c d).2]):=by
 have hcb:=h.crs.1;have hdb:=h.dps;have hgo:((r.crs.take c).find? fun x=>hasI n x.fls)=none->goneR r n c d=match (r.dps.take d).find? fun x=>decide (x.fil=n) with | some x=>(x.day,2) | none=>(0,0):=fun e=>by unfold goneR; rw[e]; rfl
 refine den_of_body follows (fun args w=>Tryz.call79 args w) Tryz.func79 rfl 65 rfl ?_;refine run ?_
 refine loop ⟨[1,2,3,4,10],[4],[],[]⟩ (fun k:Nat=>k<=c/\∀e∈r.crs.take k,hasI n e.fls=false) (fun k=>c-k)
  (fun k=>⟨65,[(1,.v (vi n)),(2,.v (vi c)),(3,.v (vi d)),(4,.p 4 0),(10,.v (vi k))],[(4,.var r.cs)],[]⟩) 0 ⟨Nat.zero_le _,by simp⟩ ?_
 rintro k ⟨hk,hall⟩;by_cases hlt:k<c
 ·obtain ⟨x,hx,-,hm⟩:=drop_at (l:=r.crs) (k:=k) (by omega);have hxf:=(h.crs.2 x hm).1;refine run ?_
  refine loop ⟨[1,2,3,4,10,11],[4],[],[]⟩ (fun j:Nat=>j<=x.fls.length/\∀e∈x.fls.take j,e≠n) (fun j=>x.fls.length-j)
   (fun j=>⟨65,[(1,.v (vi n)),(2,.v (vi c)),(3,.v (vi d)),(4,.p 4 0),(10,.v (vi k)),(11,.v (vi j))],[(4,.var r.cs)],[]⟩) 0 ⟨Nat.zero_le _,by simp⟩ ?_
  rintro j ⟨hj,hall2⟩;by_cases hjl:j<x.fls.length
  ·obtain ⟨y,hy,-,-⟩:=drop_at hjl;by_cases hyn:y=n
   ·have hg:goneR r n c d=(x.day,1):=by unfold goneR; rw[find_at c hlt hall hx (hasI_at hy hyn)]
    rw[hg];refine runW (And.intro hx (And.intro hy hyn)) ?_;exact fin rfl
   ·refine runW (And.intro hx (And.intro hy (eq_false hyn))) ?_;exact round (j+1) ⟨hjl,take_snoc hall2 hy hyn⟩ (by omega)
  ·refine runW hx ?_;exact round (k+1) ⟨hlt,take_snoc hall hx (hasI_no (take_all hall2 hjl))⟩ (by omega)
 ·have hkc:k=c:=by omega
  subst hkc;rw[hgo (find_no hall)];refine run ?_
  refine loop ⟨[1,3,4,12],[4],[],[]⟩ (fun k:Nat=>k<=d/\∀e∈r.dps.take k,decide (e.fil=n)=false) (fun k=>d-k)
   (fun k=>⟨65,[(1,.v (vi n)),(3,.v (vi d)),(4,.p 4 0),(12,.v (vi k))],[(4,.var r.cs)],[]⟩) 0 ⟨Nat.zero_le _,by simp⟩ ?_
  rintro j ⟨hj,hall2⟩;by_cases hjl:j<d
  ·obtain ⟨y,hy,-,-⟩:=drop_at (l:=r.dps) (k:=j) (by omega);by_cases hyn:y.fil=n
   ·rw[find_at d hjl hall2 hy (decide_eq_true hyn)];refine runW (And.intro hy hyn) ?_;exact fin rfl
   ·refine runW (And.intro hy (eq_false hyn)) ?_;exact round (j+1) ⟨hjl,take_snoc hall2 hy (decide_eq_false hyn)⟩ (by omega)
  ·have hjd:j=d:=by omega
   subst hjd;rw[find_no hall2];refine run ?_;exact fin rfl
theorem den_Gone0 (r:Rgs) (h:r.Fit) (n:Int) (c:Nat) (hc:c<=r.crs.length):Den Tryz.prog T 79 [.agg r.cs,vi n,vi c,vi 0] (.tup [vi (goneR r n c 0).1,vi (goneR r n c 0).2]):=den_Gone r h n c 0 hc (Nat.zero_le _)
theorem den_Gone00 (r:Rgs) (h:r.Fit) (n:Int):Den Tryz.prog T 79 [.agg r.cs,vi n,vi 0,vi 0] (.tup [vi (goneR r n 0 0).1,vi (goneR r n 0 0).2]):=den_Gone r h n 0 0 (Nat.zero_le _) (Nat.zero_le _)
theorem goneB_app (a b:List Elm) (n:Int):goneB (a++b) n=(goneB a n || goneB b n):=List.any_append
theorem goneB_sel (r:Rgs) (n:Int):goneB (selE r) n=false:=by
 unfold goneB selE;rw[List.any_eq_false];intro x hx;obtain ⟨s,-,rfl⟩:=List.mem_map.1 hx;simp[Sel.el]
theorem goneB_crt (l:List Crt) (n:Int):goneB (l.map Crt.el) n=l.any fun x=>hasI n x.fls:=by
 unfold goneB;rw[List.any_map];rfl
theorem goneB_dep (l:List Dep) (n:Int):goneB (l.map Dep.el) n=l.any fun x=>decide (x.fil=n):=by
 unfold goneB;rw[List.any_map];congr 1
 funext x
 simp[Dep.el]
theorem any_find {α:Type} (p:α->Bool) (l:List α):l.any p=(l.find? p).isSome:=by
 induction l with
 | nil=>rfl
 | cons x r ih=>
  rw[List.any_cons,List.find?_cons,ih];cases p x <;> rfl
theorem goneR_c (r:Rgs) (n:Int) (c:Nat):goneB (selE r++(crtE r).take c) n=decide ((goneR r n c 0).2≠0):=by
 rw[goneB_app,goneB_sel,Bool.false_or];unfold crtE;rw[<- List.map_take,goneB_crt,any_find];unfold goneR;cases e:(r.crs.take c).find? fun x=>hasI n x.fls with
 | some x=>rfl
 | none=>rw[List.take_zero]; rfl
theorem goneR_d (r:Rgs) (n:Int) (d:Nat):goneB ((selE r++crtE r)++(depE r).take d) n=decide ((goneR r n r.crs.length d).2≠0):=by
 rw[goneB_app,goneB_app,goneB_sel,Bool.false_or];unfold crtE depE;rw[<- List.map_take,goneB_crt,goneB_dep,any_find,any_find];unfold goneR;rw[List.take_length];cases e:r.crs.find? fun x=>hasI n x.fls with
 | some x=>rfl
 | none=>
  cases e:(r.dps.take d).find? fun x=>decide (x.fil=n) with
  | some x=>rfl
  | none=>rfl
theorem den_certificates11 (L:LibC T) (r:Rgs) (h:r.Fit):Den Tryz.prog T 133 [.agg r.cs] (vi (listE r.fls (selE r) (crtE r))):=by
 have hl:=h.crs.1;have hlen:(crtE r).length=r.crs.length:=List.length_map _;refine den_of_body follows (fun args w=>Tryz.call133 args w) Tryz.func133 rfl 95 rfl ?_;unfold listE;rw[hlen];by_cases hbig:1024<r.crs.length
 ·rw[if_pos hbig];refine runW (eq_true hbig) ?_;exact fin rfl
 rw[if_neg hbig];refine runW (eq_false hbig) ?_
 refine loop ⟨[1,3,4],[1],[],[]⟩ (fun k:Nat=>k<=r.crs.length/\elsE r.fls (selE r) none (crtE r)=elsE r.fls (selE r++(crtE r).take k) (lastAt (crtE r) k) ((crtE r).drop k)) (fun k=>r.crs.length-k)
  (fun k=>⟨95,[(1,.p 1 0),(3,.v (crts r.crs)),(4,.v (vi k))],[(1,.var r.cs)],[]⟩) 0 ⟨Nat.zero_le _,by rw[List.take_zero,List.append_nil]; rfl⟩ ?_
 rintro k ⟨hk,h1⟩;by_cases hlt:k<r.crs.length
 ·obtain ⟨x,hx,-,hm⟩:=drop_at hlt;obtain ⟨hbad,hnext⟩:=elsE_go (crtE_at hx) h1;have hxf:=(h.crs.2 x hm).1;by_cases h2:x.num<1
  ·rw[hbad 2 (elmE_2 (.inl ((idB_iff _).2 (.inl h2)))) (by decide)];refine runW (And.intro hx (eq_true h2)) ?_;exact fin rfl
  by_cases h3:1073741824<x.num
  ·rw[hbad 2 (elmE_2 (.inl ((idB_iff _).2 (.inr h3)))) (by decide)];refine runW (And.intro hx (And.intro (eq_false h2) (eq_true h3))) ?_;exact fin rfl
  refine runW (And.intro hx (And.intro (eq_false h2) (eq_false h3))) ?_;refine call (den_day11R x.day) ?_;cases hd:dayG x.day
  ·rw[hbad 2 (elmE_2 (.inr hd)) (by decide)];refine run ?_;exact fin rfl
  have hok:¬(idB x.el.id=false\/dayG x.el.day=false):=by
   rintro (e | e)
   ·have:=(idB_iff _).1 e;exact this.elim h2 h3
   ·rw[show x.el.day=x.day from rfl,hd] at e; cases e
  refine runW hx ?_;refine call (den_files11 L r x.fls h hxf) ?_;by_cases hf:filesE r.fls x.fls=0
  ·have hr:=elmE_r (pre:=selE r++(crtE r).take k) (last:=lastAt (crtE r) k) hok hf;by_cases hk0:k=0
   ·subst hk0;rw[lateX_0,if_neg Bool.false_ne_true] at hr;have hgc0:=fun y=>goneR_c r y 0;obtain ⟨pr,hpr⟩:∃pr,selE r++(crtE r).take 0=pr:=⟨_,rfl⟩;rw[hpr] at hr hgc0 hbad hnext;refine runW (And.intro hf hx) ?_
    refine loop ⟨[1,3,4,6],[1],[],[]⟩ (fun j:Nat=>j<=x.fls.length/\∀e∈x.fls.take j,goneB pr e=false) (fun j=>x.fls.length-j)
     (fun j=>⟨95,[(1,.p 1 0),(3,.v (crts r.crs)),(4,.v (vi 0)),(6,.v (vi j))],[(1,.var r.cs)],[]⟩) 0 ⟨Nat.zero_le _,by simp⟩ ?_
    rintro j ⟨hj,hall⟩;by_cases hjl:j<x.fls.length
    ·obtain ⟨y,hy,-,-⟩:=drop_at hjl;have hgc:=hgc0 y;refine runW (And.intro hx hy) ?_;refine call (den_Gone00 r h y) ?_;by_cases hb:(goneR r y 0 0).2=0
     ·refine runW hb ?_;exact round (j+1) ⟨hjl,take_snoc hall hy (by rw[hgc,hb]; rfl)⟩ (by omega)
     ·have h6:x.el.gone=true/\x.el.fls.any (goneB pr)=true:=⟨rfl,List.any_eq_true.2 ⟨y,List.mem_of_getElem? hy,by rw[hgc]; exact decide_eq_true hb⟩⟩;rw[if_pos h6] at hr;rw[hbad 6 hr (by decide)];refine runW hb ?_;exact fin rfl
    ·have h6:¬(x.el.gone=true/\x.el.fls.any (goneB pr)=true):=fun e=>by
      obtain ⟨y,hy,hg⟩:=List.any_eq_true.1 e.2;rw[take_all hall hjl y hy] at hg;cases hg
     rw[if_neg h6] at hr;refine runW hx ?_;exact round 1 ⟨hlt,hnext hr⟩ (by omega)
   ·obtain ⟨z,hz,-,-⟩:=drop_at (l:=r.crs) (k:=k-1) (by omega);have hpos:(0:Int)<k:=by omega
    rw[lateX_s hk0 (crtE_at hz)] at hr;by_cases hlt2:x.day<z.day
    ·rw[if_pos (decide_eq_true (show x.el.day<z.el.day from hlt2))] at hr;rw[hbad 5 hr (by decide)];refine runW (And.intro hf (And.intro hx (And.intro hz (And.intro (eq_true hpos) (eq_true hlt2))))) ?_;exact fin rfl
    ·rw[if_neg (by rw[decide_eq_true_eq]; exact hlt2)] at hr;refine runW (And.intro hf (And.intro hx (And.intro hz (And.intro (eq_true hpos) (eq_false hlt2))))) ?_
     refine loop ⟨[1,3,4,6],[1],[],[]⟩ (fun j:Nat=>j<=x.fls.length/\∀e∈x.fls.take j,goneB (selE r++(crtE r).take k) e=false) (fun j=>x.fls.length-j)
      (fun j=>⟨95,[(1,.p 1 0),(3,.v (crts r.crs)),(4,.v (vi k)),(6,.v (vi j))],[(1,.var r.cs)],[]⟩) 0 ⟨Nat.zero_le _,by simp⟩ ?_
     rintro j ⟨hj,hall⟩;by_cases hjl:j<x.fls.length
     ·obtain ⟨y,hy,-,-⟩:=drop_at hjl;have hgc:=goneR_c r y k;refine runW (And.intro hx hy) ?_;refine call (den_Gone0 r h y k (by omega)) ?_;by_cases hb:(goneR r y k 0).2=0
      ·refine runW hb ?_;exact round (j+1) ⟨hjl,take_snoc hall hy (by rw[hgc,hb]; rfl)⟩ (by omega)
      ·have h6:x.el.gone=true/\x.el.fls.any (goneB (selE r++(crtE r).take k))=true:=⟨rfl,List.any_eq_true.2 ⟨y,List.mem_of_getElem? hy,by rw[hgc]; exact decide_eq_true hb⟩⟩;rw[if_pos h6] at hr;rw[hbad 6 hr (by decide)];refine runW hb ?_;exact fin rfl
     ·have h6:¬(x.el.gone=true/\x.el.fls.any (goneB (selE r++(crtE r).take k))=true):=fun e=>by
       obtain ⟨y,hy,hg⟩:=List.any_eq_true.1 e.2;rw[take_all hall hjl y hy] at hg;cases hg
      rw[if_neg h6] at hr;refine runW hx ?_;exact round (k+1) ⟨hlt,hnext hr⟩ (by omega)
  ·rw[hbad _ (elmE_f hok hf) hf];refine runW hf ?_;exact fin rfl
 ·have hkl:k=r.crs.length:=by omega
  subst hkl;rw[h1,List.drop_of_length_le (by omega)];refine run ?_;exact fin rfl
theorem den_departures11 (_L:LibC T) (r:Rgs) (h:r.Fit):Den Tryz.prog T 134 [.agg r.cs] (vi (listE r.fls (selE r++crtE r) (depE r))):=by
 have hl:=h.dps;have hf:=h.fls.1;have hlen:(depE r).length=r.dps.length:=List.length_map _;refine den_of_body follows (fun args w=>Tryz.call134 args w) Tryz.func134 rfl 66 rfl ?_;unfold listE;rw[hlen];by_cases hbig:1024<r.dps.length
 ·rw[if_pos hbig];refine runW (eq_true hbig) ?_;exact fin rfl
 rw[if_neg hbig];refine runW (eq_false hbig) ?_
 refine loop ⟨[1,3,4],[1],[],[]⟩ (fun k:Nat=>k<=r.dps.length/\elsE r.fls (selE r++crtE r) none (depE r)=elsE r.fls ((selE r++crtE r)++(depE r).take k) (lastAt (depE r) k) ((depE r).drop k)) (fun k=>r.dps.length-k)
  (fun k=>⟨66,[(1,.p 1 0),(3,.v (deps r.dps)),(4,.v (vi k))],[(1,.var r.cs)],[]⟩) 0 ⟨Nat.zero_le _,by rw[List.take_zero,List.append_nil]; rfl⟩ ?_
 rintro k ⟨hk,h1⟩;by_cases hlt:k<r.dps.length
 ·obtain ⟨x,hx,-,hm⟩:=drop_at hlt;obtain ⟨hbad,hnext⟩:=elsE_go (depE_at hx) h1;refine runW hx ?_;refine call (den_day11R x.day) ?_;cases hd:dayG x.day
  ·rw[hbad 2 (elmE_2 (.inr hd)) (by decide)];refine run ?_;exact fin rfl
  have hok:¬(idB x.el.id=false\/dayG x.el.day=false):=by
   rintro (e | e)
   ·cases e
   ·rw[show x.el.day=x.day from rfl,hd] at e; cases e
  refine runW hx ?_;refine call (den_FindFRef r.fls x.fil hf) ?_;by_cases hn:findF r.fls x.fil<0
  ·have h7:filesE r.fls x.el.fls=7:=filesE_7 (k:=0) (x:=x.fil) rfl (findF_neg hn);rw[hbad _ (elmE_f hok (by rw[h7]; decide)) (by rw[h7]; decide),h7];refine runW (eq_true hn) ?_;exact fin rfl
  have h0:filesE r.fls x.el.fls=0:=by
   show (if [x.fil].all (hasF r.fls)=false then (7:Int) else if risI [x.fil]=false then 5 else 0)=0
   rw[List.all_cons,findF_pos hn];rfl
  have hr:=elmE_r (pre:=(selE r++crtE r)++(depE r).take k) (last:=lastAt (depE r) k) hok h0;have hgd:=goneR_d r x.fil k
  have hany:x.el.fls.any (goneB ((selE r++crtE r)++(depE r).take k))=decide ((goneR r x.fil r.crs.length k).2≠0):=by
   rw[<- hgd]
   show (goneB ((selE r++crtE r)++(depE r).take k) x.fil || false)=_
   rw[Bool.or_false]
  rw[hany] at hr;have hcl:=h.crs.1;by_cases hk0:k=0
  ·subst hk0;rw[lateX_0,if_neg Bool.false_ne_true] at hr;refine runW (And.intro (eq_false hn) hx) ?_;refine call (den_Gone r h x.fil r.crs.length 0 (Nat.le_refl _) (Nat.zero_le _)) ?_;by_cases hb:(goneR r x.fil r.crs.length 0).2=0
   ·rw[if_neg (fun e=>absurd hb (of_decide_eq_true e.2))] at hr;refine runW hb ?_;exact round 1 ⟨hlt,hnext hr⟩ (by omega)
   ·rw[if_pos ⟨rfl,decide_eq_true hb⟩] at hr;rw[hbad 6 hr (by decide)];refine runW hb ?_;exact fin rfl
  ·obtain ⟨z,hz,-,-⟩:=drop_at (l:=r.dps) (k:=k-1) (by omega);have hpos:(0:Int)<k:=by omega
   rw[lateX_s hk0 (depE_at hz)] at hr;by_cases hlt2:x.day<z.day
   ·rw[if_pos (decide_eq_true (show x.el.day<z.el.day from hlt2))] at hr;rw[hbad 5 hr (by decide)];refine runW (And.intro (eq_false hn) (And.intro hx (And.intro hz (And.intro (eq_true hpos) (eq_true hlt2))))) ?_;exact fin rfl
   ·rw[if_neg (by rw[decide_eq_true_eq]; exact hlt2)] at hr;refine runW (And.intro (eq_false hn) (And.intro hx (And.intro hz (And.intro (eq_true hpos) (eq_false hlt2))))) ?_;refine call (den_Gone r h x.fil r.crs.length k (Nat.le_refl _) (by omega)) ?_;by_cases hb:(goneR r x.fil r.crs.length k).2=0
    ·rw[if_neg (fun e=>absurd hb (of_decide_eq_true e.2))] at hr;refine runW hb ?_;exact round (k+1) ⟨hlt,hnext hr⟩ (by omega)
    ·rw[if_pos ⟨rfl,decide_eq_true hb⟩] at hr;rw[hbad 6 hr (by decide)];refine runW hb ?_;exact fin rfl
 ·have hkl:k=r.dps.length:=by omega
  subst hkl;rw[h1,List.drop_of_length_le (by omega)];refine run ?_;exact fin rfl
theorem den_CheckGRef (L:LibC T) (r:Rgs) (h:r.Fit):Den Tryz.prog T 78 [.agg r.cs] (vi (checkG r)):=by
 refine den_of_body follows (fun args w=>Tryz.call78 args w) Tryz.func78 rfl 60 rfl ?_;unfold checkG;refine run ?_;refine call (den_CheckORef r.ofs h.ofs) ?_;by_cases e1:(checkO r.ofs).2=0
 case neg=>
  simp only[fstE,ne_eq,e1,not_false_eq_true,if_true];refine runW e1 ?_;exact fin rfl
 refine runW e1 ?_;refine call (den_CheckRef r.pls h.pls) ?_;by_cases e2:(check r.pls).2=0
 case neg=>
  simp only[fstE,ne_eq,e2,not_false_eq_true,not_true,if_true,if_false];refine runW e2 ?_;exact fin rfl
 refine runW e2 ?_;refine call (den_CheckFRef r.ofs r.pls r.fls h.ofs h.pls h.fls) ?_;by_cases e3:(checkF r.ofs r.pls r.fls).2=0
 case neg=>
  simp only[fstE,ne_eq,e3,not_false_eq_true,not_true,if_true,if_false];refine runW e3 ?_;exact fin rfl
 refine runW e3 ?_;refine call (den_CheckRRef r.rls h.rls) ?_;by_cases e4:(checkR r.rls).2=0
 case neg=>
  simp only[fstE,ne_eq,e4,not_false_eq_true,not_true,if_true,if_false];refine runW e4 ?_;exact fin rfl
 refine runW e4 ?_;refine call (den_CheckHRef r.hls h.hls) ?_;by_cases e5:(checkH r.hls).2=0
 case neg=>
  simp only[fstE,ne_eq,e5,not_false_eq_true,not_true,if_true,if_false];refine runW e5 ?_;exact fin rfl
 refine runW e5 ?_;refine call (den_selections11 L r h) ?_;by_cases e6:listE r.fls [] (selE r)=0
 case neg=>
  simp only[fstE,ne_eq,e6,not_false_eq_true,not_true,if_true,if_false];refine runW e6 ?_;exact fin rfl
 refine runW e6 ?_;refine call (den_certificates11 L r h) ?_;by_cases e7:listE r.fls (selE r) (crtE r)=0
 case neg=>
  simp only[fstE,ne_eq,e7,not_false_eq_true,not_true,if_true,if_false];refine runW e7 ?_;exact fin rfl
 refine runW e7 ?_;refine call (den_departures11 L r h) ?_;by_cases e8:listE r.fls (selE r++crtE r) (depE r)=0
 ·simp only[fstE,ne_eq,e8,not_true,if_false];refine runW e8 ?_;exact fin rfl
 ·simp only[fstE,ne_eq,e8,not_false_eq_true,not_true,if_true,if_false];refine runW e8 ?_;exact fin rfl
end Go.Arc
set_option maxRecDepth 100000
namespace Go.Arc
open Go.Ab Go.RowKit Go.Proofs
variable {T : Lay}
end Go.Arc
