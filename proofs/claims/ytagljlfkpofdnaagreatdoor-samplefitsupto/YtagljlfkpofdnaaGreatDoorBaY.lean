/- A part of this claim. -/
import Derived.Test.YtagljlfkpofdnaaGreatDoorBaX
set_option maxRecDepth 100000
namespace Go.Arc
open Go.Ab Go.RowKit Go.Proofs
variable {T : Lay}
abbrev vint (n:Int):V:=vi n
theorem den_lessI (a b:Int):Den Tryz.prog T 51 [vi a,vi b] (vb (decide (a<b))):=by
 refine den_of_body follows (fun args w=>Tryz.call51 args w) Tryz.func51 rfl 17 rfl ?_;refine run ?_;refine call (den_isNaN a) ?_;refine run ?_;exact fin rfl
theorem den_sortedI (l:List Int) (hl:l.length<=1048576):Den Tryz.prog T 16 [ints l] (vb (srtI l)):=by
 refine den_of_body follows (fun args w=>Tryz.call16 args w) Tryz.func16 rfl 21 rfl ?_;refine run ?_
 refine loop ⟨[0,3],[],[],[]⟩ (fun i:Int=> -1<=i/\i+1<=l.length/\∀j:Nat,i<j->j<l.length->backI l j=false) (fun i=>(i+1).toNat)
  (fun i=>⟨21,[(0,.v (ints l)),(3,.v (vi i))],[],[]⟩) ((l.length:Int)-1) ⟨by omega,by omega,fun j h1 h2=>by omega⟩ ?_
 rintro i ⟨h1,h2,hall⟩;by_cases hpos:0<i
 ·obtain ⟨k,rfl⟩:∃k:Nat,i=k:=⟨i.toNat,by omega⟩;obtain ⟨y,hy,-,-⟩:=drop_at (l:=l) (k:=k) (by omega);obtain ⟨x,hx,-,-⟩:=drop_at (l:=l) (k:=k-1) (by omega);have he:=backI_s (show k≠0 by omega) hx hy;refine runW (And.intro hx hy) ?_;refine call (den_lessI y x) ?_;by_cases hlt:y<x
  ·rw[srtI_at (show k<l.length by omega) (by rw[he]; simp[hlt])];refine run ?_;exact fin rfl
  ·refine run ?_;refine round ((k:Int)-1) ⟨by omega,by omega,fun j g1 g2=> ?_⟩ (by omega);by_cases e:j=k
   ·rw[e,he]; simp[hlt]
   ·exact hall j (by omega) g2
 ·rw[srtI_end fun j hj=>by
   by_cases h0:j=0
   ·rw[h0]; exact backI_0 l
   ·exact hall j (by omega) hj]
  refine run ?_;exact fin rfl
theorem denN_cloneInt (l:List Int) (hl:l.length<=1048576):DenN Tryz.prog T 177 [ints l] 1 (l.map Cint):=by
 refine denN_of_body follows (fun args w=>Tryz.call177 args w) Tryz.func177 rfl 8 rfl ?_;cases l with
 | nil=>
  refine run ?_;intro b;cases b
  ·refine run ?_;exact finN0 rfl (.refl _)
  ·refine run ?_;exact finN0 rfl (.nil 1)
 | cons x r=>
  have h:r.length+1<=1048576:=hl;have e:ints (x::r)= .slice 1 (Cint x::r.map Cint):=rfl;rw[e];refine runB trivial ?_;refine appO_l ?_;refine run ?_;refine finN (id:=7) [] ?_ ?_
  ·simp only[σ_mk,look_cons',↓reduceIte,List.length_map,List.length_cons,List.map_cons]
  ·rw[List.append_nil]; rfl
def cellC (l:List Int) (m:Nat):List V:=(compI (l.take m)++l.drop (compI (l.take m)).length).map vint
theorem cellC_len (l:List Int) (m:Nat) (h:m<=l.length):(cellC l m).length=l.length:=by
 have:=compI_len l m;unfold cellC;rw[List.length_map,List.length_append,List.length_drop];omega
theorem cellC_take (l:List Int) (m:Nat):(cellC l m).take (compI (l.take m)).length=(compI (l.take m)).map vint:=by
 unfold cellC;rw[<- List.map_take,List.take_left]
theorem cellC_drop (l:List Int) (m i:Nat) (h:(compI (l.take m)).length<=i):(cellC l m).drop i=(l.drop i).map vint:=by
 unfold cellC;rw[<- List.map_drop,List.drop_append];rw[List.drop_eq_nil_of_le h,List.nil_append,List.drop_drop];congr 2;omega
theorem cellC_put (l:List Int) (m:Nat) {x:Int} (_hx:l[m]? = some x) (_h:(compI (l.take m)).length+1<=m) (hd:compI (l.take (m+1))=compI (l.take m)++[x]):
  (cellC l m).take (compI (l.take m)).length++[vi x]++(cellC l m).drop ((compI (l.take m)).length+1)=cellC l (m+1):=by
 rw[cellC_take,cellC_drop l m _ (Nat.le_succ _)];unfold cellC;rw[hd,List.map_append,List.map_append,List.length_append];rfl
theorem denM_compact (l:List Int) (hl:l.length<=1048576) (h0:l≠[]):DenM Tryz.prog T 176 (l.map vint) [.s 999999 0 l.length 1] ((compI l).map vint) (.s 999999 0 (compI l).length 1):=by
 have hlen:0<l.length:=List.length_pos_iff.2 h0;have hml:(l.map vint).length=l.length:=List.length_map _;refine denM_of_body follows (fun args w=>Tryz.call176 args w) Tryz.func176 rfl 61 rfl rfl ?_;obtain ⟨x0,hx0,-,-⟩:=drop_at hlen;by_cases h2:l.length<2
 ·have e1:l.take 1=l:=List.take_of_length_le (by omega);have e2:=compI_one hx0;rw[e1] at e2
  have e3:compI l=l:=by
   rw[e2]
   match l,hx0,h2 with
   | [a],hx,_=>simp at hx; rw[hx]
  rw[e3];refine run ?_;exact finM0 (.refl _)
 ·refine run ?_
  refine loop ⟨[0,3],[999999],[],[]⟩ (fun k:Nat=>1<=k/\k<=l.length/\compI (l.take k)=l.take k) (fun k=>l.length-k)
   (fun k=>⟨61,[(0,.s 999999 0 l.length 1),(3,.v (vi k))],[(999999,.var (l.map vint))],[]⟩) 1 ⟨by omega,by omega,by rw[compI_one hx0]; rw[take_snocI hx0]; rfl⟩ ?_
  rintro k ⟨hk1,hk,hall⟩;by_cases hlt:k<l.length
  ·obtain ⟨x,hx,hd,-⟩:=drop_at hlt;obtain ⟨y,hy,hdy,-⟩:=drop_at (l:=l) (k:=k-1) (by omega);have hd':(l.map vint).drop k=vi x::(l.drop (k+1)).map vint:=by rw[<- List.map_drop,hd]; rfl
   have hdy':(l.map vint).drop (k-1)=vi y::(l.drop (k-1+1)).map vint:=by rw[<- List.map_drop,hdy]; rfl
   by_cases hxy:x=y
   ·have hk0:compI (l.take (k+1))=l.take k:=by rw[compI_same hk1 hy hx hxy,hall]
    have hlk:(l.take k).length=k:=by rw[List.length_take]; omega
    have hcell:l.map vint=cellC l (k+1):=by unfold cellC; rw[hk0,hlk,List.take_append_drop]
    have hc1:(compI (l.take (k+1))).length=k:=by rw[hk0,hlk]
    refine runW (And.intro hd' (And.intro hdy' hxy)) ?_
    refine loop ⟨[0,3,4,5],[999999],[],[]⟩ (fun z:Nat=>1<=z/\k+z<=l.length/\(compI (l.take (k+z))).length+1<=k+z/\1<=(compI (l.take (k+z))).length) (fun z=>l.length-z)
     (fun z=>⟨61,[(0,.s 999999 0 l.length 1),(3,.v (vi (compI (l.take (k+z))).length)),(4,.s 999999 k (l.length-k) 1),(5,.v (vi z))],[(999999,.var (cellC l (k+z)))],[]⟩) 1 ⟨Nat.le_refl 1,hlt,by rw[hc1]; omega,by rw[hc1]; exact hk1⟩ ?_ (by rw[hcell,hc1]; rfl)
    rintro z ⟨hz1,hz2,hz3,hz4⟩;have hlen2:=cellC_len l (k+z) hz2;have hend:=cellC_take l (k+z);have hput:=fun {x:Int} (h:l[k+z]? = some x)=>cellC_put l (k+z) h hz3;by_cases hzl:k+z<l.length
    ·obtain ⟨u,hu,hdu,-⟩:=drop_at hzl;obtain ⟨v,hv,hdv,-⟩:=drop_at (l:=l) (k:=k+z-1) (by omega);have hdu':=cellC_drop l (k+z) (k+z) (by omega);have hdv':=cellC_drop l (k+z) (k+z-1) (by omega);rw[hdu,List.map_cons] at hdu';rw[hdv,List.map_cons] at hdv';have hput':=hput hu;by_cases huv:u=v
     ·have hsame:cellC l (k+(z+1))=cellC l (k+z):=by unfold cellC; rw[show k+(z+1)=k+z+1 by omega,compI_same (by omega) hv hu huv]
      have hsame2:compI (l.take (k+(z+1)))=compI (l.take (k+z)):=by rw[show k+(z+1)=k+z+1 by omega,compI_same (by omega) hv hu huv]
      obtain ⟨Cs,hCs⟩:∃Cs,cellC l (k+z)=Cs:=⟨_,rfl⟩;obtain ⟨c,hc⟩:∃c,(compI (l.take (k+z))).length=c:=⟨_,rfl⟩;rw[hCs] at hdu' hdv' hlen2 hsame;rw[hc] at hz3 hz4;rw[hCs,hc];have hix:k+z-1=k+(z-1):=by omega
      rw[hix] at hdv';refine runW (And.intro hdu' (And.intro hdv' huv)) ?_;refine round (z+1) ⟨by omega,by omega,by rw[hsame2,hc]; omega,by rw[hsame2,hc]; exact hz4⟩ (by omega) ?_;rw[hsame,hsame2,hc];rfl
     ·have hdiff:compI (l.take (k+(z+1)))=compI (l.take (k+z))++[u]:=by rw[show k+(z+1)=k+z+1 by omega,compI_diff (by omega) hv hu huv]
      have hput'':=hput' (by rw[show k+z+1=k+(z+1) by omega]; exact hdiff);rw[show k+z+1=k+(z+1) by omega] at hput'';obtain ⟨Cs,hCs⟩:∃Cs,cellC l (k+z)=Cs:=⟨_,rfl⟩;obtain ⟨c,hc⟩:∃c,(compI (l.take (k+z))).length=c:=⟨_,rfl⟩;rw[hCs] at hdu' hdv' hlen2 hput'';rw[hc] at hz3 hz4 hput'';rw[hCs,hc];have hdl:(compI (l.take (k+(z+1)))).length=c+1:=by rw[hdiff,List.length_append,hc]; rfl
      have hix:k+z-1=k+(z-1):=by omega
      rw[hix] at hdv';refine runW (And.intro hdu' (And.intro hdv' (eq_false huv))) ?_;refine round (z+1) ⟨by omega,by omega,by rw[hdl]; omega,by rw[hdl]; omega⟩ (by omega) ?_;rw[hdl,<- hput''];rfl
    ·have hkz:k+z=l.length:=by omega
     rw[hkz,List.take_length] at hend hz3 hz4;rw[hkz] at hlen2;rw[hkz,List.take_length];have hcl:((compI l).map vint).length=(compI l).length:=List.length_map _;obtain ⟨Cs,hCs⟩:∃Cs,cellC l l.length=Cs:=⟨_,rfl⟩;obtain ⟨c,hc⟩:∃c,(compI l).length=c:=⟨_,rfl⟩;rw[hCs] at hend hlen2;rw[hc] at hz3 hz4 hend;rw[hCs,hc];refine runW hend ?_;exact finM0 (.refl _)
   ·refine runW (And.intro hd' (And.intro hdy' (eq_false hxy))) ?_;exact round (k+1) ⟨by omega,by omega,by rw[compI_diff hk1 hy hx hxy,hall,take_snocI hx]⟩ (by omega)
  ·have hkl:k=l.length:=by omega
   subst hkl;rw[List.take_length] at hall;rw[hall];refine run ?_;exact finM0 (.refl _)
end Go.Arc
set_option maxRecDepth 100000
namespace Go.Arc
open Go.Ab Go.RowKit Go.Proofs
variable {T : Lay}
def lowE (r:Rgs):Nat->Int×Int
 | 0=>checkO r.ofs
 | 1=>check r.pls
 | 2=>checkF r.ofs r.pls r.fls
 | 3=>checkR r.rls
 | _=>checkH r.hls
def listsE (r:Rgs):Int:=fstE [(checkO r.ofs).2,(check r.pls).2,(checkF r.ofs r.pls r.fls).2,(checkR r.rls).2,(checkH r.hls).2]
theorem den_lists1 (L:LibC T) (r:Rgs) (h:r.Fit):Den Tryz.prog T 167 [.row r.cs] (chkV (checkO r.ofs)):=by
 refine den_of_body follows (fun args w=>Tryz.call167 args w) Tryz.func167 rfl 8 rfl ?_;refine run ?_;refine call (den_CheckO L r.ofs h.ofs) ?_;refine run ?_;exact fin rfl
theorem den_lists2 (L:LibC T) (r:Rgs) (h:r.Fit):Den Tryz.prog T 169 [.row r.cs] (chkV (check r.pls)):=by
 refine den_of_body follows (fun args w=>Tryz.call169 args w) Tryz.func169 rfl 8 rfl ?_;refine run ?_;refine call (den_CheckL L r.pls h.pls) ?_;refine run ?_;exact fin rfl
theorem den_lists3 (L:LibC T) (r:Rgs) (h:r.Fit):Den Tryz.prog T 170 [.row r.cs] (chkV (checkF r.ofs r.pls r.fls)):=by
 refine den_of_body follows (fun args w=>Tryz.call170 args w) Tryz.func170 rfl 12 rfl ?_;refine run ?_;refine call (den_CheckF L r.ofs r.pls r.fls h.ofs h.pls h.fls) ?_;refine run ?_;exact fin rfl
theorem den_lists4 (L:LibC T) (r:Rgs) (h:r.Fit):Den Tryz.prog T 172 [.row r.cs] (chkV (checkR r.rls)):=by
 refine den_of_body follows (fun args w=>Tryz.call172 args w) Tryz.func172 rfl 8 rfl ?_;refine run ?_;refine call (den_CheckR L r.rls h.rls) ?_;refine run ?_;exact fin rfl
theorem den_lists5 (L:LibC T) (r:Rgs) (h:r.Fit):Den Tryz.prog T 174 [.row r.cs] (chkV (checkH r.hls)):=by
 refine den_of_body follows (fun args w=>Tryz.call174 args w) Tryz.func174 rfl 8 rfl ?_;refine run ?_;refine call (den_CheckH L r.hls h.hls) ?_;refine run ?_;exact fin rfl
theorem fst_at (c:Nat->Int×Int):∀(n k m:Nat),k<n->(∀j,j<k->(c (m+j)).2=0)->(c (m+k)).2≠0->fstE ((List.range' m n).map fun j=>(c j).2)=(c (m+k)).2
 | 0,k,m,hk,_,_=>absurd hk (Nat.not_lt_zero k)
 | n+1,k,m,hk,h,hb=>by
  rw[List.range'_succ,List.map_cons];unfold fstE;cases k with
  | zero=>exact if_pos hb
  | succ k=>
   rw[if_neg (by have:=h 0 (by omega); simpa using this)];rw[fst_at c n k (m+1) (by omega) (fun j hj=>by rw[show m+1+j=m+(j+1) by omega]; exact h (j+1) (by omega)) (by rw[show m+1+k=m+(k+1) by omega]; exact hb)];rw[show m+1+k=m+(k+1) by omega]
theorem fst_end (c:Nat->Int×Int):∀(n m:Nat),(∀j,j<n->(c (m+j)).2=0)->fstE ((List.range' m n).map fun j=>(c j).2)=0
 | 0,m,_=>rfl
 | n+1,m,h=>by
  rw[List.range'_succ,List.map_cons];unfold fstE;rw[if_neg (by have:=h 0 (by omega); simpa using this)];exact fst_end c n (m+1) fun j hj=>by rw[show m+1+j=m+(j+1) by omega]; exact h (j+1) (by omega)
theorem den_lists (L:LibC T) (r:Rgs) (h:r.Fit):Den Tryz.prog T 118 [.agg r.cs] (vi (listsE r)):=by
 have hrows:∀k,k<5->∃g,[[V.func 167 [.row r.cs]],[V.func 169 [.row r.cs]],[V.func 170 [.row r.cs]],[V.func 172 [.row r.cs]],[V.func 174 [.row r.cs]]][k]? = some [.func g [.row r.cs]]/\Den Tryz.prog T g [.row r.cs] (chkV (lowE r k)):=fun k hk=>by
  match k,hk with
  | 0,_=>exact ⟨_,rfl,den_lists1 L r h⟩
  | 1,_=>exact ⟨_,rfl,den_lists2 L r h⟩
  | 2,_=>exact ⟨_,rfl,den_lists3 L r h⟩
  | 3,_=>exact ⟨_,rfl,den_lists4 L r h⟩
  | 4,_=>exact ⟨_,rfl,den_lists5 L r h⟩
 have hE:listsE r=fstE ((List.range' 0 5).map fun j=>(lowE r j).2):=rfl;rw[hE];obtain ⟨c,hc⟩:∃c,lowE r=c:=⟨_,rfl⟩;rw[hc] at hrows ⊢;refine den_of_body follows (fun args w=>Tryz.call118 args w) Tryz.func118 rfl 29 rfl ?_;refine run ?_;obtain ⟨R,hR⟩:∃R,[[V.func 167 [.row r.cs]],[V.func 169 [.row r.cs]],[V.func 170 [.row r.cs]],[V.func 172 [.row r.cs]],[V.func 174 [.row r.cs]]]=R:=⟨_,rfl⟩;have hRl:R.length=5:=by rw[<- hR]; rfl
 rw[hR] at hrows
 refine loop ⟨[2,14,15,16],[],[],[]⟩ (fun k:Nat=>k<=5/\∀j,j<k->(c j).2=0) (fun k=>5-k)
  (fun k=>⟨29,[(2,.v (vi 0)),(14,.v (.slice 1 R)),(15,.v (vi 5)),(16,.v (vi k))],[],[]⟩) 0 ⟨by decide,fun j hj=>absurd hj (Nat.not_lt_zero j)⟩ ?_ (by rw[<- hR]; rfl)
 rintro k ⟨hk,hall⟩;by_cases hlt:k<5
 ·obtain ⟨g,hg,hden⟩:=hrows k hlt;have hkR:k<R.length:=by omega
  refine runW hg ?_;refine call hden ?_;by_cases hz:(c k).2=0
  ·refine runW hz ?_;refine round (k+1) ⟨hlt,fun j hj=> ?_⟩ (by omega);by_cases hjk:j=k
   ·subst hjk; exact hz
   ·exact hall j (by omega)
  ·refine runW hz ?_;refine fin (vi_eq ?_);have:=fst_at c 5 k 0 hlt (fun j hj=>by rw[Nat.zero_add]; exact hall j hj) (by rw[Nat.zero_add]; exact hz);rw[this,Nat.zero_add]
 ·refine run ?_;refine fin (vi_eq ?_);exact (fst_end c 5 0 fun j hj=>by rw[Nat.zero_add]; exact hall j (by omega)).symm
end Go.Arc
set_option maxRecDepth 100000
namespace Go.Arc
open Go.Ab Go.RowKit Go.Proofs
variable {T : Lay}
theorem argsV {κ:List (Nat×Nat)} {h:List (Nat×Blk)} : ∀l:List V,ArgsM κ h (l.map .v) (l.map .v)
 | []=> .nil
 | x::l=> .cons (.v x) (argsV l)
theorem finSm {P:Program} {rs:List ResultVar} {i:Nat} {es:List (V×V)} {nm:Option Nat} {r r':TV} {st:St} (h3:WkT r' r) (hB:Go.Ab.look i st.h=some (.map es nm):=by rfl) (h2:resT P st rs=some r':=by rfl):fpostS P rs [(i,.map es nm)] [] r .rt st:=
 finS (fun x hx=>by simp only[List.mem_singleton] at hx; subst hx; exact ⟨_,hB,.map (.inr rfl)⟩) h3 h2
theorem hasF_find (l:List Fil) (n:Int):decide (findF l n<0)= !hasF l n:=by
 unfold findF hasF;have:=ix_ge (isIdF n) l;cases h:l.any (isIdF n) with
 | true=>
  rw[h] at this;have h2:(l.any fun f=>decide (f.id=n))=true:=h;rw[h2];simp at this ⊢;omega
 | false=>
  rw[h] at this;have h2:(l.any fun f=>decide (f.id=n))=false:=h;rw[h2];simp at this ⊢;omega
theorem den_isDay11 (d:Int):Den Tryz.prog T 178 [vi d] (vb (dayG d)):=by
 refine den_of_body follows (fun args w=>Tryz.call178 args w) Tryz.func178 rfl 9 rfl ?_;unfold dayG;by_cases h:0<=d
 ·by_cases h2:d<=1048575
  ·refine runW (And.intro (eq_true h) (eq_true h2)) ?_;exact fin rfl
  ·refine runW (And.intro (eq_true h) (eq_false h2)) ?_;exact fin rfl
 ·refine runW (eq_false h) ?_;exact fin rfl
theorem den_elements1 (r:Rgs) (h:r.Fit) (f:Int):Den Tryz.prog T 179 [vi f,.row r.cs] (vb (!hasF r.fls f)):=by
 have hl:=h.fls.1;refine den_of_body follows (fun args w=>Tryz.call179 args w) Tryz.func179 rfl 9 rfl ?_;refine run ?_;refine call (den_FindF r.fls f hl) ?_;refine run ?_;exact fin (vb_eq (hasF_find r.fls f))
abbrev gBlk (ps:List (Int×Bool)) (b:Nat):List (Nat×Blk):=[(999000,.map (mapG ps) (some b))]
instance:TZV Tryz.prog 4 (.bool false):=⟨by kernel_rfl⟩
theorem den_elements2 (ps:List (Int×Bool)) (b:Nat) (f:Int):DenS Tryz.prog T 180 (gBlk ps b) [] [.v (vi f),.v (.row [.val (.map (some b))])] (gBlk ps b) [] (.v (vb (getG ps f))):=by
 have hf:=find_mapG f ps;have hg:=findG_get ps f;refine denS_of_body follows (fun args w=>Tryz.call180 args w) Tryz.func180 rfl 7 rfl rfl ?_;refine runW (And.intro hf hg) ?_;exact finSm (.v (.refl _))
theorem denS_ixInt (l:List Int) (f:FuncId) (cap:List V) (p:Int->Bool) (ps:List (Int×Bool)) (b:Nat) (hl:l.length<=1048576) (hp:∀e∈l,DenS Tryz.prog T f (gBlk ps b) [] (.v (vi e)::cap.map .v) (gBlk ps b) [] (.v (vb (p e)))):
   DenS Tryz.prog T 61 (gBlk ps b) [] [.v (ints l),.v (.func f cap)] (gBlk ps b) [] (.v (vi (ix p l))):=by
  refine denS_of_body follows (fun args w=>Tryz.call61 args w) Tryz.func61 rfl 19 rfl rfl ?_;refine run ?_
  refine loop ⟨[0,1,7,8],[999000],[],[]⟩ (fun k:Nat=>k<=l.length/\∀e∈l.take k,p e=false) (fun k=>l.length-k)
    (fun k=>⟨19,[(0,.v (ints l)),(1,.v (.func f cap)),(7,.v (vi l.length)),(8,.v (vi k))],gBlk ps b,[]⟩) 0 ⟨by omega,by simp⟩ ?_
  rintro k ⟨hk,hall⟩;by_cases hlt:k<l.length
  · obtain ⟨x,hx,-,hm⟩:=drop_at hlt;refine runW hx ?_;refine callX (callS [(999000,999000)] (hp x hm) (.cons (.v _) (argsV cap)) ?_ ?_)
    · intro y hy;simp only[List.mem_singleton] at hy;subst hy;exact ⟨999000,_,rfl,rfl,rfl,.inr rfl,rfl⟩
    cases hpc:p x
    · refine run ?_;exact round (k+1) ⟨by omega,take_snoc hall hx hpc⟩ (by omega)
    · refine run ?_;rw[<- ix_at hall hx hpc];exact finSm (.v (.refl _))
  · refine run ?_;rw[<- ix_none hall hlt];exact finSm (.v (.refl _))
theorem denS_anyInt (l:List Int) (f:FuncId) (cap:List V) (p:Int->Bool) (ps:List (Int×Bool)) (b:Nat) (hl:l.length<=1048576) (hp:∀e∈l,DenS Tryz.prog T f (gBlk ps b) [] (.v (vi e)::cap.map .v) (gBlk ps b) [] (.v (vb (p e)))):
   DenS Tryz.prog T 23 (gBlk ps b) [] [.v (ints l),.v (.func f cap)] (gBlk ps b) [] (.v (vb (l.any p))):=by
  refine denS_of_body follows (fun args w=>Tryz.call23 args w) Tryz.func23 rfl 9 rfl rfl ?_;refine run ?_;refine callX (callS [(999000,999000)] (denS_ixInt l f cap p ps b hl hp) (.cons (.v _) (.cons (.v _) .nil)) ?_ ?_)
  · intro y hy;simp only[List.mem_singleton] at hy;subst hy;exact ⟨999000,_,rfl,rfl,rfl,.inr rfl,rfl⟩
  refine run ?_;refine finSm (.v (.of (vb_eq ?_)));exact ix_ge p l
theorem den_compact0:Den Tryz.prog T 176 [ints []] (ints []):=by
 refine den_of_body follows (fun args w=>Tryz.call176 args w) Tryz.func176 rfl 61 rfl ?_;refine run ?_;exact fin rfl
theorem any_eqI (l:List Int) (p q:Int->Bool) (h:∀x∈l,p x=q x):l.any p=l.any q:=by
 induction l with
 | nil=>rfl
 | cons x r ih=>rw[List.any_cons,List.any_cons,h x (.head _),ih fun y hy=>h y (.tail _ hy)]
theorem any_notF (fs:List Fil) (l:List Int):(l.any fun f=> !hasF fs f)= !(l.all (hasF fs)):=by
 induction l with
 | nil=>rfl
 | cons x r ih=>rw[List.any_cons,List.all_cons,ih]; cases hasF fs x <;> rfl
def psAt (ps:List (Int×Bool)) (l:List Elm) (k:Nat):List (Int×Bool):=(l.take k).foldl (fun ps x=>addG ps x.fls x.gone) ps
theorem psAt_succ (ps:List (Int×Bool)) {l:List Elm} {k:Nat} {x:Elm} (h:l[k]? = some x):psAt ps l (k+1)=addG (psAt ps l k) x.fls x.gone:=by
 unfold psAt;rw[take_snocE h,List.foldl_append];rfl
theorem one_map' (o:Option Nat):((Value.map o).oneCell'=true)=True:=eq_true rfl
end Go.Arc
set_option maxRecDepth 100000
namespace Go.Arc
open Go.Ab Go.RowKit Go.Proofs
variable {T : Lay}
end Go.Arc
set_option maxRecDepth 100000
namespace Go.Arc
open Go.Ab Go.RowKit Go.Proofs
variable {T : Lay}
end Go.Arc
set_option maxRecDepth 100000
namespace Go.Arc
open Go.Ab Go.RowKit Go.Proofs
variable {T : Lay}
end Go.Arc
