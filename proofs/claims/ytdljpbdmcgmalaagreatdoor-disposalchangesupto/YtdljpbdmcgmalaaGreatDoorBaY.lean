/- A part of this claim. -/
import Derived.Test.YtdljpbdmcgmalaaGreatDoorBaX
set_option maxRecDepth 100000
namespace Go.Arc
open Go.Ab Go.RowKit Go.Proofs Tryz
variable {T : Lay}
abbrev vint (n:Int):V:=vi n
theorem den_lessI (a b:Int):Den prog T 215 [vi a,vi b] (vb (decide (a<b))):=by
 refine ja0 call215 func215 17 ?_;refine rc (jpy a) ?_;exact za
theorem den_sortedI (l:List Int) (hl:l.length<=1048576):Den prog T 152 [ints l] (vb (srtI l)):=by
 refine ja0 call152 func152 21 ?_;refine run ?_;refine jb6 ⟨[3,0],[],[],[]⟩ (fun i:Int=> -1<=i/\i+1<=l.length/\∀j:Nat,i<j->j<l.length->jgi l j=false) (fun i=>(i+1).toNat) (fun i=>[(3,.v (vi i))]) ((l.length:Int)-1) ⟨om,om,fun j h1 h2=>by omega⟩ ?_;rintro i ⟨h1,h2,hall⟩;by_cases hpos:0<i
 ·obtain ⟨k,rfl⟩:∃k:Nat,i=k:=⟨i.toNat,om⟩;obtain ⟨y,hy,-,-⟩:=ja1 (l:=l) (k:=k) om;obtain ⟨x,hx,-,-⟩:=ja1 (l:=l) (k:=k-1) om;have he:=backI_s (show k≠0 by omega) hx hy;refine rcW (ai hx hy) (den_lessI y x) ?_;by_cases hlt:y<x
  ·rw[srtI_at (show k<l.length by omega) (by rw[he]; simp[hlt])];exact za
  ·refine run ?_;refine round ((k:Int)-1) ⟨om,om,fun j g1 g2=> ?_⟩ om;by_cases e:j=k
   ·rw[e,he]; simp[hlt]
   ·exact hall j om g2
 ·rw[srtI_end fun j hj=>by
   by_cases h0:j=0
   ·rw[h0]; exact backI_0 l
   ·exact hall j om hj]
  exact za
theorem jqr (l:List Int) (hl:l.length<=1048576):DenN prog T 48 [ints l] 1 (l.map Cint):=by
 refine jr2 follows (fun args w=>call48 args w) func48 rfl 8 rfl ?_;cases l with
 | nil=>
  refine run ?_;intro b;cases b
  ·refine run ?_;exact finN0 rfl (.refl _)
  ·refine run ?_;exact finN0 rfl (.nil 1)
 | cons x r=>
  have h:r.length+1<=1048576:=hl;have e:ints (x::r)= .slice 1 (Cint x::r.map Cint):=rfl;rw[e];refine runB trivial ?_;refine appO_l ?_;refine run ?_;refine finN (id:=7) [] ?_ ?_
  ·simp only[σ_mk,jah,↓reduceIte,List.length_map,List.length_cons,List.map_cons]
  ·rw[List.append_nil]; rfl
def jd8 (l:List Int) (m:Nat):List V:=(jao (l.take m)++l.drop (jao (l.take m)).length).map vint
theorem cellC_len (l:List Int) (m:Nat) (h:m<=l.length):(jd8 l m).length=l.length:=by
 have:=jq3 l m;unfold jd8;rw[List.length_map,List.length_append,List.length_drop];omega
theorem cellC_take (l:List Int) (m:Nat):(jd8 l m).take (jao (l.take m)).length=(jao (l.take m)).map vint:=by
 unfold jd8;rw[<- List.map_take,List.take_left]
theorem jp5 (l:List Int) (m i:Nat) (h:(jao (l.take m)).length<=i):(jd8 l m).drop i=(l.drop i).map vint:=by
 unfold jd8;rw[<- List.map_drop,List.drop_append];rw[List.drop_eq_nil_of_le h,List.nil_append,List.drop_drop];congr 2;omega
theorem cellC_put (l:List Int) (m:Nat) {x:Int} (_hx:l[m]? = some x) (_h:(jao (l.take m)).length+1<=m) (hd:jao (l.take (m+1))=jao (l.take m)++[x]):
  (jd8 l m).take (jao (l.take m)).length++[vi x]++(jd8 l m).drop ((jao (l.take m)).length+1)=jd8 l (m+1):=by
 rw[cellC_take,jp5 l m _ (Nat.le_succ _)];unfold jd8;rw[hd,List.map_append,List.map_append,List.length_append];rfl
theorem denM_compact (l:List Int) (hl:l.length<=1048576) (h0:l≠[]):DenM prog T 153 (l.map vint) [.s 999999 0 l.length 1] ((jao l).map vint) (.s 999999 0 (jao l).length 1):=by
 have hlen:0<l.length:=List.length_pos_iff.2 h0;have hml:(l.map vint).length=l.length:=List.length_map _;refine jlt follows (fun args w=>call153 args w) func153 rfl 61 rfl rfl ?_;obtain ⟨x0,hx0,-,-⟩:=ja1 hlen;by_cases h2:l.length<2
 ·have e1:l.take 1=l:=List.take_of_length_le om;have e2:=jq2 hx0;rw[e1] at e2
  have e3:jao l=l:=by
   rw[e2]
   match l,hx0,h2 with
   | [a],hx,_=>simp at hx; rw[hx]
  rw[e3];refine run ?_;exact zeg
 ·refine run ?_;refine jb6 ⟨[3,0],[999999],[],[]⟩ (fun k:Nat=>1<=k/\k<=l.length/\jao (l.take k)=l.take k) (fun k=>l.length-k) (fun k=>[(3,.v (vi k))]) 1 ⟨om,om,by rw[jq2 hx0]; rw[jm5 hx0]; rfl⟩ ?_;rintro k ⟨hk1,hk,hall⟩;by_cases hlt:k<l.length
  ·obtain ⟨x,hx,hd,-⟩:=ja1 hlt;obtain ⟨y,hy,hdy,-⟩:=ja1 (l:=l) (k:=k-1) om;have hd':(l.map vint).drop k=vi x::(l.drop (k+1)).map vint:=by rw[<- List.map_drop,hd]; rfl
   have hdy':(l.map vint).drop (k-1)=vi y::(l.drop (k-1+1)).map vint:=by rw[<- List.map_drop,hdy]; rfl
   by_cases hxy:x=y
   ·have hk0:jao (l.take (k+1))=l.take k:=by rw[jmk hk1 hy hx hxy,hall]
    have hlk:(l.take k).length=k:=by rw[List.length_take]; omega
    have hcell:l.map vint=jd8 l (k+1):=by unfold jd8; rw[hk0,hlk,List.take_append_drop]
    have hc1:(jao (l.take (k+1))).length=k:=by rw[hk0,hlk]
    refine runW (ai hd' (ai hdy' hxy)) ?_
    refine loop ⟨[0,3,4,5],[999999],[],[]⟩ (fun z:Nat=>1<=z/\k+z<=l.length/\(jao (l.take (k+z))).length+1<=k+z/\1<=(jao (l.take (k+z))).length) (fun z=>l.length-z)
     (fun z=>⟨61,[(0,.s 999999 0 l.length 1),(3,.v (vi (jao (l.take (k+z))).length)),(4,.s 999999 k (l.length-k) 1),(5,.v (vi z))],[(999999,.var (jd8 l (k+z)))],[]⟩) 1 ⟨Nat.le_refl 1,hlt,by rw[hc1]; omega,by rw[hc1]; exact hk1⟩ ?_ (by rw[hcell,hc1]; rfl)
    rintro z ⟨hz1,hz2,hz3,hz4⟩;have hlen2:=cellC_len l (k+z) hz2;have hend:=cellC_take l (k+z);have hput:=fun {x:Int} (h:l[k+z]? = some x)=>cellC_put l (k+z) h hz3;by_cases hzl:k+z<l.length
    ·obtain ⟨u,hu,hdu,-⟩:=ja1 hzl;obtain ⟨v,hv,hdv,-⟩:=ja1 (l:=l) (k:=k+z-1) om;have hdu':=jp5 l (k+z) (k+z) om;have hdv':=jp5 l (k+z) (k+z-1) om;rw[hdu,List.map_cons] at hdu';rw[hdv,List.map_cons] at hdv';have hput':=hput hu;by_cases huv:u=v
     ·have hsame:jd8 l (k+(z+1))=jd8 l (k+z):=by unfold jd8; rw[show k+(z+1)=k+z+1 by omega,jmk om hv hu huv]
      have hsame2:jao (l.take (k+(z+1)))=jao (l.take (k+z)):=by rw[show k+(z+1)=k+z+1 by omega,jmk om hv hu huv]
      obtain ⟨Cs,hCs⟩:∃Cs,jd8 l (k+z)=Cs:=⟨_,rfl⟩;obtain ⟨c,hc⟩:∃c,(jao (l.take (k+z))).length=c:=⟨_,rfl⟩;rw[hCs] at hdu' hdv' hlen2 hsame;rw[hc] at hz3 hz4;rw[hCs,hc];have hix:k+z-1=k+(z-1):=om
      rw[hix] at hdv';refine runW (ai hdu' (ai hdv' huv)) ?_;refine round (z+1) ⟨om,om,by rw[hsame2,hc]; omega,by rw[hsame2,hc]; exact hz4⟩ om ?_;rw[hsame,hsame2,hc];rfl
     ·have hdiff:jao (l.take (k+(z+1)))=jao (l.take (k+z))++[u]:=by rw[show k+(z+1)=k+z+1 by omega,jp3 om hv hu huv]
      have hput'':=hput' (by rw[show k+z+1=k+(z+1) by omega]; exact hdiff);rw[show k+z+1=k+(z+1) by omega] at hput'';obtain ⟨Cs,hCs⟩:∃Cs,jd8 l (k+z)=Cs:=⟨_,rfl⟩;obtain ⟨c,hc⟩:∃c,(jao (l.take (k+z))).length=c:=⟨_,rfl⟩;rw[hCs] at hdu' hdv' hlen2 hput'';rw[hc] at hz3 hz4 hput'';rw[hCs,hc];have hdl:(jao (l.take (k+(z+1)))).length=c+1:=by rw[hdiff,List.length_append,hc]; rfl
      have hix:k+z-1=k+(z-1):=om
      rw[hix] at hdv';refine runW (ai hdu' (ai hdv' (eq_false huv))) ?_;refine round (z+1) ⟨om,om,by rw[hdl]; omega,by rw[hdl]; omega⟩ om ?_;rw[hdl,<- hput''];rfl
    ·have hkz:k+z=l.length:=om
     rw[hkz,List.take_length] at hend hz3 hz4;rw[hkz] at hlen2;rw[hkz,List.take_length];have hcl:((jao l).map vint).length=(jao l).length:=List.length_map _;obtain ⟨Cs,hCs⟩:∃Cs,jd8 l l.length=Cs:=⟨_,rfl⟩;obtain ⟨c,hc⟩:∃c,(jao l).length=c:=⟨_,rfl⟩;rw[hCs] at hend hlen2;rw[hc] at hz3 hz4 hend;rw[hCs,hc];refine runW hend ?_;exact zeg
   ·refine runW (ai hd' (ai hdy' (eq_false hxy))) ?_;exact round (k+1) ⟨om,om,by rw[jp3 hk1 hy hx hxy,hall,jm5 hx]⟩ om
  ·have hkl:k=l.length:=om
   subst hkl;rw[List.take_length] at hall;rw[hall];refine run ?_;exact zeg
def lowE (r:Rgs):Nat->Int×Int
 | 0=>jcv r.ofs
 | 1=>check r.pls
 | 2=>jei r.ofs r.pls r.fls
 | 3=>jcu r.rls
 | _=>jdt r.hls
def listsE (r:Rgs):Int:=fstE [(jcv r.ofs).2,(check r.pls).2,(jei r.ofs r.pls r.fls).2,(jcu r.rls).2,(jdt r.hls).2]
theorem den_lists1 (L:LibC T) (r:Rgs) (h:r.Fit):Den prog T 142 [.row r.cs] (chkV (jcv r.ofs)):=by
 refine ja0 call142 func142 8 ?_;refine rc (jp2 L r.ofs h.ofs) ?_;exact za
theorem den_lists2 (L:LibC T) (r:Rgs) (h:r.Fit):Den prog T 144 [.row r.cs] (chkV (check r.pls)):=by
 refine ja0 call144 func144 8 ?_;refine rc (jko L r.pls h.pls) ?_;exact za
theorem den_lists3 (L:LibC T) (r:Rgs) (h:r.Fit):Den prog T 146 [.row r.cs] (chkV (jei r.ofs r.pls r.fls)):=by
 refine ja0 call146 func146 12 ?_;refine rc (den_CheckF L r.ofs r.pls r.fls h.ofs h.pls h.fls) ?_;exact za
theorem den_lists4 (L:LibC T) (r:Rgs) (h:r.Fit):Den prog T 148 [.row r.cs] (chkV (jcu r.rls)):=by
 refine ja0 call148 func148 8 ?_;refine rc (den_CheckR L r.rls h.rls) ?_;exact za
theorem den_lists5 (L:LibC T) (r:Rgs) (h:r.Fit):Den prog T 150 [.row r.cs] (chkV (jdt r.hls)):=by
 refine ja0 call150 func150 8 ?_;refine rc (den_CheckH L r.hls h.hls) ?_;exact za
theorem fst_at (c:Nat->Int×Int):∀(n k m:Nat),k<n->(∀j,j<k->(c (m+j)).2=0)->(c (m+k)).2≠0->fstE ((List.range' m n).map fun j=>(c j).2)=(c (m+k)).2
 | 0,k,m,hk,_,_=>absurd hk (Nat.not_lt_zero k)
 | n+1,k,m,hk,h,hb=>by
  rw[List.range'_succ,List.map_cons];unfold fstE;cases k with
  | zero=>exact if_pos hb
  | succ k=>
   rw[if_neg (by have:=h 0 om; simpa using this)];rw[fst_at c n k (m+1) om (fun j hj=>by rw[show m+1+j=m+(j+1) by omega]; exact h (j+1) om) (by rw[show m+1+k=m+(k+1) by omega]; exact hb)];rw[show m+1+k=m+(k+1) by omega]
theorem fst_end (c:Nat->Int×Int):∀(n m:Nat),(∀j,j<n->(c (m+j)).2=0)->fstE ((List.range' m n).map fun j=>(c j).2)=0
 | 0,m,_=>rfl
 | n+1,m,h=>by
  rw[List.range'_succ,List.map_cons];unfold fstE;rw[if_neg (by have:=h 0 om; simpa using this)];exact fst_end c n (m+1) fun j hj=>by rw[show m+1+j=m+(j+1) by omega]; exact h (j+1) om
theorem den_lists (L:LibC T) (r:Rgs) (h:r.Fit):Den prog T 89 [.agg r.cs] (vi (listsE r)):=by
 have hrows:∀k,k<5->∃g,[[V.func 142 [.row r.cs]],[V.func 144 [.row r.cs]],[V.func 146 [.row r.cs]],[V.func 148 [.row r.cs]],[V.func 150 [.row r.cs]]][k]? = some [.func g [.row r.cs]]/\Den prog T g [.row r.cs] (chkV (lowE r k)):=fun k hk=>by
  match k,hk with
  | 0,_=>exact ⟨_,rfl,den_lists1 L r h⟩
  | 1,_=>exact ⟨_,rfl,den_lists2 L r h⟩
  | 2,_=>exact ⟨_,rfl,den_lists3 L r h⟩
  | 3,_=>exact ⟨_,rfl,den_lists4 L r h⟩
  | 4,_=>exact ⟨_,rfl,den_lists5 L r h⟩
 have hE:listsE r=fstE ((List.range' 0 5).map fun j=>(lowE r j).2):=rfl;rw[hE];obtain ⟨c,hc⟩:∃c,lowE r=c:=⟨_,rfl⟩;rw[hc] at hrows ⊢;refine ja0 call89 func89 29 ?_;refine run ?_;obtain ⟨R,hR⟩:∃R,[[V.func 142 [.row r.cs]],[V.func 144 [.row r.cs]],[V.func 146 [.row r.cs]],[V.func 148 [.row r.cs]],[V.func 150 [.row r.cs]]]=R:=⟨_,rfl⟩;have hRl:R.length=5:=by rw[<- hR]; rfl
 rw[hR] at hrows
 refine loop ⟨[2,14,15,16],[],[],[]⟩ (fun k:Nat=>k<=5/\∀j,j<k->(c j).2=0) (fun k=>5-k)
  (fun k=>⟨29,[(2,.v (vi 0)),(14,.v (.slice 1 R)),(15,.v (vi 5)),(16,.v (vi k))],[],[]⟩) 0 ⟨dc,fun j hj=>absurd hj (Nat.not_lt_zero j)⟩ ?_ (by rw[<- hR]; rfl)
 rintro k ⟨hk,hall⟩;by_cases hlt:k<5
 ·obtain ⟨g,hg,hden⟩:=hrows k hlt;have hkR:k<R.length:=om
  refine rcW hg hden ?_;by_cases hz:(c k).2=0
  ·refine runW hz ?_;refine round (k+1) ⟨hlt,fun j hj=> ?_⟩ om;by_cases hjk:j=k
   ·subst hjk; exact hz
   ·exact hall j om
  ·refine runW hz ?_;refine fin (ja5 ?_);have:=fst_at c 5 k 0 hlt (fun j hj=>by rw[Nat.zero_add]; exact hall j hj) (by rw[Nat.zero_add]; exact hz);rw[this,Nat.zero_add]
 ·refine run ?_;refine fin (ja5 ?_);exact (fst_end c 5 0 fun j hj=>by rw[Nat.zero_add]; exact hall j om).symm
theorem argsV {κ:List (Nat×Nat)} {h:List (Nat×Blk)} : ∀l:List V,ArgsM κ h (l.map .v) (l.map .v)
 | []=> .nil
 | x::l=> .cons (.v x) (argsV l)
theorem jeo {P:Program} {rs:List ResultVar} {i:Nat} {es:List (V×V)} {nm:Option Nat} {r r':TV} {st:St} (h3:WkT r' r) (hB:Go.Ab.look i st.h=some (.map es nm):=by rfl) (h2:resT P st rs=some r':=by rfl):fpostS P rs [(i,.map es nm)] [] r .rt st:=
 finS (fun x hx=>by simp only[List.mem_singleton] at hx; subst hx; exact ⟨_,hB,.map (.inr rfl)⟩) h3 h2
theorem jpl (l:List Fil) (n:Int):decide (jbp l n<0)= !hasF l n:=by
 unfold jbp hasF;have:=je5 (jdl n) l;cases h:l.any (jdl n) with
 | true=>
  rw[h] at this;have h2:(l.any fun f=>decide (f.id=n))=true:=h;rw[h2];simp at this ⊢;omega
 | false=>
  rw[h] at this;have h2:(l.any fun f=>decide (f.id=n))=false:=h;rw[h2];simp at this ⊢;omega
theorem jrl (d:Int):Den prog T 154 [vi d] (vb (dayG d)):=by
 refine ja0 call154 func154 9 ?_;unfold dayG;by_cases h:0<=d
 ·by_cases h2:d<=1048575
  ·refine runW (ai (eq_true h) (eq_true h2)) ?_;exact fin rfl
  ·refine runW (ai (eq_true h) (eq_false h2)) ?_;exact fin rfl
 ·refine runW (eq_false h) ?_;exact fin rfl
theorem den_elements1 (r:Rgs) (h:r.Fit) (f:Int):Den prog T 155 [vi f,.row r.cs] (vb (!hasF r.fls f)):=by
 have hl:=h.fls.1;refine ja0 call155 func155 9 ?_;refine rc (jq0 r.fls f hl) ?_;refine run ?_;exact fin (ja3 (jpl r.fls f))
abbrev gBlk (ps:List (Int×Bool)) (b:Nat):List (Nat×Blk):=[(999000,.map (mapG ps) (some b))]
instance:TZV prog 4 (.bool false):=⟨kr⟩
theorem jqk (ps:List (Int×Bool)) (b:Nat) (f:Int):DenS prog T 156 (gBlk ps b) [] [.v (vi f),.v (.row [.val (.map (some b))])] (gBlk ps b) [] (.v (vb (getG ps f))):=by
 have hf:=jpr f ps;have hg:=findG_get ps f;refine jes follows (fun args w=>call156 args w) func156 rfl 7 rfl rfl ?_;refine runW (ai hf hg) ?_;exact z7
theorem denS_ixInt (l:List Int) (f:FuncId) (cap:List V) (p:Int->Bool) (ps:List (Int×Bool)) (b:Nat) (hl:l.length<=1048576) (hp:∀e∈l,DenS prog T f (gBlk ps b) [] (.v (vi e)::cap.map .v) (gBlk ps b) [] (.v (vb (p e)))):
   DenS prog T 162 (gBlk ps b) [] [.v (ints l),.v (.func f cap)] (gBlk ps b) [] (.v (vi (ix p l))):=by
  refine jes follows (fun args w=>call162 args w) func162 rfl 19 rfl rfl ?_;refine run ?_;refine ja7 ⟨[8,0,1,7],[999000],[],[]⟩ l.length (fun k=>∀e∈l.take k,p e=false) sm ?_;rintro k ⟨hk,hall⟩;by_cases hlt:k<l.length
  · obtain ⟨x,hx,-,hm⟩:=ja1 hlt;refine runW hx ?_;refine jdv (callS [(999000,999000)] (hp x hm) (.cons (.v _) (argsV cap)) ?_ ?_)
    · exact zg
    cases hpc:p x
    · exact zch
    · refine run ?_;rw[<- jge hall hx hpc];exact z7
  · refine run ?_;rw[<- jgv hall hlt];exact z7
theorem jrv (l:List Int) (f:FuncId) (cap:List V) (p:Int->Bool) (ps:List (Int×Bool)) (b:Nat) (hl:l.length<=1048576) (hp:∀e∈l,DenS prog T f (gBlk ps b) [] (.v (vi e)::cap.map .v) (gBlk ps b) [] (.v (vb (p e)))):
   DenS prog T 98 (gBlk ps b) [] [.v (ints l),.v (.func f cap)] (gBlk ps b) [] (.v (vb (l.any p))):=by
  refine jes follows (fun args w=>call98 args w) func98 rfl 9 rfl rfl ?_;refine run ?_;refine jdv (callS [(999000,999000)] (denS_ixInt l f cap p ps b hl hp) (.cons (.v _) (.cons (.v _) .nil)) ?_ ?_)
  · exact zg
  refine run ?_;refine jeo (.v (.of (ja3 ?_)));exact je5 p l
theorem den_compact0:Den prog T 153 [ints []] (ints []):=by
 refine ja0 call153 func153 61 ?_;exact za
theorem any_eqI (l:List Int) (p q:Int->Bool) (h:∀x∈l,p x=q x):l.any p=l.any q:=by
 induction l with
 | nil=>rfl
 | cons x r ih=>rw[List.any_cons,List.any_cons,h x (.head _),ih fun y hy=>h y (.tail _ hy)]
theorem any_notF (fs:List Fil) (l:List Int):(l.any fun f=> !hasF fs f)= !(l.all (hasF fs)):=by
 induction l with
 | nil=>rfl
 | cons x r ih=>rw[List.any_cons,List.all_cons,ih]; cases hasF fs x <;> rfl
def psAt (ps:List (Int×Bool)) (l:List Elm) (k:Nat):List (Int×Bool):=(l.take k).foldl (fun ps x=>addG ps x.fls x.gone) ps
theorem jpe (ps:List (Int×Bool)) {l:List Elm} {k:Nat} {x:Elm} (h:l[k]? = some x):psAt ps l (k+1)=addG (psAt ps l k) x.fls x.gone:=by
 unfold psAt;rw[jm6 h,List.foldl_append];rfl
theorem one_map' (o:Option Nat):((Value.map o).oneCell'=true)=True:=eq_true rfl
theorem jp0 (d:Int):Den prog T 174 [vi d] (vb (dayG d)):=by
 refine ja0 call174 func174 9 ?_;unfold dayG;by_cases h:0<=d
 ·by_cases h2:d<=1048575
  ·refine runW (ai (eq_true h) (eq_true h2)) ?_;exact fin rfl
  ·refine runW (ai (eq_true h) (eq_false h2)) ?_;exact fin rfl
 ·refine runW (eq_false h) ?_;exact fin rfl
def jeg (fs:List Fil) (l:List Int):Int:=if l.all (hasF fs)=false then 7 else if risI l=false then 5 else 0
theorem findF_neg {fs:List Fil} {n:Int} (h:jbp fs n<0):hasF fs n=false:=by
 have:=jpl fs n;rw[decide_eq_true h] at this;cases e:hasF fs n
 ·rfl
 ·rw[e] at this; cases this
theorem findF_pos {fs:List Fil} {n:Int} (h:¬jbp fs n<0):hasF fs n=true:=by
 have:=jpl fs n;rw[decide_eq_false h] at this;cases e:hasF fs n
 ·rw[e] at this; cases this
 ·rfl
theorem filesE_7 {fs:List Fil} {l:List Int} {k:Nat} {x:Int} (hx:l[k]? = some x) (h:hasF fs x=false):jeg fs l=7:=by
 unfold jeg;rw[if_pos];rw[List.all_eq_false];exact ⟨x,List.mem_of_getElem? hx,by rw[h]; decide⟩
theorem jrm (_L:LibC T) (r:Rgs) (l:List Int) (h:r.Fit) (hl:l.length<=1048576):Den prog T 175 [.agg r.cs,ints l] (vi (jeg r.fls l)):=by
 have hf:=h.fls.1;refine ja0 call175 func175 37 ?_;refine run ?_;refine ja7 ⟨[5,1,2],[2],[],[]⟩ l.length (fun k=>∀e∈l.take k,hasF r.fls e=true) sm ?_;rintro k ⟨hk,hall⟩;by_cases hlt:k<l.length
 ·obtain ⟨x,hx,-,-⟩:=ja1 hlt;refine rcW hx (jnr r.fls x hf) ?_;by_cases hn:jbp r.fls x<0
  ·rw[filesE_7 hx (findF_neg hn)];refine runW (eq_true hn) ?_;exact fin rfl
  ·refine runW (eq_false hn) ?_;exact round (k+1) ⟨hlt,jae hall hx (findF_pos hn)⟩ om
 have hall:=jcq hall hlt
 have h7:jeg r.fls l=if risI l=false then 5 else 0:=by
  unfold jeg;rw[if_neg];rw[List.all_eq_true.2 hall];decide
 rw[h7];clear h7;refine run ?_;refine jb6 ⟨[6,1],[],[],[]⟩ (fun k:Nat=>1<=k/\(k<=l.length\/k=1)/\∀(i:Nat) x y,i+1<k->l[i]? = some x->l[i+1]? = some y->x<y) (fun k=>l.length-k) (fun k=>[(6,.v (vi k))]) 1 ⟨Nat.le_refl _,.inr rfl,fun i x y hi=>by omega⟩ ?_;rintro k ⟨h1,hk,hasc⟩;by_cases hlt:k<l.length
 ·obtain ⟨x,hx,-,-⟩:=ja1 hlt;obtain ⟨y,hy,-,-⟩:=ja1 (l:=l) (k:=k-1) om;by_cases hxy:x<=y
  ·have hr:risI l=false:=by
    cases e:risI l
    ·rfl
    ·have:=(jfz l).1 e (k-1) y x hy (by rw[show k-1+1=k by omega]; exact hx);omega
   rw[if_pos hr];refine runW (ai hx (ai hy (eq_true hxy))) ?_;exact fin rfl
  ·refine runW (ai hx (ai hy (eq_false hxy))) ?_;refine round (k+1) ⟨om,.inl hlt,fun i u v hi hu hv=> ?_⟩ om;by_cases hik:i+1=k
   ·subst hik;rw[Nat.add_sub_cancel] at hy;rw[hy] at hu;rw[hx] at hv;cases hu;cases hv;omega
   ·exact hasc i u v om hu hv
 ·have hr:risI l=true:=(jfz l).2 fun i x y hx hy=>hasc i x y (by have:=(gsi.1 hy).1; omega) hx hy;rw[if_neg (by rw[hr]; decide)];exact za
theorem jj4 {fs:List Fil} {pre:List Elm} {last:Option Elm} {x:Elm} (h:idB x.id=false\/dayG x.day=false):elmE fs pre last x=2:=by unfold elmE; rw[if_pos h]
theorem elmE_f {fs:List Fil} {pre:List Elm} {last:Option Elm} {x:Elm} (h:¬(idB x.id=false\/dayG x.day=false)) (hf:jeg fs x.fls≠0):elmE fs pre last x=jeg fs x.fls:=by
 unfold elmE jeg at *;rw[if_neg h];by_cases h7:x.fls.all (hasF fs)=false
 ·rw[if_pos h7,if_pos h7]
 ·rw[if_neg h7] at hf ⊢;rw[if_neg h7];by_cases h5:risI x.fls=false
  ·rw[if_pos h5,if_pos (.inl h5)]
  ·rw[if_neg h5] at hf; exact absurd rfl hf
def lateX (last:Option Elm) (x:Elm):Bool:=match last with | some q=>decide (x.day<q.day) | none=>false
theorem elmE_r {fs:List Fil} {pre:List Elm} {last:Option Elm} {x:Elm} (h:¬(idB x.id=false\/dayG x.day=false)) (hf:jeg fs x.fls=0):elmE fs pre last x=if lateX last x=true then 5 else if x.gone=true/\x.fls.any (jaj pre)=true then 6 else 0:=by
 unfold elmE;unfold jeg at hf;rw[if_neg h];by_cases h7:x.fls.all (hasF fs)=false
 ·rw[if_pos h7] at hf; cases hf
 ·rw[if_neg h7] at hf ⊢;by_cases h5:risI x.fls=false
  ·rw[if_pos h5] at hf; cases hf
  ·by_cases h6:lateX last x=true
   ·rw[if_pos h6,if_pos (.inr h6)]
   ·rw[if_neg h6,if_neg (fun e=>e.elim h5 h6)]
theorem lateX_0 (l:List Elm) (x:Elm):lateX (jay l 0) x=false:=rfl
theorem lateX_s {l:List Elm} {k:Nat} (h0:k≠0) {q:Elm} (hq:l[k-1]? = some q) (x:Elm):lateX (jay l k) x=decide (x.day<q.day):=by unfold lateX jay; rw[if_neg h0,hq]
theorem elsE_go {fs:List Fil} {l pre:List Elm} {k:Nat} {x:Elm} (hx:l[k]? = some x) (h1:elsE fs pre none l=elsE fs (pre++l.take k) (jay l k) (l.drop k)):
  (∀n,elmE fs (pre++l.take k) (jay l k) x=n->n≠0->elsE fs pre none l=n)/\(elmE fs (pre++l.take k) (jay l k) x=0->elsE fs pre none l=elsE fs (pre++l.take (k+1)) (jay l (k+1)) (l.drop (k+1))):=by
 have e1:=elsE_step (fs:=fs) hx (pre++l.take k) (jay l k);refine ⟨fun n hn h0=> ?_,fun h0=> ?_⟩
 ·subst hn;rw[if_pos h0] at e1;exact h1.trans e1
 ·rw[if_neg (by rw[h0]; decide)] at e1;rw[List.append_assoc,<- jm6 hx] at e1;rw[jrc hx];exact h1.trans e1
theorem selE_at {r:Rgs} {k:Nat} {s:Sel} (h:r.sls[k]? = some s):(selE r)[k]? = some s.el:=by unfold selE; rw[List.getElem?_map,h]; rfl
theorem crtE_at {r:Rgs} {k:Nat} {s:Crt} (h:r.crs[k]? = some s):(crtE r)[k]? = some s.el:=by unfold crtE; rw[List.getElem?_map,h]; rfl
theorem depE_at {r:Rgs} {k:Nat} {s:Dep} (h:r.dps[k]? = some s):(depE r)[k]? = some s.el:=by unfold depE; rw[List.getElem?_map,h]; rfl
theorem jjz (n:Int):idB n=false↔n<1\/1073741824<n:=by
 unfold idB;rw[decide_eq_false_iff_not];omega
theorem js7 (L:LibC T) (r:Rgs) (h:r.Fit):Den prog T 109 [.agg r.cs] (vi (jb7 r.fls [] (selE r))):=by
 have hl:=h.sls.1;have hlen:(selE r).length=r.sls.length:=List.length_map _;refine ja0 call109 func109 66 ?_;unfold jb7;rw[hlen];by_cases hbig:1024<r.sls.length
 ·exact zcf
 rw[if_neg hbig];refine runW (eq_false hbig) ?_;refine ja7 ⟨[4,1,3],[1],[],[]⟩ r.sls.length (fun k=>elsE r.fls [] none (selE r)=elsE r.fls ([]++(selE r).take k) (jay (selE r) k) ((selE r).drop k)) rfl ?_;rintro k ⟨hk,h1⟩;by_cases hlt:k<r.sls.length
 ·obtain ⟨x,hx,-,hm⟩:=ja1 hlt;obtain ⟨hbad,hnext⟩:=elsE_go (selE_at hx) h1;have hxf:=h.sls.2 x hm;by_cases h2:x.smp<1
  ·exact zcs
  by_cases h3:1073741824<x.smp
  ·exact zb9
  refine rcW (ai hx (ai (eq_false h2) (eq_false h3))) (jp0 x.day) ?_;cases hd:dayG x.day
  ·rw[hbad 2 (jj4 (.inr hd)) dc];exact za
  have hok:¬(idB x.el.id=false\/dayG x.el.day=false):=by
   rintro (e | e)
   ·have:=(jjz _).1 e;exact this.elim h2 h3
   ·rw[show x.el.day=x.day from rfl,hd] at e; cases e
  refine rcW hx (jrm L r x.fls h hxf) ?_;by_cases hf:jeg r.fls x.fls=0
  ·have hr:=elmE_r (pre:=[]++(selE r).take k) (last:=jay (selE r) k) hok hf;by_cases hk0:k=0
   ·subst hk0;rw[lateX_0] at hr;refine runW (ai hf hx) ?_;exact round 1 ⟨hlt,hnext hr⟩ om
   ·obtain ⟨y,hy,-,-⟩:=ja1 (l:=r.sls) (k:=k-1) om;have hpos:(0:Int)<k:=om
    rw[lateX_s hk0 (selE_at hy)] at hr;by_cases hlt2:x.day<y.day
    ·rw[if_pos (decide_eq_true (show x.el.day<y.el.day from hlt2))] at hr;rw[hbad 5 hr dc];refine runW (ai hf (ai hx (ai hy (ai (eq_true hpos) (eq_true hlt2))))) ?_;exact fin rfl
    ·rw[if_neg zez] at hr;refine runW (ai hf (ai hx (ai hy (ai (eq_true hpos) (eq_false hlt2))))) ?_;exact round (k+1) ⟨hlt,hnext hr⟩ om
  ·rw[hbad _ (elmE_f hok hf) hf];refine runW hf ?_;exact fin rfl
 ·have hkl:k=r.sls.length:=om
  exact zc2
theorem find_at {α:Type} {p:α->Bool} {l:List α} {k:Nat} {x:α} (c:Nat) (hc:k<c) (h:∀e∈l.take k,p e=false) (hx:l[k]? = some x) (hp:p x=true):(l.take c).find? p=some x:=by
 obtain ⟨hlt,rfl⟩:=gsi.1 hx;rw[List.find?_eq_some_iff_getElem];refine ⟨hp,k,by rw[List.length_take]; omega,by rw[List.getElem_take],fun j hj=> ?_⟩;have:=h l[j] (List.mem_iff_getElem?.2 ⟨j,by rw[List.getElem?_take,if_pos hj]; exact gge _⟩);rw[List.getElem_take,this];rfl
theorem find_no {α:Type} {p:α->Bool} {l:List α} {c:Nat} (h:∀e∈l.take c,p e=false):(l.take c).find? p=none:=by
 rw[List.find?_eq_none];intro x hx;rw[h x hx];decide
theorem hasI_at {n:Int} {l:List Int} {k:Nat} {x:Int} (hx:l[k]? = some x) (h:x=n):hasI n l=true:=List.any_eq_true.2 ⟨x,List.mem_of_getElem? hx,decide_eq_true h⟩
theorem hasI_no {n:Int} {l:List Int} (h:∀e∈l,e≠n):hasI n l=false:=List.any_eq_false.2 fun e he=>by rw[decide_eq_false (h e he)]; decide
theorem jnf (r:Rgs) (h:r.Fit) (n:Int) (c d:Nat) (hc:c<=r.crs.length) (hd:d<=r.dps.length):Den prog T 176 [.agg r.cs,vi n,vi c,vi d] (.tup [vi (jd6 r n c d).1,vi (jd6 r n c d).2]):=by
 have hcb:=h.crs.1;have hdb:=h.dps;have hgo:((r.crs.take c).find? fun x=>hasI n x.fls)=none->jd6 r n c d=match (r.dps.take d).find? fun x=>decide (x.fil=n) with | some x=>(x.day,2) | none=>(0,0):=fun e=>by unfold jd6; rw[e]; rfl
 refine ja0 call176 func176 65 ?_;refine run ?_;refine ja7 ⟨[10,1,2,3,4],[4],[],[]⟩ c (fun k=>∀e∈r.crs.take k,hasI n e.fls=false) sm ?_;rintro k ⟨hk,hall⟩;by_cases hlt:k<c
 ·obtain ⟨x,hx,-,hm⟩:=ja1 (l:=r.crs) (k:=k) om;have hxf:=(h.crs.2 x hm).1;refine run ?_;refine ja7 ⟨[11,1,2,3,4,10],[4],[],[]⟩ x.fls.length (fun j=>∀e∈x.fls.take j,e≠n) sm ?_;rintro j ⟨hj,hall2⟩;by_cases hjl:j<x.fls.length
  ·obtain ⟨y,hy,-,-⟩:=ja1 hjl;by_cases hyn:y=n
   ·have hg:jd6 r n c d=(x.day,1):=by unfold jd6; rw[find_at c hlt hall hx (hasI_at hy hyn)]
    rw[hg];refine runW (ai hx (ai hy hyn)) ?_;exact fin rfl
   ·refine runW (ai hx (ai hy (eq_false hyn))) ?_;exact round (j+1) ⟨hjl,jae hall2 hy hyn⟩ om
  ·refine runW hx ?_;exact round (k+1) ⟨hlt,jae hall hx (hasI_no (jcq hall2 hjl))⟩ om
 ·have hkc:k=c:=om
  subst hkc;rw[hgo (find_no hall)];refine run ?_;refine ja7 ⟨[12,1,3,4],[4],[],[]⟩ d (fun k=>∀e∈r.dps.take k,decide (e.fil=n)=false) sm ?_;rintro j ⟨hj,hall2⟩;by_cases hjl:j<d
  ·obtain ⟨y,hy,-,-⟩:=ja1 (l:=r.dps) (k:=j) om;by_cases hyn:y.fil=n
   ·rw[find_at d hjl hall2 hy (decide_eq_true hyn)];refine runW (ai hy hyn) ?_;exact fin rfl
   ·refine runW (ai hy (eq_false hyn)) ?_;exact round (j+1) ⟨hjl,jae hall2 hy (decide_eq_false hyn)⟩ om
  ·have hjd:j=d:=om
   subst hjd;rw[find_no hall2];exact za
theorem den_Gone0 (r:Rgs) (h:r.Fit) (n:Int) (c:Nat) (hc:c<=r.crs.length):Den prog T 176 [.agg r.cs,vi n,vi c,vi 0] (.tup [vi (jd6 r n c 0).1,vi (jd6 r n c 0).2]):=jnf r h n c 0 hc (Nat.zero_le _)
theorem den_Gone00 (r:Rgs) (h:r.Fit) (n:Int):Den prog T 176 [.agg r.cs,vi n,vi 0,vi 0] (.tup [vi (jd6 r n 0 0).1,vi (jd6 r n 0 0).2]):=jnf r h n 0 0 (Nat.zero_le _) (Nat.zero_le _)
theorem jpo (a b:List Elm) (n:Int):jaj (a++b) n=(jaj a n || jaj b n):=List.any_append
theorem goneB_sel (r:Rgs) (n:Int):jaj (selE r) n=false:=by
 unfold jaj selE;rw[List.any_eq_false];intro x hx;obtain ⟨s,-,rfl⟩:=List.mem_map.1 hx;simp[Sel.el]
theorem goneB_crt (l:List Crt) (n:Int):jaj (l.map Crt.el) n=l.any fun x=>hasI n x.fls:=by
 unfold jaj;rw[List.any_map];rfl
theorem goneB_dep (l:List Dep) (n:Int):jaj (l.map Dep.el) n=l.any fun x=>decide (x.fil=n):=by
 unfold jaj;rw[List.any_map];congr 1
 funext x
 simp[Dep.el]
theorem any_find {α:Type} (p:α->Bool) (l:List α):l.any p=(l.find? p).isSome:=by
 induction l with
 | nil=>rfl
 | cons x r ih=>
  rw[List.any_cons,List.find?_cons,ih];cases p x <;> rfl
theorem goneR_c (r:Rgs) (n:Int) (c:Nat):jaj (selE r++(crtE r).take c) n=decide ((jd6 r n c 0).2≠0):=by
 rw[jpo,goneB_sel,Bool.false_or];unfold crtE;rw[<- List.map_take,goneB_crt,any_find];unfold jd6;cases e:(r.crs.take c).find? fun x=>hasI n x.fls with
 | some x=>rfl
 | none=>rw[List.take_zero]; rfl
theorem goneR_d (r:Rgs) (n:Int) (d:Nat):jaj ((selE r++crtE r)++(depE r).take d) n=decide ((jd6 r n r.crs.length d).2≠0):=by
 rw[jpo,jpo,goneB_sel,Bool.false_or];unfold crtE depE;rw[<- List.map_take,goneB_crt,goneB_dep,any_find,any_find];unfold jd6;rw[List.take_length];cases e:r.crs.find? fun x=>hasI n x.fls with
 | some x=>rfl
 | none=>
  cases e:(r.dps.take d).find? fun x=>decide (x.fil=n) with
  | some x=>rfl
  | none=>rfl
theorem js4 (L:LibC T) (r:Rgs) (h:r.Fit):Den prog T 110 [.agg r.cs] (vi (jb7 r.fls (selE r) (crtE r))):=by
 have hl:=h.crs.1;have hlen:(crtE r).length=r.crs.length:=List.length_map _;refine ja0 call110 func110 95 ?_;unfold jb7;rw[hlen];by_cases hbig:1024<r.crs.length
 ·exact zcf
 rw[if_neg hbig];refine runW (eq_false hbig) ?_;refine ja7 ⟨[4,1,3],[1],[],[]⟩ r.crs.length (fun k=>elsE r.fls (selE r) none (crtE r)=elsE r.fls (selE r++(crtE r).take k) (jay (crtE r) k) ((crtE r).drop k)) (by rw[List.take_zero,List.append_nil]; rfl) ?_;rintro k ⟨hk,h1⟩;by_cases hlt:k<r.crs.length
 ·obtain ⟨x,hx,-,hm⟩:=ja1 hlt;obtain ⟨hbad,hnext⟩:=elsE_go (crtE_at hx) h1;have hxf:=(h.crs.2 x hm).1;by_cases h2:x.num<1
  ·exact zcs
  by_cases h3:1073741824<x.num
  ·exact zb9
  refine rcW (ai hx (ai (eq_false h2) (eq_false h3))) (jp0 x.day) ?_;cases hd:dayG x.day
  ·rw[hbad 2 (jj4 (.inr hd)) dc];exact za
  have hok:¬(idB x.el.id=false\/dayG x.el.day=false):=by
   rintro (e | e)
   ·have:=(jjz _).1 e;exact this.elim h2 h3
   ·rw[show x.el.day=x.day from rfl,hd] at e; cases e
  refine rcW hx (jrm L r x.fls h hxf) ?_;by_cases hf:jeg r.fls x.fls=0
  ·have hr:=elmE_r (pre:=selE r++(crtE r).take k) (last:=jay (crtE r) k) hok hf;by_cases hk0:k=0
   ·subst hk0;rw[lateX_0,if_neg Bool.false_ne_true] at hr;have hgc0:=fun y=>goneR_c r y 0;obtain ⟨pr,hpr⟩:∃pr,selE r++(crtE r).take 0=pr:=⟨_,rfl⟩;rw[hpr] at hr hgc0 hbad hnext;refine runW (ai hf hx) ?_;refine ja7 ⟨[6,1,3,4],[1],[],[]⟩ x.fls.length (fun j=>∀e∈x.fls.take j,jaj pr e=false) sm ?_;rintro j ⟨hj,hall⟩;by_cases hjl:j<x.fls.length
    ·obtain ⟨y,hy,-,-⟩:=ja1 hjl;have hgc:=hgc0 y;refine rcW (ai hx hy) (den_Gone00 r h y) ?_;by_cases hb:(jd6 r y 0 0).2=0
     ·exact zdu
     ·have h6:x.el.gone=true/\x.el.fls.any (jaj pr)=true:=⟨rfl,List.any_eq_true.2 ⟨y,List.mem_of_getElem? hy,by rw[hgc]; exact decide_eq_true hb⟩⟩;rw[if_pos h6] at hr;exact zb0
    ·have h6:¬(x.el.gone=true/\x.el.fls.any (jaj pr)=true):=fun e=>by
      obtain ⟨y,hy,hg⟩:=List.any_eq_true.1 e.2;rw[jcq hall hjl y hy] at hg;cases hg
     rw[if_neg h6] at hr;refine runW hx ?_;exact round 1 ⟨hlt,hnext hr⟩ om
   ·obtain ⟨z,hz,-,-⟩:=ja1 (l:=r.crs) (k:=k-1) om;have hpos:(0:Int)<k:=om
    rw[lateX_s hk0 (crtE_at hz)] at hr;by_cases hlt2:x.day<z.day
    ·rw[if_pos (decide_eq_true (show x.el.day<z.el.day from hlt2))] at hr;rw[hbad 5 hr dc];refine runW (ai hf (ai hx (ai hz (ai (eq_true hpos) (eq_true hlt2))))) ?_;exact fin rfl
    ·rw[if_neg zez] at hr;refine runW (ai hf (ai hx (ai hz (ai (eq_true hpos) (eq_false hlt2))))) ?_;refine ja7 ⟨[6,1,3,4],[1],[],[]⟩ x.fls.length (fun j=>∀e∈x.fls.take j,jaj (selE r++(crtE r).take k) e=false) sm ?_;rintro j ⟨hj,hall⟩;by_cases hjl:j<x.fls.length
     ·obtain ⟨y,hy,-,-⟩:=ja1 hjl;have hgc:=goneR_c r y k;refine rcW (ai hx hy) (den_Gone0 r h y k om) ?_;by_cases hb:(jd6 r y k 0).2=0
      ·exact zdu
      ·have h6:x.el.gone=true/\x.el.fls.any (jaj (selE r++(crtE r).take k))=true:=⟨rfl,List.any_eq_true.2 ⟨y,List.mem_of_getElem? hy,by rw[hgc]; exact decide_eq_true hb⟩⟩;rw[if_pos h6] at hr;exact zb0
     ·have h6:¬(x.el.gone=true/\x.el.fls.any (jaj (selE r++(crtE r).take k))=true):=fun e=>by
       obtain ⟨y,hy,hg⟩:=List.any_eq_true.1 e.2;rw[jcq hall hjl y hy] at hg;cases hg
      rw[if_neg h6] at hr;refine runW hx ?_;exact round (k+1) ⟨hlt,hnext hr⟩ om
  ·rw[hbad _ (elmE_f hok hf) hf];refine runW hf ?_;exact fin rfl
 ·have hkl:k=r.crs.length:=om
  exact zc2
theorem js8 (_L:LibC T) (r:Rgs) (h:r.Fit):Den prog T 111 [.agg r.cs] (vi (jb7 r.fls (selE r++crtE r) (depE r))):=by
 have hl:=h.dps;have hf:=h.fls.1;have hlen:(depE r).length=r.dps.length:=List.length_map _;refine ja0 call111 func111 66 ?_;unfold jb7;rw[hlen];by_cases hbig:1024<r.dps.length
 ·exact zcf
 rw[if_neg hbig];refine runW (eq_false hbig) ?_;refine ja7 ⟨[4,1,3],[1],[],[]⟩ r.dps.length (fun k=>elsE r.fls (selE r++crtE r) none (depE r)=elsE r.fls ((selE r++crtE r)++(depE r).take k) (jay (depE r) k) ((depE r).drop k)) (by rw[List.take_zero,List.append_nil]; rfl) ?_;rintro k ⟨hk,h1⟩;by_cases hlt:k<r.dps.length
 ·obtain ⟨x,hx,-,hm⟩:=ja1 hlt;obtain ⟨hbad,hnext⟩:=elsE_go (depE_at hx) h1;refine rcW hx (jp0 x.day) ?_;cases hd:dayG x.day
  ·rw[hbad 2 (jj4 (.inr hd)) dc];exact za
  have hok:¬(idB x.el.id=false\/dayG x.el.day=false):=by
   rintro (e | e)
   ·cases e
   ·rw[show x.el.day=x.day from rfl,hd] at e; cases e
  refine rcW hx (jnr r.fls x.fil hf) ?_;by_cases hn:jbp r.fls x.fil<0
  ·have h7:jeg r.fls x.el.fls=7:=filesE_7 (k:=0) (x:=x.fil) rfl (findF_neg hn);rw[hbad _ (elmE_f hok (by rw[h7]; decide)) (by rw[h7]; decide),h7];refine runW (eq_true hn) ?_;exact fin rfl
  have h0:jeg r.fls x.el.fls=0:=by
   show (if [x.fil].all (hasF r.fls)=false then (7:Int) else if risI [x.fil]=false then 5 else 0)=0
   rw[List.all_cons,findF_pos hn];rfl
  have hr:=elmE_r (pre:=(selE r++crtE r)++(depE r).take k) (last:=jay (depE r) k) hok h0;have hgd:=goneR_d r x.fil k
  have hany:x.el.fls.any (jaj ((selE r++crtE r)++(depE r).take k))=decide ((jd6 r x.fil r.crs.length k).2≠0):=by
   rw[<- hgd]
   show (jaj ((selE r++crtE r)++(depE r).take k) x.fil || false)=_
   rw[Bool.or_false]
  rw[hany] at hr;have hcl:=h.crs.1;by_cases hk0:k=0
  ·subst hk0;rw[lateX_0,if_neg Bool.false_ne_true] at hr;refine rcW (ai (eq_false hn) hx) (jnf r h x.fil r.crs.length 0 (Nat.le_refl _) (Nat.zero_le _)) ?_;by_cases hb:(jd6 r x.fil r.crs.length 0).2=0
   ·rw[if_neg (fun e=>absurd hb (of_decide_eq_true e.2))] at hr;refine runW hb ?_;exact round 1 ⟨hlt,hnext hr⟩ om
   ·rw[if_pos ⟨rfl,decide_eq_true hb⟩] at hr;exact zb0
  ·obtain ⟨z,hz,-,-⟩:=ja1 (l:=r.dps) (k:=k-1) om;have hpos:(0:Int)<k:=om
   rw[lateX_s hk0 (depE_at hz)] at hr;by_cases hlt2:x.day<z.day
   ·rw[if_pos (decide_eq_true (show x.el.day<z.el.day from hlt2))] at hr;rw[hbad 5 hr dc];refine runW (ai (eq_false hn) (ai hx (ai hz (ai (eq_true hpos) (eq_true hlt2))))) ?_;exact fin rfl
   ·rw[if_neg zez] at hr;refine rcW (ai (eq_false hn) (ai hx (ai hz (ai (eq_true hpos) (eq_false hlt2))))) (jnf r h x.fil r.crs.length k (Nat.le_refl _) om) ?_;by_cases hb:(jd6 r x.fil r.crs.length k).2=0
    ·rw[if_neg (fun e=>absurd hb (of_decide_eq_true e.2))] at hr;refine runW hb ?_;exact round (k+1) ⟨hlt,hnext hr⟩ om
    ·rw[if_pos ⟨rfl,decide_eq_true hb⟩] at hr;exact zb0
 ·have hkl:k=r.dps.length:=om
  exact zc2
theorem den_CheckGRef (L:LibC T) (r:Rgs) (h:r.Fit):Den prog T 43 [.agg r.cs] (vi (checkG r)):=by
 refine ja0 call43 func43 60 ?_;unfold checkG;refine rc (jqq r.ofs h.ofs) ?_;by_cases e1:(jcv r.ofs).2=0
 case neg=>
  simp only[fstE,ne_eq,e1,not_false_eq_true,if_true];refine runW e1 ?_;exact fin rfl
 refine rcW e1 (jr0 r.pls h.pls) ?_;by_cases e2:(check r.pls).2=0
 case neg=>
  simp only[fstE,ne_eq,e2,not_false_eq_true,not_true,if_true,if_false];refine runW e2 ?_;exact fin rfl
 refine rcW e2 (den_CheckFRef r.ofs r.pls r.fls h.ofs h.pls h.fls) ?_;by_cases e3:(jei r.ofs r.pls r.fls).2=0
 case neg=>
  simp only[fstE,ne_eq,e3,not_false_eq_true,not_true,if_true,if_false];refine runW e3 ?_;exact fin rfl
 refine rcW e3 (den_CheckRRef r.rls h.rls) ?_;by_cases e4:(jcu r.rls).2=0
 case neg=>
  simp only[fstE,ne_eq,e4,not_false_eq_true,not_true,if_true,if_false];refine runW e4 ?_;exact fin rfl
 refine rcW e4 (den_CheckHRef r.hls h.hls) ?_;by_cases e5:(jdt r.hls).2=0
 case neg=>
  simp only[fstE,ne_eq,e5,not_false_eq_true,not_true,if_true,if_false];refine runW e5 ?_;exact fin rfl
 refine rcW e5 (js7 L r h) ?_;by_cases e6:jb7 r.fls [] (selE r)=0
 case neg=>
  simp only[fstE,ne_eq,e6,not_false_eq_true,not_true,if_true,if_false];refine runW e6 ?_;exact fin rfl
 refine rcW e6 (js4 L r h) ?_;by_cases e7:jb7 r.fls (selE r) (crtE r)=0
 case neg=>
  simp only[fstE,ne_eq,e7,not_false_eq_true,not_true,if_true,if_false];refine runW e7 ?_;exact fin rfl
 refine rcW e7 (js8 L r h) ?_;by_cases e8:jb7 r.fls (selE r++crtE r) (depE r)=0
 ·simp only[fstE,ne_eq,e8,not_true,if_false];refine runW e8 ?_;exact fin rfl
 ·simp only[fstE,ne_eq,e8,not_false_eq_true,not_true,if_true,if_false];refine runW e8 ?_;exact fin rfl
end Go.Arc
