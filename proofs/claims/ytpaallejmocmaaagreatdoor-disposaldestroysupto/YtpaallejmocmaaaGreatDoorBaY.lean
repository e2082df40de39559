/- A part of this claim. -/
import Derived.Test.YtpaallejmocmaaaGreatDoorBaX
set_option maxHeartbeats 4000000
set_option maxRecDepth 100000
namespace Go.Arc
open Go.Ab Go.RowKit Go.Proofs Tryz
variable {T : Lay}
variable {fs:List Fil}{k:Nat}{last:Option Elm}{α:Type}{p:α->Bool}{l:List α}{x:Elm}{n:Int}{r:Rgs}{q:Rul}{f:Fil}{d:Int}
abbrev vint(n:Int):V:=vi n
theorem qmd(a b:Int):Den prog T 253 [vi a,vi b] (vb (decide (a<b))):=by
 refine ab call253 func253 17 ?_;refine rc (jlb a) ?_;exact za
theorem qge(l:List Int)(hl:l.length<=1048576):Den prog T 174 [ints l] (vb (srtI l)):=by
 refine ab call174 func174 21 ?_;refine run ?_;refine bp ⟨[3,0],[],[],[]⟩ (fun i:Int=> -1<=i/\i+1<=l.length/\∀j:Nat,i<j->j<l.length->pw l j=false) (fun i=>(i+1).toNat) (fun i=>[(3,.v (vi i))]) ((l.length:Int)-1) ⟨omq,omq,fun j h1 h2=>by omega⟩ ?_;rintro i ⟨h1,h2,hall⟩;by_cases hpos:0<i
 .obtain⟨k,rfl⟩:∃k:Nat,i=k:=⟨i.toNat,omq⟩;obtain⟨y,hy,-,-⟩:=ac (l:=l) (k:=k) omq;obtain⟨x,hx,-,-⟩:=ac (l:=l) (k:=k-1) omq;have he:=jp2 (show k≠0 by omega) hx hy;refine rcW (ai hx hy) (qmd y x) ?_;by_cases hlt:y<x
  .rw[jzu (show k<l.length by omega) (by rw[he];simp[hlt])];exact za
  refine run ?_;refine round ((k:Int)-1) ⟨omq,omq,fun j g1 g2=>?_⟩ omq;by_cases e:j=k
  .rw[e,he];simp[hlt]
  exact hall j omq g2
 rw[jxu fun j hj=>by
  by_cases h0:j=0
  .rw[h0];exact qbv l
  exact hall j omq hj]
 exact za
theorem jrw(l:List Int)(hl:l.length<=1048576):DenN prog T 23 [ints l] 1 (l.map Cint):=by
 refine jsc follows (fun args w=>call23 args w) func23 rfl 8 rfl ?_;cases l with
 |nil=>
  refine run ?_;intro b;cases b
  .refine run ?_;exact jil rfl (.refl _)
  refine run ?_;exact jil rfl (.nil 1)
 |cons x r=>
  have h:r.length+1<=1048576:=hl;have e:ints (x::r)=.slice 1 (Cint x::r.map Cint):=rfl;rw[e];refine runB trivial ?_;refine quy ?_;refine run ?_;refine finN (id:=7) [] ?_ ?_
  .simp only[σ_mk,bb,↓reduceIte,ut,List.length_cons,vl]
  rw[vw];rfl
def gn(l:List Int)(m:Nat):List V:=(bh (l.take m)++l.drop (bh (l.take m)).length).map vint
theorem qnw(l:List Int)(m:Nat)(h:m<=l.length):(gn l m).length=l.length:=by
 have:=jlf l m;unfold gn;rw[ut,ve,xo];omega
theorem jv2(l:List Int)(m:Nat):(gn l m).take (bh (l.take m)).length=(bh (l.take m)).map vint:=by
 unfold gn;rw[<- qvm,List.take_left]
theorem jkg(l:List Int)(m i:Nat)(h:(bh (l.take m)).length<=i):(gn l m).drop i=(l.drop i).map vint:=by
 unfold gn;rw[<- qvn,List.drop_append];rw[qvb h,List.nil_append,qwc];congr 2;omega
theorem qnv(l:List Int)(m:Nat){x:Int}(_hx:l[m]?=some x)(_h:(bh (l.take m)).length+1<=m)(hd:bh (l.take (m+1))=bh (l.take m)++[x]):
  (gn l m).take (bh (l.take m)).length++[vi x]++(gn l m).drop ((bh (l.take m)).length+1)=gn l (m+1):=by
 rw[jv2,jkg l m _ (Nat.le_succ _)];unfold gn;rw[hd,vy,vy,ve];rfl
theorem qg2(l:List Int)(hl:l.length<=1048576)(h0:l≠[]):DenM prog T 175 (l.map vint) [.s 999999 0 l.length 1] ((bh l).map vint) (.s 999999 0 (bh l).length 1):=by
 have hlen:0<l.length:=xj.2 h0;have hml:(l.map vint).length=l.length:=ut _;refine jfl follows (fun args w=>call175 args w) func175 rfl 61 rfl rfl ?_;obtain⟨x0,hx0,-,-⟩:=ac hlen;by_cases h2:l.length<2
 .have e1:l.take 1=l:=xn omq;have e2:=jle hx0;rw[e1] at e2
  have e3:bh l=l:=by
   rw[e2]
   match l,hx0,h2 with
   |[a],hx,_=>simp at hx;rw[hx]
  rw[e3];refine run ?_;exact ug (.refl _)
 refine run ?_;refine bp ⟨[3,0],[999999],[],[]⟩ (fun k:Nat=>1<=k/\k<=l.length/\bh (l.take k)=l.take k) (fun k=>l.length-k) (fun k=>[(3,.v (vi k))]) 1 ⟨omq,omq,by rw[jle hx0];rw[jfz hx0];rfl⟩ ?_;rintro k ⟨hk1,hk,hall⟩;by_cases hlt:k<l.length
 .obtain⟨x,hx,hd,-⟩:=ac hlt;obtain⟨y,hy,hdy,-⟩:=ac (l:=l) (k:=k-1) omq;have hd':(l.map vint).drop k=vi x::(l.drop (k+1)).map vint:=by rw[<- qvn,hd];rfl
  have hdy':(l.map vint).drop (k-1)=vi y::(l.drop (k-1+1)).map vint:=by rw[<- qvn,hdy];rfl
  by_cases hxy:x=y
  .have hk0:bh (l.take (k+1))=l.take k:=by rw[jgj hk1 hy hx hxy,hall]
   have hlk:(l.take k).length=k:=by rw[vz];omega
   have hcell:l.map vint=gn l (k+1):=by unfold gn;rw[hk0,hlk,qvv]
   have hc1:(bh (l.take (k+1))).length=k:=by rw[hk0,hlk]
   refine runW (ai hd' (ai hdy' hxy)) ?_
   refine loop ⟨[0,3,4,5],[999999],[],[]⟩ (fun z:Nat=>1<=z/\k+z<=l.length/\(bh (l.take (k+z))).length+1<=k+z/\1<=(bh (l.take (k+z))).length) (fun z=>l.length-z)
    (fun z=>⟨61,[(0,.s 999999 0 l.length 1),(3,.v (vi (bh (l.take (k+z))).length)),(4,.s 999999 k (l.length-k) 1),(5,.v (vi z))],[(999999,.var (gn l (k+z)))],[]⟩) 1 ⟨uv 1,hlt,by rw[hc1];omega,by rw[hc1];exact hk1⟩ ?_ (by rw[hcell,hc1];rfl)
   rintro z ⟨hz1,hz2,hz3,hz4⟩;have hlen2:=qnw l (k+z) hz2;have hend:=jv2 l (k+z);have hput:=fun {x:Int} (h:l[k+z]?=some x)=>qnv l (k+z) h hz3;by_cases hzl:k+z<l.length
   .obtain⟨u,hu,hdu,-⟩:=ac hzl;obtain⟨v,hv,hdv,-⟩:=ac (l:=l) (k:=k+z-1) omq;have hdu':=jkg l (k+z) (k+z) omq;have hdv':=jkg l (k+z) (k+z-1) omq;rw[hdu,vl] at hdu';rw[hdv,vl] at hdv';have hput':=hput hu;by_cases huv:u=v
    .have hsame:gn l (k+(z+1))=gn l (k+z):=by unfold gn;rw[show k+(z+1)=k+z+1 by omega,jgj omq hv hu huv]
     have hsame2:bh (l.take (k+(z+1)))=bh (l.take (k+z)):=by rw[show k+(z+1)=k+z+1 by omega,jgj omq hv hu huv]
     obtain⟨Cs,hCs⟩:∃Cs,gn l (k+z)=Cs:=⟨_,rfl⟩;obtain⟨c,hc⟩:∃c,(bh (l.take (k+z))).length=c:=⟨_,rfl⟩;rw[hCs] at hdu' hdv' hlen2 hsame;rw[hc] at hz3 hz4;rw[hCs,hc];have hix:k+z-1=k+(z-1):=omq;rw[hix] at hdv';refine runW (ai hdu' (ai hdv' huv)) ?_;refine round (z+1) ⟨omq,omq,by rw[hsame2,hc];omega,by rw[hsame2,hc];exact hz4⟩ omq ?_;rw[hsame,hsame2,hc];rfl
    have hdiff:bh (l.take (k+(z+1)))=bh (l.take (k+z))++[u]:=by rw[show k+(z+1)=k+z+1 by omega,jke omq hv hu huv]
    have hput'':=hput' (by rw[show k+z+1=k+(z+1) by omega];exact hdiff);rw[show k+z+1=k+(z+1) by omega] at hput'';obtain⟨Cs,hCs⟩:∃Cs,gn l (k+z)=Cs:=⟨_,rfl⟩;obtain⟨c,hc⟩:∃c,(bh (l.take (k+z))).length=c:=⟨_,rfl⟩;rw[hCs] at hdu' hdv' hlen2 hput'';rw[hc] at hz3 hz4 hput'';rw[hCs,hc];have hdl:(bh (l.take (k+(z+1)))).length=c+1:=by rw[hdiff,ve,hc];rfl
    have hix:k+z-1=k+(z-1):=omq;rw[hix] at hdv';refine runW (ai hdu' (ai hdv' (un huv))) ?_;refine round (z+1) ⟨omq,omq,by rw[hdl];omega,by rw[hdl];omega⟩ omq ?_;rw[hdl,<- hput''];rfl
   have hkz:k+z=l.length:=omq;rw[hkz,vk] at hend hz3 hz4;rw[hkz] at hlen2;rw[hkz,vk];have hcl:((bh l).map vint).length=(bh l).length:=ut _;obtain⟨Cs,hCs⟩:∃Cs,gn l l.length=Cs:=⟨_,rfl⟩;obtain⟨c,hc⟩:∃c,(bh l).length=c:=⟨_,rfl⟩;rw[hCs] at hend hlen2;rw[hc] at hz3 hz4 hend;rw[hCs,hc];refine runW hend ?_;exact ug (.refl _)
  refine runW (ai hd' (ai hdy' (un hxy))) ?_;exact round (k+1) ⟨omq,omq,by rw[jke hk1 hy hx hxy,hall,jfz hx]⟩ omq
 have hkl:k=l.length:=omq;subst hkl;rw[vk] at hall;rw[hall];refine run ?_;exact ug (.refl _)
def lowE(r:Rgs):Nat->Int×Int
 |0=>fy r.ofs
 |1=>check r.pls
 |2=>jr r.ofs r.pls r.fls
 |3=>fh r.rls
 |_=>ji r.hls
def jel(r:Rgs):Int:=fstE [(fy r.ofs).2,(check r.pls).2,(jr r.ofs r.pls r.fls).2,(fh r.rls).2,(ji r.hls).2]
theorem qiq(L:LibC T)(r:Rgs)(h:r.Fit):Den prog T 164 [.row r.cs] (chkV (fy r.ofs)):=by
 refine ab call164 func164 8 ?_;refine rc (jkc L r.ofs h.ofs) ?_;exact za
theorem qip(L:LibC T)(r:Rgs)(h:r.Fit):Den prog T 166 [.row r.cs] (chkV (check r.pls)):=by
 refine ab call166 func166 8 ?_;refine rc (jdg L r.pls h.pls) ?_;exact za
theorem qio(L:LibC T)(r:Rgs)(h:r.Fit):Den prog T 168 [.row r.cs] (chkV (jr r.ofs r.pls r.fls)):=by
 refine ab call168 func168 12 ?_;refine rc (qjh L r.ofs r.pls r.fls h.ofs h.pls h.fls) ?_;exact za
theorem qin(L:LibC T)(r:Rgs)(h:r.Fit):Den prog T 170 [.row r.cs] (chkV (fh r.rls)):=by
 refine ab call170 func170 8 ?_;refine rc (jup L r.rls h.rls) ?_;exact za
theorem qim(L:LibC T)(r:Rgs)(h:r.Fit):Den prog T 172 [.row r.cs] (chkV (ji r.hls)):=by
 refine ab call172 func172 8 ?_;refine rc (qjg L r.hls h.hls) ?_;exact za
theorem jq6(c:Nat->Int×Int):∀(n k m:Nat),k<n->(∀j,j<k->(c (m+j)).2=0)->(c (m+k)).2≠0->fstE ((List.range' m n).map fun j=>(c j).2)=(c (m+k)).2
 |0,k,m,hk,_,_=>absurd hk (yf k)
 |n+1,k,m,hk,h,hb=>by
  rw[List.range'_succ,vl];unfold fstE;cases k with
  |zero=>exact um hb
  |succ k=>
   rw[ul (by have:=h 0 omq;simpa using this)];rw[jq6 c n k (m+1) omq (fun j hj=>by rw[show m+1+j=m+(j+1) by omega];exact h (j+1) omq) (by rw[show m+1+k=m+(k+1) by omega];exact hb)];rw[show m+1+k=m+(k+1) by omega]
theorem jol(c:Nat->Int×Int):∀(n m:Nat),(∀j,j<n->(c (m+j)).2=0)->fstE ((List.range' m n).map fun j=>(c j).2)=0
 |0,m,_=>rfl
 |n+1,m,h=>by
  rw[List.range'_succ,vl];unfold fstE;rw[ul (by have:=h 0 omq;simpa using this)];exact jol c n (m+1) fun j hj=>by rw[show m+1+j=m+(j+1) by omega];exact h (j+1) omq
theorem qmc(L:LibC T)(r:Rgs)(h:r.Fit):Den prog T 98 [.agg r.cs] (vi (jel r)):=by
 have hrows:∀k,k<5->∃g,[[V.func 164 [.row r.cs]],[V.func 166 [.row r.cs]],[V.func 168 [.row r.cs]],[V.func 170 [.row r.cs]],[V.func 172 [.row r.cs]]][k]?=some [.func g [.row r.cs]]/\Den prog T g [.row r.cs] (chkV (lowE r k)):=fun k hk=>by
  match k,hk with
  |0,_=>exact⟨_,rfl,qiq L r h⟩
  |1,_=>exact⟨_,rfl,qip L r h⟩
  |2,_=>exact⟨_,rfl,qio L r h⟩
  |3,_=>exact⟨_,rfl,qin L r h⟩
  |4,_=>exact⟨_,rfl,qim L r h⟩
 have hE:jel r=fstE ((List.range' 0 5).map fun j=>(lowE r j).2):=rfl;rw[hE];obtain⟨c,hc⟩:∃c,lowE r=c:=⟨_,rfl⟩;rw[hc] at hrows ⊢;refine ab call98 func98 29 ?_;refine run ?_;obtain⟨R,hR⟩:∃R,[[V.func 164 [.row r.cs]],[V.func 166 [.row r.cs]],[V.func 168 [.row r.cs]],[V.func 170 [.row r.cs]],[V.func 172 [.row r.cs]]]=R:=⟨_,rfl⟩;have hRl:R.length=5:=by rw[<- hR];rfl
 rw[hR] at hrows
 refine loop ⟨[2,14,15,16],[],[],[]⟩ (fun k:Nat=>k<=5/\∀j,j<k->(c j).2=0) (fun k=>5-k)
  (fun k=>⟨29,[(2,.v (vi 0)),(14,.v (.slice 1 R)),(15,.v (vi 5)),(16,.v (vi k))],[],[]⟩) 0 ⟨dcq,fun j hj=>absurd hj (yf j)⟩ ?_ (by rw[<- hR];rfl)
 rintro k ⟨hk,hall⟩;by_cases hlt:k<5
 .obtain⟨g,hg,hden⟩:=hrows k hlt;have hkR:k<R.length:=omq;refine rcW hg hden ?_;by_cases hz:(c k).2=0
  .refine runW hz ?_;refine round (k+1) ⟨hlt,fun j hj=>?_⟩ omq;by_cases hjk:j=k
   .subst hjk;exact hz
   exact hall j omq
  refine runW hz ?_;refine fin (ah ?_);have:=jq6 c 5 k 0 hlt (fun j hj=>by rw[vx];exact hall j hj) (by rw[vx];exact hz);rw[this,vx]
 refine run ?_;refine fin (ah ?_);exact(jol c 5 0 fun j hj=>by rw[vx];exact hall j omq).symm
theorem qdf{κ:List (Nat×Nat)}{h:List (Nat×Blk)}: ∀l:List V,ArgsM κ h (l.map .v) (l.map .v)
 |[]=>.nil
 |x::l=>.cons (.v x) (qdf l)
theorem ky{P:Program}{rs:List ResultVar}{i:Nat}{es:List (V×V)}{nm:Option Nat}{r r':TV}{st:St}(h3:WkT r' r)(hB:Go.Ab.look i st.h=some (.map es nm):=by rfl)(h2:resT P st rs=some r':=by rfl):ji8 P rs [(i,.map es nm)] [] r .rt st:=
 finS (fun x hx=>by simp only[xy] at hx;subst hx;exact⟨_,hB,.map (.inr rfl)⟩) h3 h2
theorem jkw(l:List Fil)(n:Int):decide (cv l n<0)= !hasF l n:=by
 unfold cv hasF;have:=ju (iw n) l;cases h:l.any (iw n) with
 |true=>
  rw[h] at this;have h2:(l.any fun f=>decide (f.id=n))=true:=h;rw[h2];simp at this ⊢;omega
 |false=>
  rw[h] at this;have h2:(l.any fun f=>decide (f.id=n))=false:=h;rw[h2];simp at this ⊢;omega
theorem jsy(d:Int):Den prog T 141 [vi d] (vb (dayG d)):=by
 refine ab call141 func141 9 ?_;unfold dayG;by_cases h:0<=d
 .by_cases h2:d<=1048575
  .refine runW (ai (uo h) (uo h2)) ?_;exact fin rfl
  refine runW (ai (uo h) (un h2)) ?_;exact fin rfl
 refine runW (un h) ?_;exact fin rfl
theorem qeh(r:Rgs)(h:r.Fit)(f:Int):Den prog T 176 [vi f,.row r.cs] (vb (!hasF r.fls f)):=by
 have hl:=h.fls.1;refine ab call176 func176 9 ?_;refine rc (jlc r.fls f hl) ?_;refine run ?_;exact fin (ae (jkw r.fls f))
abbrev gBlk(ps:List (Int×Bool))(b:Nat):List (Nat×Blk):=[(999000,.map (mapG ps) (some b))]
instance:TZV prog 4 (.bool false):=⟨krq⟩
theorem jrq(ps:List (Int×Bool))(b:Nat)(f:Int):DenS prog T 177 (gBlk ps b) [] [.v (vi f),.v (.row [.val (.map (some b))])] (gBlk ps b) [] (.v (vb (getG ps f))):=by
 have hf:=jl3 f ps;have hg:=jwe ps f;refine lc follows (fun args w=>call177 args w) func177 rfl 7 rfl rfl ?_;refine runW (ai hf hg) ?_;exact zbc
theorem qjj(l:List Int)(f:FuncId)(cap:List V)(p:Int->Bool)(ps:List (Int×Bool))(b:Nat)(hl:l.length<=1048576)(hp:∀e∈l,DenS prog T f (gBlk ps b) [] (.v (vi e)::cap.map .v) (gBlk ps b) [] (.v (vb (p e)))):
   DenS prog T 139 (gBlk ps b) [] [.v (ints l),.v (.func f cap)] (gBlk ps b) [] (.v (vi (ix p l))):=by
  refine lc follows (fun args w=>call139 args w) func139 rfl 19 rfl rfl ?_;refine run ?_;refine aj ⟨[8,0,1,7],[999000],[],[]⟩ l.length (fun k=>∀e∈l.take k,p e=false) smq ?_;rintro k ⟨hk,hall⟩;by_cases hlt:k<l.length
  . obtain⟨x,hx,-,hm⟩:=ac hlt;refine runW hx ?_;refine mo (rl [(999000,999000)] (hp x hm) (.cons (.v _) (qdf cap)) ?_ ?_)
    . exact zi
    cases hpc:p x
    . exact zct
    refine run ?_;rw[<- nv hall hx hpc];exact zbc
  refine run ?_;rw[<- ov hall hlt];exact zbc
theorem jtc(l:List Int)(f:FuncId)(cap:List V)(p:Int->Bool)(ps:List (Int×Bool))(b:Nat)(hl:l.length<=1048576)(hp:∀e∈l,DenS prog T f (gBlk ps b) [] (.v (vi e)::cap.map .v) (gBlk ps b) [] (.v (vb (p e)))):
   DenS prog T 83 (gBlk ps b) [] [.v (ints l),.v (.func f cap)] (gBlk ps b) [] (.v (vb (l.any p))):=by
  refine lc follows (fun args w=>call83 args w) func83 rfl 9 rfl rfl ?_;refine run ?_;refine mo (rl [(999000,999000)] (qjj l f cap p ps b hl hp) (.cons (.v _) (.cons (.v _) .nil)) ?_ ?_)
  . exact zi
  refine run ?_;refine ky (.v (.of (ae ?_)));exact ju p l
theorem qfm:Den prog T 175 [ints []] (ints []):=by
 refine ab call175 func175 61 ?_;exact za
theorem qti(l:List Int)(p q:Int->Bool)(h:∀x∈l,p x=q x):l.any p=l.any q:=by
 induction l with
 |nil=>rfl
 |cons x r ih=>rw[List.any_cons,List.any_cons,h x (.head _),ih fun y hy=>h y (.tail _ hy)]
theorem qr8(fs:List Fil)(l:List Int):(l.any fun f=> !hasF fs f)= !(l.all (hasF fs)):=by
 induction l with
 |nil=>rfl
 |cons x r ih=>rw[List.any_cons,List.all_cons,ih];cases hasF fs x<;>rfl
def psAt(ps:List (Int×Bool))(l:List Elm)(k:Nat):List (Int×Bool):=(l.take k).foldl (fun ps x=>addG ps x.fls x.gone) ps
theorem jkq(ps:List (Int×Bool)){l:List Elm}(h:l[k]?=some x):psAt ps l (k+1)=addG (psAt ps l k) x.fls x.gone:=by
 unfold psAt;rw[jg0 h,qvk];rfl
theorem jy5(o:Option Nat):((Value.map o).oneCell'=true)=True:=uo rfl
theorem jk9(d:Int):Den prog T 229 [vi d] (vb (dayG d)):=by
 refine ab call229 func229 9 ?_;unfold dayG;by_cases h:0<=d
 .by_cases h2:d<=1048575
  .refine runW (ai (uo h) (uo h2)) ?_;exact fin rfl
  refine runW (ai (uo h) (un h2)) ?_;exact fin rfl
 refine runW (un h) ?_;exact fin rfl
def ko(fs:List Fil)(l:List Int):Int:=if l.all (hasF fs)=false then 7 else if risI l=false then 5 else 0
theorem jwg(h:cv fs n<0):hasF fs n=false:=by
 have:=jkw fs n;rw[ur h] at this;cases e:hasF fs n
 .rfl
 rw[e] at this;cases this
theorem jwf(h:¬cv fs n<0):hasF fs n=true:=by
 have:=jkw fs n;rw[ux h] at this;cases e:hasF fs n
 .rw[e] at this;cases this
 rfl
theorem jyl{l:List Int}{x:Int}(hx:l[k]?=some x)(h:hasF fs x=false):ko fs l=7:=by
 unfold ko;rw[um];rw[List.all_eq_false];exact⟨x,vc hx,by rw[h];decide⟩
theorem jsz(_L:LibC T)(r:Rgs)(l:List Int)(h:r.Fit)(hl:l.length<=1048576):Den prog T 230 [.agg r.cs,ints l] (vi (ko r.fls l)):=by
 have hf:=h.fls.1;refine ab call230 func230 37 ?_;refine run ?_;refine aj ⟨[5,1,2],[2],[],[]⟩ l.length (fun k=>∀e∈l.take k,hasF r.fls e=true) smq ?_;rintro k ⟨hk,hall⟩;by_cases hlt:k<l.length
 .obtain⟨x,hx,-,-⟩:=ac hlt;refine rcW hx (jfk r.fls x hf) ?_;by_cases hn:cv r.fls x<0
  .rw[jyl hx (jwg hn)];refine runW (uo hn) ?_;exact fin rfl
  refine runW (un hn) ?_;exact round (k+1) ⟨hlt,an hall hx (jwf hn)⟩ omq
 have hall:=dh hall hlt
 have h7:ko r.fls l=if risI l=false then 5 else 0:=by
  unfold ko;rw[ul];rw[vj.2 hall];decide
 rw[h7];clear h7;refine run ?_;refine bp ⟨[6,1],[],[],[]⟩ (fun k:Nat=>1<=k/\(k<=l.length\/k=1)/\∀(i:Nat) x y,i+1<k->l[i]?=some x->l[i+1]?=some y->x<y) (fun k=>l.length-k) (fun k=>[(6,.v (vi k))]) 1 ⟨uv _,.inr rfl,fun i x y hi=>by omega⟩ ?_;rintro k ⟨h1,hk,hasc⟩;by_cases hlt:k<l.length
 .obtain⟨x,hx,-,-⟩:=ac hlt;obtain⟨y,hy,-,-⟩:=ac (l:=l) (k:=k-1) omq;by_cases hxy:x<=y
  .have hr:risI l=false:=by
    cases e:risI l
    .rfl
    have:=(oh l).1 e (k-1) y x hy (by rw[show k-1+1=k by omega];exact hx);omega
   rw[um hr];refine runW (ai hx (ai hy (uo hxy))) ?_;exact fin rfl
  refine runW (ai hx (ai hy (un hxy))) ?_;refine round (k+1) ⟨omq,.inl hlt,fun i u v hi hu hv=>?_⟩ omq;by_cases hik:i+1=k
  .subst hik;rw[qwv] at hy;rw[hy] at hu;rw[hx] at hv;cases hu;cases hv;omega
  exact hasc i u v omq hu hv
 have hr:risI l=true:=(oh l).2 fun i x y hx hy=>hasc i x y (by have:=(gsi.1 hy).1;omega) hx hy;rw[ul (by rw[hr];decide)];exact za
theorem jav{pre:List Elm}(h:idB x.id=false\/dayG x.day=false):elmE fs pre last x=2:=by unfold elmE;rw[um h]
theorem jqd{pre:List Elm}(h:¬(idB x.id=false\/dayG x.day=false))(hf:ko fs x.fls≠0):elmE fs pre last x=ko fs x.fls:=by
 unfold elmE ko at *;rw[ul h];by_cases h7:x.fls.all (hasF fs)=false
 .rw[um h7,um h7]
 rw[ul h7] at hf ⊢;rw[ul h7];by_cases h5:risI x.fls=false
 .rw[um h5,um (.inl h5)]
 rw[ul h5] at hf;exact absurd rfl hf
def jf1(last:Option Elm)(x:Elm):Bool:=match last with|some q=>decide (x.day<q.day)|none=>false
theorem jqc{pre:List Elm}(h:¬(idB x.id=false\/dayG x.day=false))(hf:ko fs x.fls=0):elmE fs pre last x=if jf1 last x=true then 5 else if x.gone=true/\x.fls.any (ax pre)=true then 6 else 0:=by
 unfold elmE;unfold ko at hf;rw[ul h];by_cases h7:x.fls.all (hasF fs)=false
 .rw[um h7] at hf;cases hf
 rw[ul h7] at hf ⊢;by_cases h5:risI x.fls=false
 .rw[um h5] at hf;cases hf
 by_cases h6:jf1 last x=true
 .rw[um h6,um (.inr h6)]
 rw[ul h6,ul (fun e=>e.elim h5 h6)]
theorem joh(l:List Elm)(x:Elm):jf1 (ca l 0) x=false:=rfl
theorem jog{l:List Elm}(h0:k≠0){q:Elm}(hq:l[k-1]?=some q)(x:Elm):jf1 (ca l k) x=decide (x.day<q.day):=by unfold jf1 ca;rw[ul h0,hq]
theorem jor{l pre:List Elm}(hx:l[k]?=some x)(h1:elsE fs pre none l=elsE fs (pre++l.take k) (ca l k) (l.drop k)):
  (∀n,elmE fs (pre++l.take k) (ca l k) x=n->n≠0->elsE fs pre none l=n)/\(elmE fs (pre++l.take k) (ca l k) x=0->elsE fs pre none l=elsE fs (pre++l.take (k+1)) (ca l (k+1)) (l.drop (k+1))):=by
 have e1:=jwn (fs:=fs) hx (pre++l.take k) (ca l k);refine⟨fun n hn h0=>?_,fun h0=>?_⟩
 .subst hn;rw[um h0] at e1;exact h1.trans e1
 rw[ul (by rw[h0];decide)] at e1;rw[vt,<- jg0 hx] at e1;rw[jso hx];exact h1.trans e1
theorem jzw{s:Sel}(h:r.sls[k]?=some s):(selE r)[k]?=some s.el:=by unfold selE;rw[vm,h];rfl
theorem qbo{s:Crt}(h:r.crs[k]?=some s):(crtE r)[k]?=some s.el:=by unfold crtE;rw[vm,h];rfl
theorem qbh{s:Dep}(h:r.dps[k]?=some s):(depE r)[k]?=some s.el:=by unfold depE;rw[vm,h];rfl
theorem jc1(n:Int):idB n=false↔n<1\/1073741824<n:=by
 unfold idB;rw[qvy];omega
theorem qdn(L:LibC T)(r:Rgs)(h:r.Fit):Den prog T 149 [.agg r.cs] (vi (cm r.fls [] (selE r))):=by
 have hl:=h.sls.1;have hlen:(selE r).length=r.sls.length:=ut _;refine ab call149 func149 66 ?_;unfold cm;rw[hlen];by_cases hbig:1024<r.sls.length
 .exact zcu
 rw[ul hbig];refine runW (un hbig) ?_;refine aj ⟨[4,1,3],[1],[],[]⟩ r.sls.length (fun k=>elsE r.fls [] none (selE r)=elsE r.fls ([]++(selE r).take k) (ca (selE r) k) ((selE r).drop k)) rfl ?_;rintro k ⟨hk,h1⟩;by_cases hlt:k<r.sls.length
 .obtain⟨x,hx,-,hm⟩:=ac hlt;obtain⟨hbad,hnext⟩:=jor (jzw hx) h1;have hxf:=h.sls.2 x hm;by_cases h2:x.smp<1
  .exact zc5
  by_cases h3:1073741824<x.smp
  .exact zcl
  refine rcW (ai hx (ai (un h2) (un h3))) (jk9 x.day) ?_;cases hd:dayG x.day
  .rw[hbad 2 (jav (.inr hd)) dcq];exact za
  have hok:¬(idB x.el.id=false\/dayG x.el.day=false):=by
   rintro (e|e)
   .have:=(jc1 _).1 e;exact this.elim h2 h3
   rw[show x.el.day=x.day from rfl,hd] at e;cases e
  refine rcW hx (jsz L r x.fls h hxf) ?_;by_cases hf:ko r.fls x.fls=0
  .have hr:=jqc (pre:=[]++(selE r).take k) (last:=ca (selE r) k) hok hf;by_cases hk0:k=0
   .subst hk0;rw[joh] at hr;refine runW (ai hf hx) ?_;exact round 1 ⟨hlt,hnext hr⟩ omq
   obtain⟨y,hy,-,-⟩:=ac (l:=r.sls) (k:=k-1) omq;have hpos:(0:Int)<k:=omq;rw[jog hk0 (jzw hy)] at hr;by_cases hlt2:x.day<y.day
   .rw[um (ur (show x.el.day<y.el.day from hlt2))] at hr;rw[hbad 5 hr dcq];refine runW (ai hf (ai hx (ai hy (ai (uo hpos) (uo hlt2))))) ?_;exact fin rfl
   rw[ul zff] at hr;refine runW (ai hf (ai hx (ai hy (ai (uo hpos) (un hlt2))))) ?_;exact round (k+1) ⟨hlt,hnext hr⟩ omq
  rw[hbad _ (jqd hok hf) hf];refine runW hf ?_;exact fin rfl
 have hkl:k=r.sls.length:=omq;exact zda
theorem jom{x:α}(c:Nat)(hc:k<c)(h:∀e∈l.take k,p e=false)(hx:l[k]?=some x)(hp:p x=true):(l.take c).find? p=some x:=by
 obtain⟨hlt,rfl⟩:=gsi.1 hx;rw[List.find?_eq_some_iff_getElem];refine⟨hp,k,by rw[vz];omega,by rw[List.getElem_take],fun j hj=>?_⟩;have:=h l[j] (qw7.2 ⟨j,by rw[xt,um hj];exact gge _⟩);rw[List.getElem_take,this];rfl
theorem qb5{c:Nat}(h:∀e∈l.take c,p e=false):(l.take c).find? p=none:=by
 rw[xw];intro x hx;rw[h x hx];decide
theorem qaw{l:List Int}{x:Int}(hx:l[k]?=some x)(h:x=n):hasI n l=true:=vp.2 ⟨x,vc hx,ur h⟩
theorem qav{l:List Int}(h:∀e∈l,e≠n):hasI n l=false:=vn.2 fun e he=>by rw[ux (h e he)];decide
theorem je8(r:Rgs)(h:r.Fit)(n:Int)(c d:Nat)(hc:c<=r.crs.length)(hd:d<=r.dps.length):Den prog T 92 [.agg r.cs,vi n,vi c,vi d] (.tup [vi (dm r n c d).1,vi (dm r n c d).2]):=by
 have hcb:=h.crs.1;have hdb:=h.dps;have hgo:((r.crs.take c).find? fun x=>hasI n x.fls)=none->dm r n c d=match (r.dps.take d).find? fun x=>decide (x.fil=n) with|some x=>(x.day,2)|none=>(0,0):=fun e=>by unfold dm;rw[e];rfl
 refine ab call92 func92 65 ?_;refine run ?_;refine aj ⟨[10,1,2,3,4],[4],[],[]⟩ c (fun k=>∀e∈r.crs.take k,hasI n e.fls=false) smq ?_;rintro k ⟨hk,hall⟩;by_cases hlt:k<c
 .obtain⟨x,hx,-,hm⟩:=ac (l:=r.crs) (k:=k) omq;have hxf:=(h.crs.2 x hm).1;refine run ?_;refine aj ⟨[11,1,2,3,4,10],[4],[],[]⟩ x.fls.length (fun j=>∀e∈x.fls.take j,e≠n) smq ?_;rintro j ⟨hj,hall2⟩;by_cases hjl:j<x.fls.length
  .obtain⟨y,hy,-,-⟩:=ac hjl;by_cases hyn:y=n
   .have hg:dm r n c d=(x.day,1):=by unfold dm;rw[jom c hlt hall hx (qaw hy hyn)]
    rw[hg];refine runW (ai hx (ai hy hyn)) ?_;exact fin rfl
   refine runW (ai hx (ai hy (un hyn))) ?_;exact round (j+1) ⟨hjl,an hall2 hy hyn⟩ omq
  refine runW hx ?_;exact round (k+1) ⟨hlt,an hall hx (qav (dh hall2 hjl))⟩ omq
 have hkc:k=c:=omq;subst hkc;rw[hgo (qb5 hall)];refine run ?_;refine aj ⟨[12,1,3,4],[4],[],[]⟩ d (fun k=>∀e∈r.dps.take k,decide (e.fil=n)=false) smq ?_;rintro j ⟨hj,hall2⟩;by_cases hjl:j<d
 .obtain⟨y,hy,-,-⟩:=ac (l:=r.dps) (k:=j) omq;by_cases hyn:y.fil=n
  .rw[jom d hjl hall2 hy (ur hyn)];refine runW (ai hy hyn) ?_;exact fin rfl
  refine runW (ai hy (un hyn)) ?_;exact round (j+1) ⟨hjl,an hall2 hy (ux hyn)⟩ omq
 have hjd:j=d:=omq;subst hjd;rw[qb5 hall2];exact za
theorem qn6(r:Rgs)(h:r.Fit)(n:Int)(c:Nat)(hc:c<=r.crs.length):Den prog T 92 [.agg r.cs,vi n,vi c,vi 0] (.tup [vi (dm r n c 0).1,vi (dm r n c 0).2]):=je8 r h n c 0 hc (uq _)
theorem qj9(r:Rgs)(h:r.Fit)(n:Int):Den prog T 92 [.agg r.cs,vi n,vi 0,vi 0] (.tup [vi (dm r n 0 0).1,vi (dm r n 0 0).2]):=je8 r h n 0 0 (uq _) (uq _)
theorem jl0(a b:List Elm)(n:Int):ax (a++b) n=(ax a n || ax b n):=qwm
theorem jw4(r:Rgs)(n:Int):ax (selE r) n=false:=by
 unfold ax selE;rw[vn];intro x hx;obtain⟨s,-,rfl⟩:=xi.1 hx;simp[Sel.el]
theorem jw5(l:List Crt)(n:Int):ax (l.map Crt.el) n=l.any fun x=>hasI n x.fls:=by
 unfold ax;rw[List.any_map];rfl
theorem qlo(l:List Dep)(n:Int):ax (l.map Dep.el) n=l.any fun x=>decide (x.fil=n):=by
 unfold ax;rw[List.any_map];congr 1
 funext x
 simp[Dep.el]
theorem jhq(p:α->Bool)(l:List α):l.any p=(l.find? p).isSome:=by
 induction l with
 |nil=>rfl
 |cons x r ih=>
  rw[List.any_cons,List.find?_cons,ih];cases p x<;>rfl
theorem qay(r:Rgs)(n:Int)(c:Nat):ax (selE r++(crtE r).take c) n=decide ((dm r n c 0).2≠0):=by
 rw[jl0,jw4,yb];unfold crtE;rw[<- qvm,jw5,jhq];unfold dm;cases e:(r.crs.take c).find? fun x=>hasI n x.fls with
 |some x=>rfl
 |none=>rw[List.take_zero];rfl
theorem qsb(r:Rgs)(n:Int)(d:Nat):ax ((selE r++crtE r)++(depE r).take d) n=decide ((dm r n r.crs.length d).2≠0):=by
 rw[jl0,jl0,jw4,yb];unfold crtE depE;rw[<- qvm,jw5,qlo,jhq,jhq];unfold dm;rw[vk];cases e:r.crs.find? fun x=>hasI n x.fls with
 |some x=>rfl
 |none=>
  cases e:(r.dps.take d).find? fun x=>decide (x.fil=n) with
  |some x=>rfl
  |none=>rfl
theorem qdk(L:LibC T)(r:Rgs)(h:r.Fit):Den prog T 150 [.agg r.cs] (vi (cm r.fls (selE r) (crtE r))):=by
 have hl:=h.crs.1;have hlen:(crtE r).length=r.crs.length:=ut _;refine ab call150 func150 95 ?_;unfold cm;rw[hlen];by_cases hbig:1024<r.crs.length
 .exact zcu
 rw[ul hbig];refine runW (un hbig) ?_;refine aj ⟨[4,1,3],[1],[],[]⟩ r.crs.length (fun k=>elsE r.fls (selE r) none (crtE r)=elsE r.fls (selE r++(crtE r).take k) (ca (crtE r) k) ((crtE r).drop k)) (by rw[List.take_zero,vw];rfl) ?_;rintro k ⟨hk,h1⟩;by_cases hlt:k<r.crs.length
 .obtain⟨x,hx,-,hm⟩:=ac hlt;obtain⟨hbad,hnext⟩:=jor (qbo hx) h1;have hxf:=(h.crs.2 x hm).1;by_cases h2:x.num<1
  .exact zc5
  by_cases h3:1073741824<x.num
  .exact zcl
  refine rcW (ai hx (ai (un h2) (un h3))) (jk9 x.day) ?_;cases hd:dayG x.day
  .rw[hbad 2 (jav (.inr hd)) dcq];exact za
  have hok:¬(idB x.el.id=false\/dayG x.el.day=false):=by
   rintro (e|e)
   .have:=(jc1 _).1 e;exact this.elim h2 h3
   rw[show x.el.day=x.day from rfl,hd] at e;cases e
  refine rcW hx (jsz L r x.fls h hxf) ?_;by_cases hf:ko r.fls x.fls=0
  .have hr:=jqc (pre:=selE r++(crtE r).take k) (last:=ca (crtE r) k) hok hf;by_cases hk0:k=0
   .subst hk0;rw[joh,ul Bool.false_ne_true] at hr;have hgc0:=fun y=>qay r y 0;obtain⟨pr,hpr⟩:∃pr,selE r++(crtE r).take 0=pr:=⟨_,rfl⟩;rw[hpr] at hr hgc0 hbad hnext;refine runW (ai hf hx) ?_;refine aj ⟨[6,1,3,4],[1],[],[]⟩ x.fls.length (fun j=>∀e∈x.fls.take j,ax pr e=false) smq ?_;rintro j ⟨hj,hall⟩;by_cases hjl:j<x.fls.length
    .obtain⟨y,hy,-,-⟩:=ac hjl;have hgc:=hgc0 y;refine rcW (ai hx hy) (qj9 r h y) ?_;by_cases hb:(dm r y 0 0).2=0
     .exact zd9
     have h6:x.el.gone=true/\x.el.fls.any (ax pr)=true:=⟨rfl,vp.2 ⟨y,vc hy,by rw[hgc];exact ur hb⟩⟩;rw[um h6] at hr;exact zcc
    have h6:¬(x.el.gone=true/\x.el.fls.any (ax pr)=true):=fun e=>by
     obtain⟨y,hy,hg⟩:=vp.1 e.2;rw[dh hall hjl y hy] at hg;cases hg
    rw[ul h6] at hr;refine runW hx ?_;exact round 1 ⟨hlt,hnext hr⟩ omq
   obtain⟨z,hz,-,-⟩:=ac (l:=r.crs) (k:=k-1) omq;have hpos:(0:Int)<k:=omq;rw[jog hk0 (qbo hz)] at hr;by_cases hlt2:x.day<z.day
   .rw[um (ur (show x.el.day<z.el.day from hlt2))] at hr;rw[hbad 5 hr dcq];refine runW (ai hf (ai hx (ai hz (ai (uo hpos) (uo hlt2))))) ?_;exact fin rfl
   rw[ul zff] at hr;refine runW (ai hf (ai hx (ai hz (ai (uo hpos) (un hlt2))))) ?_;refine aj ⟨[6,1,3,4],[1],[],[]⟩ x.fls.length (fun j=>∀e∈x.fls.take j,ax (selE r++(crtE r).take k) e=false) smq ?_;rintro j ⟨hj,hall⟩;by_cases hjl:j<x.fls.length
   .obtain⟨y,hy,-,-⟩:=ac hjl;have hgc:=qay r y k;refine rcW (ai hx hy) (qn6 r h y k omq) ?_;by_cases hb:(dm r y k 0).2=0
    .exact zd9
    have h6:x.el.gone=true/\x.el.fls.any (ax (selE r++(crtE r).take k))=true:=⟨rfl,vp.2 ⟨y,vc hy,by rw[hgc];exact ur hb⟩⟩;rw[um h6] at hr;exact zcc
   have h6:¬(x.el.gone=true/\x.el.fls.any (ax (selE r++(crtE r).take k))=true):=fun e=>by
    obtain⟨y,hy,hg⟩:=vp.1 e.2;rw[dh hall hjl y hy] at hg;cases hg
   rw[ul h6] at hr;refine runW hx ?_;exact round (k+1) ⟨hlt,hnext hr⟩ omq
  rw[hbad _ (jqd hok hf) hf];refine runW hf ?_;exact fin rfl
 have hkl:k=r.crs.length:=omq;exact zda
theorem qdo(_L:LibC T)(r:Rgs)(h:r.Fit):Den prog T 151 [.agg r.cs] (vi (cm r.fls (selE r++crtE r) (depE r))):=by
 have hl:=h.dps;have hf:=h.fls.1;have hlen:(depE r).length=r.dps.length:=ut _;refine ab call151 func151 66 ?_;unfold cm;rw[hlen];by_cases hbig:1024<r.dps.length
 .exact zcu
 rw[ul hbig];refine runW (un hbig) ?_;refine aj ⟨[4,1,3],[1],[],[]⟩ r.dps.length (fun k=>elsE r.fls (selE r++crtE r) none (depE r)=elsE r.fls ((selE r++crtE r)++(depE r).take k) (ca (depE r) k) ((depE r).drop k)) (by rw[List.take_zero,vw];rfl) ?_;rintro k ⟨hk,h1⟩;by_cases hlt:k<r.dps.length
 .obtain⟨x,hx,-,hm⟩:=ac hlt;obtain⟨hbad,hnext⟩:=jor (qbh hx) h1;refine rcW hx (jk9 x.day) ?_;cases hd:dayG x.day
  .rw[hbad 2 (jav (.inr hd)) dcq];exact za
  have hok:¬(idB x.el.id=false\/dayG x.el.day=false):=by
   rintro (e|e)
   .cases e
   rw[show x.el.day=x.day from rfl,hd] at e;cases e
  refine rcW hx (jfk r.fls x.fil hf) ?_;by_cases hn:cv r.fls x.fil<0
  .have h7:ko r.fls x.el.fls=7:=jyl (k:=0) (x:=x.fil) rfl (jwg hn);rw[hbad _ (jqd hok (by rw[h7];decide)) (by rw[h7];decide),h7];refine runW (uo hn) ?_;exact fin rfl
  have h0:ko r.fls x.el.fls=0:=by
   show (if [x.fil].all (hasF r.fls)=false then(7:Int) else if risI [x.fil]=false then 5 else 0)=0
   rw[List.all_cons,jwf hn];rfl
  have hr:=jqc (pre:=(selE r++crtE r)++(depE r).take k) (last:=ca (depE r) k) hok h0;have hgd:=qsb r x.fil k
  have hany:x.el.fls.any (ax ((selE r++crtE r)++(depE r).take k))=decide ((dm r x.fil r.crs.length k).2≠0):=by
   rw[<- hgd]
   show (ax ((selE r++crtE r)++(depE r).take k) x.fil || false)=_
   rw[xx]
  rw[hany] at hr;have hcl:=h.crs.1;by_cases hk0:k=0
  .subst hk0;rw[joh,ul Bool.false_ne_true] at hr;refine rcW (ai (un hn) hx) (je8 r h x.fil r.crs.length 0 (uv _) (uq _)) ?_;by_cases hb:(dm r x.fil r.crs.length 0).2=0
   .rw[ul (fun e=>absurd hb (xp e.2))] at hr;refine runW hb ?_;exact round 1 ⟨hlt,hnext hr⟩ omq
   rw[um ⟨rfl,ur hb⟩] at hr;exact zcc
  obtain⟨z,hz,-,-⟩:=ac (l:=r.dps) (k:=k-1) omq;have hpos:(0:Int)<k:=omq;rw[jog hk0 (qbh hz)] at hr;by_cases hlt2:x.day<z.day
  .rw[um (ur (show x.el.day<z.el.day from hlt2))] at hr;rw[hbad 5 hr dcq];refine runW (ai (un hn) (ai hx (ai hz (ai (uo hpos) (uo hlt2))))) ?_;exact fin rfl
  rw[ul zff] at hr;refine rcW (ai (un hn) (ai hx (ai hz (ai (uo hpos) (un hlt2))))) (je8 r h x.fil r.crs.length k (uv _) omq) ?_;by_cases hb:(dm r x.fil r.crs.length k).2=0
  .rw[ul (fun e=>absurd hb (xp e.2))] at hr;refine runW hb ?_;exact round (k+1) ⟨hlt,hnext hr⟩ omq
  rw[um ⟨rfl,ur hb⟩] at hr;exact zcc
 have hkl:k=r.dps.length:=omq;exact zda
theorem qes(L:LibC T)(r:Rgs)(h:r.Fit):Den prog T 86 [.agg r.cs] (vi (checkG r)):=by
 refine ab call86 func86 60 ?_;unfold checkG;refine rc (jrv r.ofs h.ofs) ?_;by_cases e1:(fy r.ofs).2=0
 case neg=>
  simp only[fstE,ne_eq,e1,not_false_eq_true,uy];refine runW e1 ?_;exact fin rfl
 refine rcW e1 (jsa r.pls h.pls) ?_;by_cases e2:(check r.pls).2=0
 case neg=>
  simp only[fstE,ne_eq,e2,not_false_eq_true,not_true,uy,va];refine runW e2 ?_;exact fin rfl
 refine rcW e2 (qet r.ofs r.pls r.fls h.ofs h.pls h.fls) ?_;by_cases e3:(jr r.ofs r.pls r.fls).2=0
 case neg=>
  simp only[fstE,ne_eq,e3,not_false_eq_true,not_true,uy,va];refine runW e3 ?_;exact fin rfl
 refine rcW e3 (jru r.rls h.rls) ?_;by_cases e4:(fh r.rls).2=0
 case neg=>
  simp only[fstE,ne_eq,e4,not_false_eq_true,not_true,uy,va];refine runW e4 ?_;exact fin rfl
 refine rcW e4 (qer r.hls h.hls) ?_;by_cases e5:(ji r.hls).2=0
 case neg=>
  simp only[fstE,ne_eq,e5,not_false_eq_true,not_true,uy,va];refine runW e5 ?_;exact fin rfl
 refine rcW e5 (qdn L r h) ?_;by_cases e6:cm r.fls [] (selE r)=0
 case neg=>
  simp only[fstE,ne_eq,e6,not_false_eq_true,not_true,uy,va];refine runW e6 ?_;exact fin rfl
 refine rcW e6 (qdk L r h) ?_;by_cases e7:cm r.fls (selE r) (crtE r)=0
 case neg=>
  simp only[fstE,ne_eq,e7,not_false_eq_true,not_true,uy,va];refine runW e7 ?_;exact fin rfl
 refine rcW e7 (qdo L r h) ?_;by_cases e8:cm r.fls (selE r++crtE r) (depE r)=0
 .simp only[fstE,ne_eq,e8,not_true,va];refine runW e8 ?_;exact fin rfl
 simp only[fstE,ne_eq,e8,not_false_eq_true,not_true,uy,va];refine runW e8 ?_;exact fin rfl
def selR(r:Rgs)(n d:Int):Int×Int×Bool:=match r.sls.find? fun s=>hasI n s.fls && decide (s.day<=d) with
 |some s=>(s.smp,s.day,true)
 |none=>(0,0,false)
theorem qtn(r:Rgs)(f:Fil)(d:Int):(selR r f.id d).2.2=selB r f d:=by
 have h:selB r f d=r.sls.any fun s=>hasI f.id s.fls && decide (s.day<=d):=by
  unfold selB ib hasI;congr 1
  funext s
  rw[Bool.and_comm]
 rw[h,jhq];unfold selR;cases r.sls.find? fun s=>hasI f.id s.fls && decide (s.day<=d) with
 |some s=>rfl
 |none=>rfl
theorem jhk{x:α}(h:∀e∈l.take k,p e=false)(hx:l[k]?=some x)(hp:p x=true):l.find? p=some x:=by
 have:=jom (k+1) (Nat.lt_succ_self k) h hx hp;have hlt:=(gsi.1 hx).1;have h2:l.find? p=((l.take (k+1))++l.drop (k+1)).find? p:=by rw[qvv]
 rw[h2,List.find?_append,this];rfl
theorem jhi(h:∀e∈l,p e=false):l.find? p=none:=by
 rw[xw];intro x hx;rw[h x hx];decide
theorem qfq(r:Rgs)(h:r.Fit)(n d:Int):Den prog T 162 [.agg r.cs,vi n,vi d] (.tup [vi (selR r n d).1,vi (selR r n d).2.1,vb (selR r n d).2.2]):=by
 have hlb:=h.sls.1;refine ab call162 func162 62 ?_;refine run ?_;refine aj ⟨[9,1,2,3],[3],[],[]⟩ r.sls.length (fun k=>∀s∈r.sls.take k,(hasI n s.fls && decide (s.day<=d))=false) smq ?_;rintro k ⟨hk,hall⟩;by_cases hlt:k<r.sls.length
 .obtain⟨x,hx,-,hm⟩:=ac hlt;have hxf:=h.sls.2 x hm;obtain⟨ψ,hψ⟩:∃ ψ:Int->Prop,∀e,ψ e↔¬(e=n/\x.day<=d):=⟨_,fun e=>Iff.rfl⟩;refine run ?_;refine aj ⟨[10,1,2,3,9],[3],[],[]⟩ x.fls.length (fun j=>∀e∈x.fls.take j,ψ e) smq ?_;rintro j ⟨hj,hall2⟩;by_cases hjl:j<x.fls.length
  .obtain⟨y,hy,-,-⟩:=ac hjl;by_cases hyn:y=n
   .by_cases hd:x.day<=d
    .have hg:selR r n d=(x.smp,x.day,true):=by
      unfold selR;rw[jhk hall hx (by rw[qaw hy hyn,ur hd];rfl)]
     rw[hg];refine runW (ai hx (ai hy (ai hyn (uo hd)))) ?_;exact fin rfl
    refine runW (ai hx (ai hy (ai hyn (un hd)))) ?_;exact round (j+1) ⟨hjl,an hall2 hy ((hψ _).2 fun e=>hd e.2)⟩ omq
   refine runW (ai hx (ai hy (un hyn))) ?_;exact round (j+1) ⟨hjl,an hall2 hy ((hψ _).2 fun e=>hyn e.1)⟩ omq
  have hall2:=dh hall2 hjl
  have hno:(hasI n x.fls && decide (x.day<=d))=false:=by
   by_cases hd:x.day<=d
   .rw[qav fun e he en=>(hψ e).1 (hall2 e he) ⟨en,hd⟩,qvg]
   rw[ux hd,xm]
  refine runW hx ?_;exact round (k+1) ⟨hlt,an hall hx hno⟩ omq
 have hno:selR r n d=(0,0,false):=by
  unfold selR;rw[jhi (dh hall hlt)]
 rw[hno];exact za
theorem js6(_L:LibC T)(r:Rgs)(f:Fil)(d:Int)(hr:r.Fit)(hf:f.Fit)(hg:goodR r.rls=true)(hp:goodL r.pls=true):DenO prog T 93 [.agg r.cs,.agg f.cs,vi d] 107 (ruls (ao r f d)):=by
 have hl0:=hr.rls.1;have hcl:=jgk hr.pls hf d;refine lf call93 func93 50 ?_;refine rc (jtb r.pls f d hr.pls hf hp) ?_;by_cases hz:(bu r.pls f d).2=0
 .refine runW hz ?_;refine uh (qfy r.rls (bu r.pls f d).1 d hr.rls hcl) ?_;rw[jtu hz];have hlen:=jd9 r f d;have hmem:∀q∈ao r f d,q∈r.rls:=fun q h=>jg3 h;obtain⟨rs,hrs⟩:∃rs,ao r f d=rs:=⟨_,rfl⟩;rw[hrs] at hlen hmem ⊢;refine run ?_
  refine loop ⟨[3,7,10,11],[3],[7],[]⟩ (fun k:Nat=>k<=rs.length) (fun k=>rs.length-k)
   (fun k=>⟨50,[(3,.p 3 0),(7,.v (ruls (rs.take k))),(10,.v (.slice 1 (List.map Cint (List.map (fun x=>x.id) rs)))),(11,.v (vi k))],[(3,.var r.cs)],[(107,[7])]⟩) 0 (uq _) ?_
  intro k hk;by_cases hlt:k<rs.length
  .obtain⟨x,hx,-,hm⟩:=ac hlt;obtain⟨i,hi,hxi,hfi⟩:=jwd hg (hmem x hm);have hts:(rs.take k).map Rul.cs++[x.cs]=(rs.take (k+1)).map Rul.cs:=by rw[sx hx];simp
   refine runD hx ?_;refine bt [⟨[ff,ff,ff,ff,ff,ff,ff,ff,ff,ff,ff,ff,ff,ff,ff],15,.one 0 0⟩,⟨[tt,ff,ff,ff,ff,ff,ff,ff,ff,ff,ff,ff,ff,ff,ff],14,.one 1 0⟩,⟨[tt,tt,ff,ff,ff,ff,ff,ff,ff,ff,ff,ff,ff,ff,ff],13,.one 3 0⟩,⟨[tt,tt,ff,tt,ff,ff,ff,ff,ff,ff,ff,ff,ff,ff,ff],12,.one 5 0⟩,⟨[tt,tt,ff,tt,ff,tt,ff,ff,ff,ff,ff,ff,ff,ff,ff],11,.one 6 0⟩,⟨[tt,tt,ff,tt,ff,tt,tt,ff,ff,ff,ff,ff,ff,ff,ff],10,.alt [(2,1),(4,0),(7,2)]⟩,⟨[tt,tt,ff,tt,tt,tt,tt,ff,ff,ff,ff,ff,ff,ff,ff],9,.alt [(2,3),(7,2)]⟩,⟨[tt,tt,tt,tt,ff,tt,tt,ff,ff,ff,ff,ff,ff,ff,ff],9,.alt [(4,2),(7,4)]⟩,⟨[tt,tt,ff,tt,ff,tt,tt,tt,ff,ff,ff,ff,ff,ff,ff],9,.alt [(2,3),(4,0),(8,2)]⟩,⟨[tt,tt,ff,tt,tt,tt,tt,tt,ff,ff,ff,ff,ff,ff,ff],8,.alt [(2,3),(8,4)]⟩,⟨[tt,tt,tt,tt,tt,tt,tt,ff,ff,ff,ff,ff,ff,ff,ff],8,.alt [(7,2)]⟩,⟨[tt,tt,ff,tt,ff,tt,tt,tt,tt,ff,ff,ff,ff,ff,ff],8,.alt [(2,3),(4,2)]⟩,⟨[tt,tt,tt,tt,ff,tt,tt,tt,ff,ff,ff,ff,ff,ff,ff],8,.alt [(4,0),(8,2)]⟩,⟨[tt,tt,tt,tt,tt,tt,tt,tt,ff,ff,ff,ff,ff,ff,ff],7,.alt [(8,3)]⟩,⟨[tt,tt,ff,tt,tt,tt,tt,tt,tt,ff,ff,ff,ff,ff,ff],7,.alt [(2,2),(9,1)]⟩,⟨[tt,tt,tt,tt,ff,tt,tt,tt,tt,ff,ff,ff,ff,ff,ff],7,.alt [(4,1)]⟩,⟨[tt,tt,ff,tt,tt,tt,tt,tt,tt,tt,ff,ff,ff,ff,ff],6,.alt [(2,1)]⟩,⟨[tt,tt,tt,tt,tt,tt,tt,tt,tt,ff,ff,ff,ff,ff,ff],6,.alt [(9,0)]⟩,⟨[tt,tt,tt,tt,tt,tt,tt,tt,tt,tt,ff,ff,ff,ff,ff],5,.alt [(10,0)]⟩,⟨[tt,tt,tt,tt,tt,tt,tt,tt,tt,tt,tt,ff,ff,ff,ff],4,.alt [(11,0)]⟩,⟨[tt,tt,tt,tt,tt,tt,tt,tt,tt,tt,tt,tt,ff,ff,ff],3,.alt [(12,0)]⟩,⟨[tt,tt,tt,tt,tt,tt,tt,tt,tt,tt,tt,tt,tt,ff,ff],2,.alt [(13,0)]⟩,⟨[tt,tt,tt,tt,tt,tt,tt,tt,tt,tt,tt,tt,tt,tt,ff],1,.alt [(14,0)]⟩,⟨[tt,tt,tt,tt,tt,tt,tt,tt,tt,tt,tt,tt,tt,tt,tt],0,.fin⟩] ?_;refine il (fun _:Unit=>True) ⟨[3,7,10,11],[3],[7],[]⟩ (fun _=>⟨50,[(3,.p 3 0),(7,.v (ruls (rs.take (k+1)))),(10,.v (.slice 1 (List.map Cint (List.map (fun x=>x.id) rs)))),(11,.v (vi k))],[(3,.var r.cs)],[(107,[7])]⟩) (fun st st' hk h=>ci _ hk h) (fun _ _=>?_) (fun K' hK=>?_)
   .exact zc0
   have hlk:rs.length<=1048576:=omq;refine am hx ?_
   repeat' (with_reducible refine ai ?_ ?_)
   all_goals
    refine call (qfu r.rls x.id hl0) ?_;rw[hfi];refine am (ai hxi hts) ?_
    repeat' (with_reducible refine ai ?_ ?_)
    all_goals exact gk hK () trivial
  have hkl:k=rs.length:=omq;subst hkl;rw[vk];refine runW (show (rs.map (fun x=>x.id)).length=rs.length from ut _) ?_;exact finO (.refl _)
 rw[jtv hz];refine runW hz ?_;exact finO (.refl _)
theorem qod(h:trig f q.trg d=none):ct f d q=true:=by unfold ct;rw[h];rfl
theorem jva{t:Int×Int}(h:trig f q.trg d=some t):ct f d q=false:=by unfold ct;rw[h];rfl
def timV(r:Rgs)(f:Fil)(d:Int)(l:List Rul):Vdt:=match l.find? (ct f d) with
 |some q=>⟨5,f.id,d,q.id,0,[]⟩
 |none=>if d<=(bw f d l (-1,0)).1 then ⟨6,f.id,d,(bw f d l (-1,0)).2,(bw f d l (-1,0)).1,[]⟩ else if cg r.ofs r.pls r.hls f d≠[] then ⟨7,f.id,d,(bw f d l (-1,0)).2,(bw f d l (-1,0)).1,cg r.ofs r.pls r.hls f d⟩ else
  if l.any dx=true\/selB r f d=true then ⟨9,f.id,d,(bw f d l (-1,0)).2,(bw f d l (-1,0)).1,[]⟩ else ⟨8,f.id,d,(bw f d l (-1,0)).2,(bw f d l (-1,0)).1,[]⟩
theorem js3(_L:LibC T)(r:Rgs)(f:Fil)(d:Int)(l:List Rul)(hr:r.Fit)(hf:f.Fit)(hok:OkG r)(hfm:f∈r.fls)(hd:d<=1048575)(h0:l≠[])(hl:∀q∈l,q∈r.rls)(hlb:l.length<=1048576):
  Den prog T 95 [.agg r.cs,.agg f.cs,vi d,ruls l,.agg (vcs 0 f.id d 0 0 (.val (.slice none 0 0)))] (.agg (timV r f d l).cs):=by
 have hid:∀q∈l,1<=q.id:=fun q hq=>(hok.rule (hl q hq)).2.1;refine ab call95 func95 122 ?_;refine run ?_
 refine loop ⟨[2,3,5,6,9,10,11,12],[5,6,9,10],[],[]⟩ (fun k:Nat=>k<=l.length/\∀q∈l.take k,∃t,trig f q.trg d=some t) (fun k=>l.length-k)
  (fun k=>⟨122,[(2,.v (vi d)),(3,.v (ruls l)),(5,.p 5 0),(6,.p 6 0),(9,.p 9 0),(10,.p 10 0),(11,.v (vb ((l.take k).any dx))),(12,.v (vi k))],
   [(5,.var r.cs),(6,.var f.cs),(9,.var (vcs 0 f.id d (accT f d l k).2 (accT f d l k).1 (.val (.slice none 0 0)))),(10,.var (vcs 0 0 0 0 0 (.val (.slice none 0 0))))],[]⟩) 0 ⟨uq _,smq⟩ ?_
 rintro k ⟨hk,hall⟩
 have hdu:∀q∈l.take k,∃t,dueF f d q=some t/\0<=t:=fun q hq=>by
  obtain⟨⟨a,b⟩,ht⟩:=hall q hq;obtain⟨t,-,h2,h3⟩:=hok.due hfm (hl q (yu hq)) hd ht;exact⟨t,h2,h3⟩
 by_cases hlt:k<l.length
 .obtain⟨x,hx,-,hm⟩:=ac hlt;cases htr:trig f x.trg d with
  |none=>
   have hw:timV r f d l=⟨5,f.id,d,x.id,0,[]⟩:=by
    unfold timV;rw[jhk (fun q hq=>by obtain⟨t,ht⟩:=hall q hq;exact jva ht) hx (qod htr)]
   rw[hw];obtain⟨R,D,hac⟩:∃R D,accT f d l k=(D,R):=⟨_,_,rfl⟩;rw[hac];refine runD hx ?_;refine bt [⟨[ff,ff,ff,ff,ff,ff,ff,ff,ff,ff,ff,ff,ff,ff],14,.one 1 0⟩,⟨[ff,tt,ff,ff,ff,ff,ff,ff,ff,ff,ff,ff,ff,ff],13,.one 2 0⟩,⟨[ff,tt,tt,ff,ff,ff,ff,ff,ff,ff,ff,ff,ff,ff],12,.one 6 0⟩,⟨[ff,tt,tt,ff,ff,ff,tt,ff,ff,ff,ff,ff,ff,ff],11,.alt [(0,1),(3,0),(11,2)]⟩,⟨[ff,tt,tt,tt,ff,ff,tt,ff,ff,ff,ff,ff,ff,ff],10,.one 4 3⟩,⟨[tt,tt,tt,ff,ff,ff,tt,ff,ff,ff,ff,ff,ff,ff],10,.alt [(3,1),(11,3)]⟩,⟨[ff,tt,tt,ff,ff,ff,tt,ff,ff,ff,ff,tt,ff,ff],10,.alt [(0,2),(3,3)]⟩,⟨[tt,tt,tt,tt,ff,ff,tt,ff,ff,ff,ff,ff,ff,ff],9,.one 4 3⟩,⟨[ff,tt,tt,tt,tt,ff,tt,ff,ff,ff,ff,ff,ff,ff],9,.alt [(0,2),(5,3),(11,5)]⟩,⟨[tt,tt,tt,ff,ff,ff,tt,ff,ff,ff,ff,tt,ff,ff],9,.alt [(3,3)]⟩,⟨[ff,tt,tt,tt,ff,ff,tt,ff,ff,ff,ff,tt,ff,ff],9,.one 4 3⟩,⟨[tt,tt,tt,tt,tt,ff,tt,ff,ff,ff,ff,ff,ff,ff],8,.alt [(5,3),(11,5)]⟩,⟨[ff,tt,tt,tt,tt,tt,tt,ff,ff,ff,ff,ff,ff,ff],8,.alt [(0,2),(11,3)]⟩,⟨[tt,tt,tt,tt,ff,ff,tt,ff,ff,ff,ff,tt,ff,ff],8,.one 4 3⟩,⟨[ff,tt,tt,tt,tt,ff,tt,ff,ff,ff,ff,tt,ff,ff],8,.alt [(0,2),(5,1)]⟩,⟨[tt,tt,tt,tt,tt,tt,tt,ff,ff,ff,ff,ff,ff,ff],7,.alt [(7,3),(11,2)]⟩,⟨[ff,tt,tt,tt,tt,tt,tt,ff,ff,ff,ff,tt,ff,ff],7,.alt [(0,1)]⟩,⟨[tt,tt,tt,tt,tt,ff,tt,ff,ff,ff,ff,tt,ff,ff],7,.alt [(5,0)]⟩,⟨[tt,tt,tt,tt,tt,tt,tt,ff,ff,ff,ff,tt,ff,ff],6,.alt [(7,2)]⟩,⟨[tt,tt,tt,tt,tt,tt,tt,tt,ff,ff,ff,ff,ff,ff],6,.one 8 0⟩,⟨[tt,tt,tt,tt,tt,tt,tt,tt,tt,ff,ff,ff,ff,ff],5,.alt [(9,3),(10,1),(11,2)]⟩,⟨[tt,tt,tt,tt,tt,tt,tt,tt,ff,ff,ff,tt,ff,ff],5,.one 8 1⟩,⟨[tt,tt,tt,tt,tt,tt,tt,tt,tt,ff,tt,ff,ff,ff],4,.alt [(9,3),(11,2)]⟩,⟨[tt,tt,tt,tt,tt,tt,tt,tt,tt,ff,ff,tt,ff,ff],4,.alt [(9,3),(10,1)]⟩,⟨[tt,tt,tt,tt,tt,tt,tt,tt,tt,tt,ff,ff,ff,ff],4,.alt [(10,1),(11,2)]⟩,⟨[tt,tt,tt,tt,tt,tt,tt,tt,tt,ff,tt,tt,ff,ff],3,.alt [(9,3)]⟩,⟨[tt,tt,tt,tt,tt,tt,tt,tt,tt,tt,tt,ff,ff,ff],3,.alt [(11,2)]⟩,⟨[tt,tt,tt,tt,tt,tt,tt,tt,tt,tt,ff,tt,ff,ff],3,.alt [(10,1),(12,0)]⟩,⟨[tt,tt,tt,tt,tt,tt,tt,tt,tt,tt,ff,tt,tt,ff],2,.alt [(10,1)]⟩,⟨[tt,tt,tt,tt,tt,tt,tt,tt,tt,tt,tt,tt,ff,ff],2,.alt [(12,0)]⟩,⟨[tt,tt,tt,tt,tt,tt,tt,tt,tt,tt,tt,tt,tt,ff],1,.alt [(13,0)]⟩,⟨[tt,tt,tt,tt,tt,tt,tt,tt,tt,tt,tt,tt,tt,tt],0,.fin⟩] ?_
   refine il (fun _:Unit=>True) ⟨[2,3,5,6,9,10,11,12,14],[5,6,9,10,13],[],[]⟩ (fun _=>⟨122,[(2,.v (vi d)),(3,.v (ruls l)),(5,.p 5 0),(6,.p 6 0),(9,.p 9 0),(10,.p 10 0),(11,.v (vb ((l.take k).any dx))),(12,.v (vi k)),(14,.v (vb false))],
    [(5,.var r.cs),(6,.var f.cs),(9,.var (vcs 0 f.id d R D (.val (.slice none 0 0)))),(10,.var (vcs 0 0 0 0 0 (.val (.slice none 0 0)))),(13,.var [vi 0,vi 0])],[]⟩) (fun st st' hk h=>ci _ hk h) (fun _ _=>?_) (fun K' hK=>?_)
   .refine runD trivial ?_;refine jc7 ((.one 0 (.one 1 (.one 5 (.alt 2 (.one 3 (.alt 4 (.alt 6 (.one 7 (.alt 8 (.one 9 (.alt 10 .done .nil)) .nil)) .nil) (.alt 6 (.alt 4 (.one 7 (.alt 8 (.one 9 (.alt 10 .done .nil)) .nil)) .nil) .nil))) (.alt 6 (.alt 2 (.one 3 (.alt 4 (.one 7 (.alt 8 (.one 9 (.alt 10 .done .nil)) .nil)) .nil)) .nil) .nil)))))) ?_;refine jby hx ?_;exact zd5
   refine am hx ?_
   repeat' (with_reducible refine ai ?_ ?_)
   all_goals
    refine call (jrk f x.trg d hf) ?_;rw[jk,htr];refine am trivial ?_
    repeat' (with_reducible refine ai ?_ ?_)
    all_goals exact gk hK () trivial
  |some t=>
   obtain⟨a,b⟩:=t;obtain⟨t,hdt,hdf,ht0⟩:=hok.due hfm (hl x hm) hd htr;have hst:=qo9 hid hdu hx hdf ht0;have hany:(l.take (k+1)).any dx=((l.take k).any dx || dx x):=by rw[sx hx,qwm];simp
   have hall':=an (q:=fun q:Rul=>∃t,trig f q.trg d=some t) hall hx ⟨_,htr⟩;obtain⟨mv,hmv⟩:∃mv,(l.take k).any dx=mv:=⟨_,rfl⟩;rw[hmv] at hany ⊢;obtain⟨⟨D,R⟩,hac⟩:∃y,accT f d l k=y:=⟨_,rfl⟩;obtain⟨⟨D',R'⟩,hac'⟩:∃y,accT f d l (k+1)=y:=⟨_,rfl⟩;rw[hac,hac'] at hst;simp only[xd] at hst;rw[hac];refine runD hx ?_;refine bt [⟨[ff,ff,ff,ff,ff,ff,ff,ff,ff,ff,ff,ff,ff,ff],14,.one 1 0⟩,⟨[ff,tt,ff,ff,ff,ff,ff,ff,ff,ff,ff,ff,ff,ff],13,.one 2 0⟩,⟨[ff,tt,tt,ff,ff,ff,ff,ff,ff,ff,ff,ff,ff,ff],12,.one 6 0⟩,⟨[ff,tt,tt,ff,ff,ff,tt,ff,ff,ff,ff,ff,ff,ff],11,.alt [(0,1),(3,0),(11,2)]⟩,⟨[ff,tt,tt,tt,ff,ff,tt,ff,ff,ff,ff,ff,ff,ff],10,.one 4 3⟩,⟨[tt,tt,tt,ff,ff,ff,tt,ff,ff,ff,ff,ff,ff,ff],10,.alt [(3,1),(11,3)]⟩,⟨[ff,tt,tt,ff,ff,ff,tt,ff,ff,ff,ff,tt,ff,ff],10,.alt [(0,2),(3,3)]⟩,⟨[tt,tt,tt,tt,ff,ff,tt,ff,ff,ff,ff,ff,ff,ff],9,.one 4 3⟩,⟨[ff,tt,tt,tt,tt,ff,tt,ff,ff,ff,ff,ff,ff,ff],9,.alt [(0,2),(5,3),(11,5)]⟩,⟨[tt,tt,tt,ff,ff,ff,tt,ff,ff,ff,ff,tt,ff,ff],9,.alt [(3,3)]⟩,⟨[ff,tt,tt,tt,ff,ff,tt,ff,ff,ff,ff,tt,ff,ff],9,.one 4 3⟩,⟨[tt,tt,tt,tt,tt,ff,tt,ff,ff,ff,ff,ff,ff,ff],8,.alt [(5,3),(11,5)]⟩,⟨[ff,tt,tt,tt,tt,tt,tt,ff,ff,ff,ff,ff,ff,ff],8,.alt [(0,2),(11,3)]⟩,⟨[tt,tt,tt,tt,ff,ff,tt,ff,ff,ff,ff,tt,ff,ff],8,.one 4 3⟩,⟨[ff,tt,tt,tt,tt,ff,tt,ff,ff,ff,ff,tt,ff,ff],8,.alt [(0,2),(5,1)]⟩,⟨[tt,tt,tt,tt,tt,tt,tt,ff,ff,ff,ff,ff,ff,ff],7,.alt [(7,3),(11,2)]⟩,⟨[ff,tt,tt,tt,tt,tt,tt,ff,ff,ff,ff,tt,ff,ff],7,.alt [(0,1)]⟩,⟨[tt,tt,tt,tt,tt,ff,tt,ff,ff,ff,ff,tt,ff,ff],7,.alt [(5,0)]⟩,⟨[tt,tt,tt,tt,tt,tt,tt,ff,ff,ff,ff,tt,ff,ff],6,.alt [(7,2)]⟩,⟨[tt,tt,tt,tt,tt,tt,tt,tt,ff,ff,ff,ff,ff,ff],6,.one 8 0⟩,⟨[tt,tt,tt,tt,tt,tt,tt,tt,tt,ff,ff,ff,ff,ff],5,.alt [(9,3),(10,1),(11,2)]⟩,⟨[tt,tt,tt,tt,tt,tt,tt,tt,ff,ff,ff,tt,ff,ff],5,.one 8 1⟩,⟨[tt,tt,tt,tt,tt,tt,tt,tt,tt,ff,tt,ff,ff,ff],4,.alt [(9,3),(11,2)]⟩,⟨[tt,tt,tt,tt,tt,tt,tt,tt,tt,ff,ff,tt,ff,ff],4,.alt [(9,3),(10,1)]⟩,⟨[tt,tt,tt,tt,tt,tt,tt,tt,tt,tt,ff,ff,ff,ff],4,.alt [(10,1),(11,2)]⟩,⟨[tt,tt,tt,tt,tt,tt,tt,tt,tt,ff,tt,tt,ff,ff],3,.alt [(9,3)]⟩,⟨[tt,tt,tt,tt,tt,tt,tt,tt,tt,tt,tt,ff,ff,ff],3,.alt [(11,2)]⟩,⟨[tt,tt,tt,tt,tt,tt,tt,tt,tt,tt,ff,tt,ff,ff],3,.alt [(10,1),(12,0)]⟩,⟨[tt,tt,tt,tt,tt,tt,tt,tt,tt,tt,ff,tt,tt,ff],2,.alt [(10,1)]⟩,⟨[tt,tt,tt,tt,tt,tt,tt,tt,tt,tt,tt,tt,ff,ff],2,.alt [(12,0)]⟩,⟨[tt,tt,tt,tt,tt,tt,tt,tt,tt,tt,tt,tt,tt,ff],1,.alt [(13,0)]⟩,⟨[tt,tt,tt,tt,tt,tt,tt,tt,tt,tt,tt,tt,tt,tt],0,.fin⟩] ?_
   refine il (fun _:Unit=>True) ⟨[2,3,5,6,9,10,11,12,14,13],[5,6,9,10,13],[],[]⟩ (fun _=>⟨122,[(2,.v (vi d)),(3,.v (ruls l)),(5,.p 5 0),(6,.p 6 0),(9,.p 9 0),(10,.p 10 0),(11,.v (vb mv)),(12,.v (vi k)),(14,.v (vb true)),(13,.p 13 0)],
    [(5,.var r.cs),(6,.var f.cs),(9,.var (vcs 0 f.id d R D (.val (.slice none 0 0)))),(10,.var (vcs 0 0 0 0 0 (.val (.slice none 0 0)))),(13,.var [vi a,vi b])],[]⟩) (fun st st' hk h=>ci _ hk h) (fun _ _=>?_) (fun K' hK=>?_)
   .refine rcW hx (qjd x a b (hr.rls.2 x (hl x hm))) ?_;rw[dueV,hdt];have hmvx:dx x=decide (x.act=2):=rfl
    have done:∀ {st:St},br ⟨[2,3,5,6,9,10,11,12],[5,6,9,10],[],[]⟩ st=some ⟨122,[(2,.v (vi d)),(3,.v (ruls l)),(5,.p 5 0),(6,.p 6 0),(9,.p 9 0),(10,.p 10 0),(11,.v (vb (mv || dx x))),(12,.v (vi (k+1:Nat)))],
      [(5,.var r.cs),(6,.var f.cs),(9,.var (vcs 0 f.id d R' D' (.val (.slice none 0 0)))),(10,.var (vcs 0 0 0 0 0 (.val (.slice none 0 0))))],[]⟩->br ⟨[2,3,5,6,9,10,11,12],[5,6,9,10],[],[]⟩ st=some ⟨122,[(2,.v (vi d)),(3,.v (ruls l)),(5,.p 5 0),(6,.p 6 0),(9,.p 9 0),(10,.p 10 0),(11,.v (vb ((l.take (k+1)).any dx))),(12,.v (vi (k+1:Nat)))],
      [(5,.var r.cs),(6,.var f.cs),(9,.var (vcs 0 f.id d (accT f d l (k+1)).2 (accT f d l (k+1)).1 (.val (.slice none 0 0)))),(10,.var (vcs 0 0 0 0 0 (.val (.slice none 0 0))))],[]⟩:=fun {st} h=>by
     rw[hac',hany];exact h
    rcases hst with⟨z0,z1,z2⟩|⟨z0,z1,z2,z3⟩|⟨z0,z1,z2,z3⟩
    .subst z1 z2;refine runW (ai hx z0) ?_;cases mv
     .by_cases hm2:x.act=2
      .exact zbh
      exact zx
     exact zch
    .subst z2 z3;refine runW (ai hx (ai (un z0) (uo z1))) ?_;cases mv
     .by_cases hm2:x.act=2
      .exact zbh
      exact zx
     exact zch
    subst z2 z3;refine runW (ai hx (ai (un z0) (un z1))) ?_;cases mv
    .by_cases hm2:x.act=2
     .exact zbh
     exact zx
    exact zch
   refine am hx ?_
   repeat' (with_reducible refine ai ?_ ?_)
   all_goals
    refine call (jrk f x.trg d hf) ?_;rw[jk,htr];refine am trivial ?_
    repeat' (with_reducible refine ai ?_ ?_)
    all_goals exact gk hK () trivial
 have hkl:k=l.length:=omq;subst hkl;rw[vk] at hall hdu ⊢;have hlp:=xj.2 h0;have hacc:accT f d l l.length=bw f d l (-1,0):=by unfold accT;rw[ul omq,vk]
 rw[hacc];have hw:l.find? (ct f d)=none:=jhi fun q hq=>by obtain⟨t,ht⟩:=hall q hq;exact jva ht
 unfold timV;rw[hw];simp only;have hsb:=qtn r f d;obtain⟨⟨D,R⟩,hac⟩:∃y,bw f d l (-1,0)=y:=⟨_,rfl⟩;rw[hac];obtain⟨mv,hmv⟩:∃mv,l.any dx=mv:=⟨_,rfl⟩;rw[hmv];by_cases hdl:d<=D
 .rw[um hdl];refine runW (uo hdl) ?_;exact zbk
 rw[ul hdl];refine runW (un hdl) ?_;refine uh (qe4 r.ofs r.pls r.hls f d hr.ofs hr.pls hr.hls hf) ?_;by_cases hh:cg r.ofs r.pls r.hls f d=[]
 .rw[ul (fun e=>e hh),hh];refine rc (qfq r hr f.id d) ?_;rw[hsb];cases mv
  .cases hs:selB r f d
   .rw[ul (by rintro (e|e)<;>cases e)];exact zd5
   rw[um (.inr rfl)];exact zd5
  rw[um (.inl rfl)];exact zd5
 rw[um hh]
 have hpos:(0:Int)<(cg r.ofs r.pls r.hls f d).length:=by
  have:=xj.2 hh;omega
 obtain⟨hs,hhs⟩:∃hs,cg r.ofs r.pls r.hls f d=hs:=⟨_,rfl⟩;rw[hhs] at hpos ⊢;refine runW (uo hpos) ?_;exact fin rfl
end Go.Arc
