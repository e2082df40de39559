/- A part of this claim. -/
import Derived.Test.YtfbbflhnhmphiaaGreatDoorBaX
set_option maxRecDepth 100000
namespace Go.Arc
open Go.Ab Go.RowKit Go.Proofs Tryz
variable {T : Lay}
abbrev vint(n:Int):V:=vi n
theorem qo9(a b:Int):Den prog T 249 [vi a,vi b] (vb (decide (a<b))):=by
 refine ab call249 func249 17 ?_;refine rc (jm9 a) ?_;exact za
theorem qhu(l:List Int)(hl:l.length<=1048576):Den prog T 183 [ints l] (vb (srtI l)):=by
 refine ab call183 func183 21 ?_;refine run ?_;refine dl ⟨[3,0],[],[],[]⟩ (fun i:Int=> -1<=i/\i+1<=l.length/\∀j:Nat,i<j->j<l.length->pv l j=false) (fun i=>(i+1).toNat) (fun i=>[(3,.v (vi i))]) ((l.length:Int)-1) ⟨omq,omq,fun j h1 h2=>by omega⟩ ?_;rintro i ⟨h1,h2,hall⟩;by_cases hpos:0<i
 .obtain⟨k,rfl⟩:∃k:Nat,i=k:=⟨i.toNat,omq⟩;obtain⟨y,hy,-,-⟩:=af (l:=l) (k:=k) omq;obtain⟨x,hx,-,-⟩:=af (l:=l) (k:=k-1) omq;have he:=jq0 (show k≠0 by omega) hx hy;refine rcW (ai hx hy) (qo9 y x) ?_;by_cases hlt:y<x
  .rw[qap (show k<l.length by omega) (by rw[he];simp[hlt])];exact za
  refine run ?_;refine round ((k:Int)-1) ⟨omq,omq,fun j g1 g2=>?_⟩ omq;by_cases e:j=k
  .rw[e,he];simp[hlt]
  exact hall j omq g2
 rw[jye fun j hj=>by
  by_cases h0:j=0
  .rw[h0];exact qcf l
  exact hall j omq hj]
 exact za
theorem jsz(l:List Int)(hl:l.length<=1048576):DenN prog T 101 [ints l] 1 (l.map Cint):=by
 refine jjs follows (fun args w=>call101 args w) func101 rfl 8 rfl ?_;cases l with
 |nil=>
  refine run ?_;intro b;cases b
  .exact zda
  refine run ?_;exact jd3 rfl (.nil 1)
 |cons x r=>
  have h:r.length+1<=1048576:=hl;have e:ints (x::r)=.slice 1 (Cint x::r.map Cint):=rfl;rw[e];refine runB trivial ?_;refine qdt ?_;refine run ?_;refine finN (id:=7) [] ?_ ?_
  .simp only[σ_mk,ay,↓reduceIte,vm,List.length_cons,vy]
  rw[xd];rfl
def gf(l:List Int)(m:Nat):List V:=(bl (l.take m)++l.drop (bl (l.take m)).length).map vint
theorem qpu(l:List Int)(m:Nat)(h:m<=l.length):(gf l m).length=l.length:=by
 have:=jmf l m;unfold gf;rw[vm,vr,xw];omega
theorem jvv(l:List Int)(m:Nat):(gf l m).take (bl (l.take m)).length=(bl (l.take m)).map vint:=by
 unfold gf;rw[<- xb4,List.take_left]
theorem jla(l:List Int)(m i:Nat)(h:(bl (l.take m)).length<=i):(gf l m).drop i=(l.drop i).map vint:=by
 unfold gf;rw[<- xca,List.drop_append];rw[xbc h,List.nil_append,xc0];congr 2;omega
theorem qpt(l:List Int)(m:Nat){x:Int}(_hx:l[m]?=some x)(_h:(bl (l.take m)).length+1<=m)(hd:bl (l.take (m+1))=bl (l.take m)++[x]):
  (gf l m).take (bl (l.take m)).length++[vi x]++(gf l m).drop ((bl (l.take m)).length+1)=gf l (m+1):=by
 rw[jvv,jla l m _ (Nat.le_succ _)];unfold gf;rw[hd,xz,xz,vr];rfl
theorem qh5(l:List Int)(hl:l.length<=1048576)(h0:l≠[]):DenM prog T 184 (l.map vint) [.s 999999 0 l.length 1] ((bl l).map vint) (.s 999999 0 (bl l).length 1):=by
 have hlen:0<l.length:=yn.2 h0;have hml:(l.map vint).length=l.length:=vm _;refine rl follows (fun args w=>call184 args w) func184 rfl 61 rfl rfl ?_;obtain⟨x0,hx0,-,-⟩:=af hlen;by_cases h2:l.length<2
 .have e1:l.take 1=l:=ye omq;have e2:=jme hx0;rw[e1] at e2
  have e3:bl l=l:=by
   rw[e2]
   match l,hx0,h2 with
   |[a],hx,_=>simp at hx;rw[hx]
  rw[e3];exact zdz
 refine run ?_;refine dl ⟨[3,0],[999999],[],[]⟩ (fun k:Nat=>1<=k/\k<=l.length/\bl (l.take k)=l.take k) (fun k=>l.length-k) (fun k=>[(3,.v (vi k))]) 1 ⟨omq,omq,by rw[jme hx0];rw[jgp hx0];rfl⟩ ?_;rintro k ⟨hk1,hk,hall⟩;by_cases hlt:k<l.length
 .obtain⟨x,hx,hd,-⟩:=af hlt;obtain⟨y,hy,hdy,-⟩:=af (l:=l) (k:=k-1) omq;have hd':(l.map vint).drop k=vi x::(l.drop (k+1)).map vint:=by rw[<- xca,hd];rfl
  have hdy':(l.map vint).drop (k-1)=vi y::(l.drop (k-1+1)).map vint:=by rw[<- xca,hdy];rfl
  by_cases hxy:x=y
  .have hk0:bl (l.take (k+1))=l.take k:=by rw[jh4 hk1 hy hx hxy,hall]
   have hlk:(l.take k).length=k:=by rw[xq];omega
   have hcell:l.map vint=gf l (k+1):=by unfold gf;rw[hk0,hlk,xc2]
   have hc1:(bl (l.take (k+1))).length=k:=by rw[hk0,hlk]
   refine runW (ai hd' (ai hdy' hxy)) ?_
   refine loop ⟨[0,3,4,5],[999999],[],[]⟩ (fun z:Nat=>1<=z/\k+z<=l.length/\(bl (l.take (k+z))).length+1<=k+z/\1<=(bl (l.take (k+z))).length) (fun z=>l.length-z)
    (fun z=>⟨61,[(0,.s 999999 0 l.length 1),(3,.v (vi (bl (l.take (k+z))).length)),(4,.s 999999 k (l.length-k) 1),(5,.v (vi z))],[(999999,.var (gf l (k+z)))],[]⟩) 1 ⟨vo 1,hlt,by rw[hc1];omega,by rw[hc1];exact hk1⟩ ?_ (by rw[hcell,hc1];rfl)
   rintro z ⟨hz1,hz2,hz3,hz4⟩;have hlen2:=qpu l (k+z) hz2;have hend:=jvv l (k+z);have hput:=fun {x:Int} (h:l[k+z]?=some x)=>qpt l (k+z) h hz3;by_cases hzl:k+z<l.length
   .obtain⟨u,hu,hdu,-⟩:=af hzl;obtain⟨v,hv,hdv,-⟩:=af (l:=l) (k:=k+z-1) omq;have hdu':=jla l (k+z) (k+z) omq;have hdv':=jla l (k+z) (k+z-1) omq;rw[hdu,vy] at hdu';rw[hdv,vy] at hdv';have hput':=hput hu;by_cases huv:u=v
    .have hsame:gf l (k+(z+1))=gf l (k+z):=by unfold gf;rw[show k+(z+1)=k+z+1 by omega,jh4 omq hv hu huv]
     have hsame2:bl (l.take (k+(z+1)))=bl (l.take (k+z)):=by rw[show k+(z+1)=k+z+1 by omega,jh4 omq hv hu huv]
     obtain⟨Cs,hCs⟩:∃Cs,gf l (k+z)=Cs:=⟨_,rfl⟩;obtain⟨c,hc⟩:∃c,(bl (l.take (k+z))).length=c:=⟨_,rfl⟩;rw[hCs] at hdu' hdv' hlen2 hsame;rw[hc] at hz3 hz4;rw[hCs,hc];have hix:k+z-1=k+(z-1):=omq;rw[hix] at hdv';refine runW (ai hdu' (ai hdv' huv)) ?_;refine round (z+1) ⟨omq,omq,by rw[hsame2,hc];omega,by rw[hsame2,hc];exact hz4⟩ omq ?_;rw[hsame,hsame2,hc];rfl
    have hdiff:bl (l.take (k+(z+1)))=bl (l.take (k+z))++[u]:=by rw[show k+(z+1)=k+z+1 by omega,jl5 omq hv hu huv]
    have hput'':=hput' (by rw[show k+z+1=k+(z+1) by omega];exact hdiff);rw[show k+z+1=k+(z+1) by omega] at hput'';obtain⟨Cs,hCs⟩:∃Cs,gf l (k+z)=Cs:=⟨_,rfl⟩;obtain⟨c,hc⟩:∃c,(bl (l.take (k+z))).length=c:=⟨_,rfl⟩;rw[hCs] at hdu' hdv' hlen2 hput'';rw[hc] at hz3 hz4 hput'';rw[hCs,hc];have hdl:(bl (l.take (k+(z+1)))).length=c+1:=by rw[hdiff,vr,hc];rfl
    have hix:k+z-1=k+(z-1):=omq;rw[hix] at hdv';refine runW (ai hdu' (ai hdv' (vf huv))) ?_;refine round (z+1) ⟨omq,omq,by rw[hdl];omega,by rw[hdl];omega⟩ omq ?_;rw[hdl,<- hput''];rfl
   have hkz:k+z=l.length:=omq;rw[hkz,yk] at hend hz3 hz4;rw[hkz] at hlen2;rw[hkz,yk];have hcl:((bl l).map vint).length=(bl l).length:=vm _;obtain⟨Cs,hCs⟩:∃Cs,gf l l.length=Cs:=⟨_,rfl⟩;obtain⟨c,hc⟩:∃c,(bl l).length=c:=⟨_,rfl⟩;rw[hCs] at hend hlen2;rw[hc] at hz3 hz4 hend;rw[hCs,hc];refine runW hend ?_;exact ja (.refl _)
  refine runW (ai hd' (ai hdy' (vf hxy))) ?_;exact round (k+1) ⟨omq,omq,by rw[jl5 hk1 hy hx hxy,hall,jgp hx]⟩ omq
 have hkl:k=l.length:=omq;subst hkl;rw[yk] at hall;rw[hall];exact zdz
def lowE(r:Rgs):Nat->Int×Int
 |0=>fm r.ofs
 |1=>check r.pls
 |2=>jv r.ofs r.pls r.fls
 |3=>ia r.rls
 |_=>ib r.hls
def jfd(r:Rgs):Int:=fstE [(fm r.ofs).2,(check r.pls).2,(jv r.ofs r.pls r.fls).2,(ia r.rls).2,(ib r.hls).2]
theorem qkc(L:LibC T)(r:Rgs)(h:r.Fit):Den prog T 175 [.row r.cs] (chkV (fm r.ofs)):=by
 refine ab call175 func175 8 ?_;refine rc (jdw L r.ofs h.ofs) ?_;exact za
theorem qkb(L:LibC T)(r:Rgs)(h:r.Fit):Den prog T 177 [.row r.cs] (chkV (check r.pls)):=by
 refine ab call177 func177 8 ?_;refine rc (jdx L r.pls h.pls) ?_;exact za
theorem qka(L:LibC T)(r:Rgs)(h:r.Fit):Den prog T 178 [.row r.cs] (chkV (jv r.ofs r.pls r.fls)):=by
 refine ab call178 func178 12 ?_;refine rc (ql4 L r.ofs r.pls r.fls h.ofs h.pls h.fls) ?_;exact za
theorem qk9(L:LibC T)(r:Rgs)(h:r.Fit):Den prog T 180 [.row r.cs] (chkV (ia r.rls)):=by
 refine ab call180 func180 8 ?_;refine rc (jl3 L r.rls h.rls) ?_;exact za
theorem qk8(L:LibC T)(r:Rgs)(h:r.Fit):Den prog T 181 [.row r.cs] (chkV (ib r.hls)):=by
 refine ab call181 func181 8 ?_;refine rc (jvh L r.hls h.hls) ?_;exact za
theorem jra(c:Nat->Int×Int):∀(n k m:Nat),k<n->(∀j,j<k->(c (m+j)).2=0)->(c (m+k)).2≠0->fstE ((List.range' m n).map fun j=>(c j).2)=(c (m+k)).2
 |0,k,m,hk,_,_=>absurd hk (xba k)
 |n+1,k,m,hk,h,hb=>by
  rw[List.range'_succ,vy];unfold fstE;cases k with
  |zero=>exact ve hb
  |succ k=>
   rw[vd (by have:=h 0 omq;simpa using this)];rw[jra c n k (m+1) omq (fun j hj=>by rw[show m+1+j=m+(j+1) by omega];exact h (j+1) omq) (by rw[show m+1+k=m+(k+1) by omega];exact hb)];rw[show m+1+k=m+(k+1) by omega]
theorem jpi(c:Nat->Int×Int):∀(n m:Nat),(∀j,j<n->(c (m+j)).2=0)->fstE ((List.range' m n).map fun j=>(c j).2)=0
 |0,m,_=>rfl
 |n+1,m,h=>by
  rw[List.range'_succ,vy];unfold fstE;rw[vd (by have:=h 0 omq;simpa using this)];exact jpi c n (m+1) fun j hj=>by rw[show m+1+j=m+(j+1) by omega];exact h (j+1) omq
theorem qo8(L:LibC T)(r:Rgs)(h:r.Fit):Den prog T 113 [.agg r.cs] (vi (jfd r)):=by
 have hrows:∀k,k<5->∃g,[[V.func 175 [.row r.cs]],[V.func 177 [.row r.cs]],[V.func 178 [.row r.cs]],[V.func 180 [.row r.cs]],[V.func 181 [.row r.cs]]][k]?=some [.func g [.row r.cs]]/\Den prog T g [.row r.cs] (chkV (lowE r k)):=fun k hk=>by
  match k,hk with
  |0,_=>exact⟨_,rfl,qkc L r h⟩
  |1,_=>exact⟨_,rfl,qkb L r h⟩
  |2,_=>exact⟨_,rfl,qka L r h⟩
  |3,_=>exact⟨_,rfl,qk9 L r h⟩
  |4,_=>exact⟨_,rfl,qk8 L r h⟩
 have hE:jfd r=fstE ((List.range' 0 5).map fun j=>(lowE r j).2):=rfl;rw[hE];obtain⟨c,hc⟩:∃c,lowE r=c:=⟨_,rfl⟩;rw[hc] at hrows ⊢;refine ab call113 func113 29 ?_;refine run ?_;obtain⟨R,hR⟩:∃R,[[V.func 175 [.row r.cs]],[V.func 177 [.row r.cs]],[V.func 178 [.row r.cs]],[V.func 180 [.row r.cs]],[V.func 181 [.row r.cs]]]=R:=⟨_,rfl⟩;have hRl:R.length=5:=by rw[<- hR];rfl
 rw[hR] at hrows
 refine loop ⟨[2,14,15,16],[],[],[]⟩ (fun k:Nat=>k<=5/\∀j,j<k->(c j).2=0) (fun k=>5-k)
  (fun k=>⟨29,[(2,.v (vi 0)),(14,.v (.slice 1 R)),(15,.v (vi 5)),(16,.v (vi k))],[],[]⟩) 0 ⟨dcq,fun j hj=>absurd hj (xba j)⟩ ?_ (by rw[<- hR];rfl)
 rintro k ⟨hk,hall⟩;by_cases hlt:k<5
 .obtain⟨g,hg,hden⟩:=hrows k hlt;have hkR:k<R.length:=omq;refine rcW hg hden ?_;by_cases hz:(c k).2=0
  .refine runW hz ?_;refine round (k+1) ⟨hlt,fun j hj=>?_⟩ omq;by_cases hjk:j=k
   .subst hjk;exact hz
   exact hall j omq
  refine runW hz ?_;refine fin (bc ?_);have:=jra c 5 k 0 hlt (fun j hj=>by rw[xl];exact hall j hj) (by rw[xl];exact hz);rw[this,xl]
 refine run ?_;refine fin (bc ?_);exact(jpi c 5 0 fun j hj=>by rw[xl];exact hall j omq).symm
theorem qeg{κ:List (Nat×Nat)}{h:List (Nat×Blk)}: ∀l:List V,ArgsM κ h (l.map .v) (l.map .v)
 |[]=>.nil
 |x::l=>.cons (.v x) (qeg l)
theorem ke{P:Program}{rs:List ResultVar}{i:Nat}{es:List (V×V)}{nm:Option Nat}{r r':TV}{st:St}(h3:WkT r' r)(hB:Go.Ab.look i st.h=some (.map es nm):=by rfl)(h2:resT P st rs=some r':=by rfl):jj3 P rs [(i,.map es nm)] [] r .rt st:=
 finS (fun x hx=>by simp only[xn] at hx;subst hx;exact⟨_,hB,.map (.inr rfl)⟩) h3 h2
theorem qnd(l:List Fil)(n:Int):decide (az l n<0)= !hasF l n:=by
 unfold az hasF;have:=jz (ci n) l;cases h:l.any (ci n) with
 |true=>
  rw[h] at this;have h2:(l.any fun f=>decide (f.id=n))=true:=h;rw[h2];simp at this ⊢;omega
 |false=>
  rw[h] at this;have h2:(l.any fun f=>decide (f.id=n))=false:=h;rw[h2];simp at this ⊢;omega
theorem jtr(d:Int):Den prog T 31 [vi d] (vb (dayG d)):=by
 refine ab call31 func31 9 ?_;unfold dayG;by_cases h:0<=d
 .by_cases h2:d<=1048575
  .refine runW (ai (vg h) (vg h2)) ?_;exact fin rfl
  refine runW (ai (vg h) (vf h2)) ?_;exact fin rfl
 exact zeg
theorem qfe(r:Rgs)(h:r.Fit)(f:Int):Den prog T 185 [vi f,.row r.cs] (vb (!hasF r.fls f)):=by
 have hl:=h.fls.1;refine ab call185 func185 9 ?_;refine rc (tq r.fls f hl) ?_;refine run ?_;exact fin (ah (qnd r.fls f))
abbrev gBlk(ps:List (Int×Bool))(b:Nat):List (Nat×Blk):=[(999000,.map (mapG ps) (some b))]
instance:TZV prog 4 (.bool false):=⟨krq⟩
theorem jsv(ps:List (Int×Bool))(b:Nat)(f:Int):DenS prog T 186 (gBlk ps b) [] [.v (vi f),.v (.row [.val (.map (some b))])] (gBlk ps b) [] (.v (vb (getG ps f))):=by
 have hf:=jm3 f ps;have hg:=jx7 ps f;refine bx follows (fun args w=>call186 args w) func186 rfl 7 rfl rfl ?_;refine runW (ai hf hg) ?_;exact z7
theorem ql7(l:List Int)(f:FuncId)(cap:List V)(p:Int->Bool)(ps:List (Int×Bool))(b:Nat)(hl:l.length<=1048576)(hp:∀e∈l,DenS prog T f (gBlk ps b) [] (.v (vi e)::cap.map .v) (gBlk ps b) [] (.v (vb (p e)))):
   DenS prog T 193 (gBlk ps b) [] [.v (ints l),.v (.func f cap)] (gBlk ps b) [] (.v (vi (ix p l))):=by
  refine bx follows (fun args w=>call193 args w) func193 rfl 19 rfl rfl ?_;refine run ?_;refine dq ⟨[8,0,1,7],[999000],[],[]⟩ l.length (fun k=>∀e∈l.take k,p e=false) smq ?_;rintro k ⟨hk,hall⟩;by_cases hlt:k<l.length
  . obtain⟨x,hx,-,hm⟩:=af hlt;refine runW hx ?_;refine fg (gh [(999000,999000)] (hp x hm) (.cons (.v _) (qeg cap)) ?_ ?_)
    . exact zg
    cases hpc:p x
    . exact zbj
    refine run ?_;rw[<- uu hall hx hpc];exact z7
  refine run ?_;rw[<- jan hall hlt];exact z7
theorem ju0(l:List Int)(f:FuncId)(cap:List V)(p:Int->Bool)(ps:List (Int×Bool))(b:Nat)(hl:l.length<=1048576)(hp:∀e∈l,DenS prog T f (gBlk ps b) [] (.v (vi e)::cap.map .v) (gBlk ps b) [] (.v (vb (p e)))):
   DenS prog T 125 (gBlk ps b) [] [.v (ints l),.v (.func f cap)] (gBlk ps b) [] (.v (vb (l.any p))):=by
  refine bx follows (fun args w=>call125 args w) func125 rfl 9 rfl rfl ?_;refine run ?_;refine fg (gh [(999000,999000)] (ql7 l f cap p ps b hl hp) (.cons (.v _) (.cons (.v _) .nil)) ?_ ?_)
  . exact zg
  refine run ?_;refine ke (.v (.of (ah ?_)));exact jz p l
theorem qgo:Den prog T 184 [ints []] (ints []):=by
 refine ab call184 func184 61 ?_;exact za
theorem qyn(l:List Int)(p q:Int->Bool)(h:∀x∈l,p x=q x):l.any p=l.any q:=by
 induction l with
 |nil=>rfl
 |cons x r ih=>rw[List.any_cons,List.any_cons,h x (.head _),ih fun y hy=>h y (.tail _ hy)]
theorem quu(fs:List Fil)(l:List Int):(l.any fun f=> !hasF fs f)= !(l.all (hasF fs)):=by
 induction l with
 |nil=>rfl
 |cons x r ih=>rw[List.any_cons,List.all_cons,ih];cases hasF fs x<;>rfl
def psAt(ps:List (Int×Bool))(l:List Elm)(k:Nat):List (Int×Bool):=(l.take k).foldl (fun ps x=>addG ps x.fls x.gone) ps
theorem jlo(ps:List (Int×Bool)){l:List Elm}{k:Nat}{x:Elm}(h:l[k]?=some x):psAt ps l (k+1)=addG (psAt ps l k) x.fls x.gone:=by
 unfold psAt;rw[jkd h,xbk];rfl
theorem jys(o:Option Nat):((Value.map o).oneCell'=true)=True:=vg rfl
end Go.Arc
