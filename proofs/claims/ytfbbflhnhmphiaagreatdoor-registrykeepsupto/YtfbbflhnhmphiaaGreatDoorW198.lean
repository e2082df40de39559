/- A part of this claim. -/
import Derived.Test.YtfbbflhnhmphiaaGreatDoorBaM
set_option maxHeartbeats 8000000
set_option maxRecDepth 100000
namespace Go.Arc
open Go.Ab Go.RowKit Go.Proofs Tryz
variable {T : Lay}
theorem jgc(n a b:Int):Den prog T 26 [vi n,vi a,vi b] (vb (decide (a<=n/\n<=b))):=by
 refine ab call26 func26 15 ?_;by_cases h1:a<=n<;>by_cases h2:n<=b<;>(refine run ?_;refine fin (ah ?_);simp;try omega)
theorem jzw(d:Int):decide (0<=d/\d<=1048575)=dayG d:=by unfold dayG;rw[Bool.decide_and]
theorem jgk(L:LibT T)(r:Rgs)(h:r.Fit):Den prog T 11 [.agg r.cs] (vi (da r)):=by
 have hck:=ja3 L r h;unfold da;refine ab call11 func11 13 ?_;refine rc hck ?_;by_cases hz:ce r=0
 .rw[vd (fun e=>e hz)];refine rcW hz (jgc r.chg 0 1048575) ?_;rw[jzw];cases hd:dayG r.chg
  .rw[vd dcq];exact za
  rw[ve rfl];exact za
 rw[ve hz];exact zd6
theorem jeb:Den prog T 9 [] (.agg aj.cs):=by
 refine ab call9 func9 2 ?_;refine run ?_;exact finW sa
abbrev kndV(k:Knd)(f:FuncId):V:=.agg [vi k.nums,vi k.txts,vb k.more,vi k.day,.func f []]
def kndF:List (Int×FuncId):=[(1,81),(2,82),(3,83),(4,84),(5,85),(6,86),(7,87),(8,88),(9,89),(10,90),(11,91),(12,92),(13,93),(14,94),(15,95),(16,96),(17,97)]
def fnK(k:Int):FuncId:=((kndF.find? fun x=>decide (x.1=k)).map (·.2)).getD 0
def kndE:List (V×V):=[(vi 1,.agg [vi 3,vi 1,vb false,vi 1,.func 81 []]),(vi 2,.agg [vi 2,vi 0,vb true,vi 1,.func 82 []]),(vi 3,.agg [vi 4,vi 0,vb false,vi 0,.func 83 []]),(vi 4,.agg [vi 3,vi 2,vb false,vi (-1),.func 84 []]),(vi 5,.agg [vi 3,vi 1,vb false,vi (-1),.func 85 []]),(vi 6,.agg [vi 1,vi 0,vb false,vi (-1),.func 86 []]),(vi 7,.agg [vi 6,vi 2,vb false,vi 4,.func 87 []]),(vi 8,.agg [vi 2,vi 0,vb false,vi 1,.func 88 []]),(vi 9,.agg [vi 5,vi 2,vb false,vi 3,.func 89 []]),(vi 10,.agg [vi 2,vi 0,vb false,vi 1,.func 90 []]),(vi 11,.agg [vi 4,vi 1,vb false,vi 2,.func 91 []]),(vi 12,.agg [vi 4,vi 2,vb false,vi (-1),.func 92 []]),(vi 13,.agg [vi 2,vi 0,vb true,vi (-1),.func 93 []]),(vi 14,.agg [vi 2,vi 0,vb false,vi (-1),.func 94 []]),(vi 15,.agg [vi 1,vi 0,vb false,vi (-1),.func 95 []]),(vi 16,.agg [vi 1,vi 0,vb false,vi (-1),.func 96 []]),(vi 17,.agg [vi 1,vi 0,vb false,vi (-1),.func 97 []])]
instance:TZV prog 102 (.agg #[.int .i64 0,.int .i64 0,.bool false,.int .i64 0,.nilFunc]):=⟨krq⟩
instance:TMap prog 103 3 102 (.agg #[.int .i64 0,.int .i64 0,.bool false,.int .i64 0,.nilFunc]):=⟨krq,krq,krq⟩
theorem qvu:pi (.agg #[.int .i64 0,.int .i64 0,.bool false,.int .i64 0,.nilFunc])=true:=rfl
theorem qvw:nf (.agg #[.int .i64 0,.int .i64 0,.bool false,.int .i64 0,.nilFunc])=.agg [vi 0,vi 0,vb false,vi 0,.val .nilFunc]:=rfl
theorem jhk:Den prog T 46 [] (.map (kndE.map (·.1)) (kndE.map (·.2))):=by
 refine ab call46 func46 20 ?_;refine runW jyq ?_;exact qec (.refl _)
theorem jz1{k:Int}{x:Knd}(h:knd k=some x):1<=k/\k<=17:=by
 unfold knd at h;obtain⟨y,hy,-⟩:=msi.1 h;have hm:=xb0 hy;have hk:y.1=k:=xj (yu (p:=fun x:Int×Knd=>decide (x.1=k)) hy);have:∀y∈kndT,1<=y.1/\y.1<=17:=by decide
 have:=this y hm;omega
theorem qs6(k:Int):ma (vi k) kndE=some ((knd k).map fun x=>kndV x (fnK k)):=by
 by_cases h:1<=k/\k<=17
 .have hk:k=1\/k=2\/k=3\/k=4\/k=5\/k=6\/k=7\/k=8\/k=9\/k=10\/k=11\/k=12\/k=13\/k=14\/k=15\/k=16\/k=17:=omq;rcases hk with rfl|rfl|rfl|rfl|rfl|rfl|rfl|rfl|rfl|rfl|rfl|rfl|rfl|rfl|rfl|rfl|rfl<;>rfl
 have hn:knd k=none:=by
  cases e:knd k with
  |none=>rfl
  |some x=>exact absurd (jz1 e) h
 rw[hn];have hne:∀j:Int,1<=j/\j<=17->decide (k=j)=false:=fun j hj=>vw (fun e=>h (e▸hj));simp only[kndE,ma,jk,xf,hne 1 dcq,hne 2 dcq,hne 3 dcq,hne 4 dcq,hne 5 dcq,hne 6 dcq,hne 7 dcq,hne 8 dcq,hne 9 dcq,hne 10 dcq,hne 11 dcq,hne 12 dcq,hne 13 dcq,hne 14 dcq,hne 15 dcq,hne 16 dcq,hne 17 dcq,Option.map_none]
theorem jkq(k:Int):(kndE.map (·.1)).zip (kndE.map (·.2))=kndE/\ma (vi k) kndE=some ((knd k).map fun x=>kndV x (fnK k))/\pi (.agg #[.int .i64 0,.int .i64 0,.bool false,.int .i64 0,.nilFunc])=true/\nf (.agg #[.int .i64 0,.int .i64 0,.bool false,.int .i64 0,.nilFunc])=.agg [vi 0,vi 0,vb false,vi 0,.val .nilFunc]:=
 ⟨jdi _,qs6 k,qvu,qvw⟩
theorem jel{e:Evt}{i:Nat}(h:i<e.num.length):e.num[i]?=some (nth e i):=by
 unfold nth;rw[gge h];rfl
abbrev qd8:List Gent:=gd 10 [[0,1,0],[2,0,0,2,2,7,1],[3,2,2,7,4],[130,0,3,2,2],[6,0,0,7,1],[7,3,2,7,3],[134,0,2,0,0,0],[131,2,1,0,0,0],[15,4,1],[135,3,1,0,0,0],[31,5,2,6,1,7,3],[143,4,2],[95,5,4,7,3],[63,6,3,7,1],[159,5,0,6,1],[191,6,2,8,3],[223,5,1,0,0,0],[127,7,0,0,0,0],[255,8,1,0,0,0],[447,6,0,0,0,0],[511,9,0,0,0,0],[1023]]
abbrev qzb:List Gent:=gd 10 [[0,0,0],[1,4,0],[17,1,0,5,1],[19,2,1],[49,6,1],[23,3,2,5,3],[113,1,3,7,0],[241,1,6,0,0,0],[31,5,3,8,2],[55,6,3],[115,2,2],[287,5,5,0,0,0],[63,6,2],[119,3,1,7,2],[243,2,1],[127,7,2,8,3],[247,3,1,0,0,0],[319,6,1],[255,8,1,0,0,0],[383,7,0,0,0,0],[511,9,0,0,0,0],[1023]]
theorem jvd(e:Evt)(ht:e.txt.length<=60):Den prog T 45 [.agg e.cs] (vb (br e)):=by
  have hfs:=jkq e.kind;cases hk:knd e.kind with
  | none=>
    have hF:br e=false:=by unfold br;rw[hk]
    rw[hk] at hfs;rw[hF];refine ab call45 func45 106 ?_;refine runD trivial ?_;refine aq qd8 ?_;refine gR hfs ?_;refine gD hfs jhk ?_;exact fin rfl
  | some x=>
    rw[hk] at hfs;obtain⟨E,hE⟩:∃E,br e=E:=⟨_,rfl⟩;rw[hE];unfold br at hE;rw[hk] at hE
    dsimp only at hE
    refine ab call45 func45 106 ?_;refine runD trivial ?_;refine aq qd8 ?_;refine gR hfs ?_;refine gD hfs jhk ?_;refine call (jgc e.id 1 1073741824) ?_;rw[show decide (1<=e.id/\e.id<=1073741824)=idB e.id from rfl];cases h1:idB e.id
    . have hE:false=E:=by rw[<- hE,h1];rfl
      subst hE;exact za
    refine rc (jgc e.day 0 1048575) ?_;rw[jzw];cases h2:dayG e.day
    . have hE:false=E:=by rw[<- hE,h1,h2];rfl
      subst hE;exact za
    by_cases h3:x.nums<=e.num.length
    case neg=>
      have hE:false=E:=by rw[<- hE,h1,h2,vw h3];rfl
      subst hE;exact za
    have rest:∀b5:Bool,(x.more || decide (e.num.length<=x.nums))=b5->(b5 && (if e.kind=3 then decide (0<=nth e 2) && decide (0<=nth e 3) && decide (nth e 2<=e.txt.length) && decide (nth e 3<=e.txt.length) && decide ((e.txt.length:Int)=2*nth e 2+2*nth e 3)
     else(!decide (e.kind=7) || (decide (0<=nth e 2) && decide (nth e 2<=1))) && decide (e.txt.length=x.txts)))=E:=fun b5 h5=>by
      rw[<- hE,h1,h2,vl h3,<- h5];rfl
    by_cases h5:(x.more || decide (e.num.length<=x.nums))=false
    . have hE:false=E:=by have:=rest _ h5;rwa [xau] at this
      subst hE;rw[Bool.or_eq_false_iff,xbl] at h5;refine runW h5.1 ?_;exact fin rfl
    have hE2:=rest true (by
      cases hh:(x.more || decide (e.num.length<=x.nums))
      . exact absurd hh h5
      rfl)
    rw[xar] at hE2
    have hm:x.more=true\/(x.more=false/\e.num.length<=x.nums):=by
      cases hx:x.more
      . rw[hx] at h5;right;simpa using h5
      exact .inl rfl
    clear rest hE h5;by_cases k3:e.kind=3
    . rw[ve k3] at hE2;have hx:x=⟨4,0,false,0⟩:=by rw[k3] at hk;cases hk;rfl
      subst hx
      have h4:e.num.length<=4:=by
        rcases hm with hm|hm
        . cases hm
        exact hm.2
      have h3:4<=e.num.length:=h3;have n2:=jel (e:=e) (i:=2) omq;have n3:=jel (e:=e) (i:=3) omq;refine runD (ai (vg k3) hfs) ?_;refine aq qzb ?_;by_cases a1:0<=nth e 2
      case neg=>
        rw[vw a1] at hE2;have hE:false=E:=hE2;subst hE;refine gR (ai (vf a1) (ai n2 n3)) ?_;exact fin rfl
      by_cases a2:0<=nth e 3
      case neg=>
        rw[vl a1,vw a2] at hE2;have hE:false=E:=hE2;subst hE;refine gR (ai (ai (vg a1) (vf a2)) (ai n2 n3)) ?_;exact fin rfl
      by_cases a3:nth e 2<=e.txt.length
      case neg=>
        rw[vl a1,vl a2,vw a3] at hE2;have hE:false=E:=hE2;subst hE;refine gR (ai (ai (vg a1) (ai (vg a2) (vf a3))) (ai n2 n3)) ?_;exact fin rfl
      by_cases a4:nth e 3<=e.txt.length
      case neg=>
        rw[vl a1,vl a2,vl a3,vw a4] at hE2;have hE:false=E:=hE2;subst hE;refine gR (ai (ai (vg a1) (ai (vg a2) (ai (vg a3) (vf a4)))) (ai n2 n3)) ?_;exact fin rfl
      rw[vl a1,vl a2,vl a3,vl a4,xar,xar,xar,xar] at hE2;subst hE2;refine gR (ai (ai (vg a1) (ai (vg a2) (ai (vg a3) (vg a4)))) (ai n2 n3)) ?_;exact fin rfl
    rw[vd k3] at hE2;by_cases k7:e.kind=7
    . have hx:x=⟨6,2,false,4⟩:=by rw[k7] at hk;cases hk;rfl
      subst hx
      have h4:e.num.length<=6:=by
        rcases hm with hm|hm
        . cases hm
        exact hm.2
      have h3:6<=e.num.length:=h3;have n2:=jel (e:=e) (i:=2) omq;refine rcW (ai (ai (vf k3) (vg k7)) n2) (jgc (nth e 2) 0 1) ?_;rw[vl k7,xbs,xav,<- Bool.decide_and] at hE2;cases h7:decide (0<=nth e 2/\nth e 2<=1)
      . rw[h7] at hE2;have hE:false=E:=hE2;subst hE;exact za
      rw[h7] at hE2;have hE:decide (e.txt.length=2)=E:=hE2;subst hE;refine run ?_;refine fin (ah ?_);by_cases h2:e.txt.length=2<;>simp[h2]<;>omega
    rw[vw k7] at hE2;have hE:decide (e.txt.length=x.txts)=E:=hE2;subst hE;rcases hm with hm|⟨hm,h4⟩
    . refine runW (ai hm (ai (vf k3) (vf k7))) ?_;refine fin (ah ?_);by_cases h2:e.txt.length=x.txts<;>simp[h2]<;>omega
    refine runW (ai hm (ai (vf k3) (vf k7))) ?_;refine fin (ah ?_);by_cases h2:e.txt.length=x.txts<;>simp[h2]<;>omega
end Go.Arc
