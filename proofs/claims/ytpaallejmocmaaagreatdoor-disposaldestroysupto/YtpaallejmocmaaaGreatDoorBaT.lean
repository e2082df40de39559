/- A part of this claim. -/
import Derived.Test.YtpaallejmocmaaaGreatDoorBaI
set_option maxHeartbeats 2000000
set_option maxRecDepth 100000
namespace Go.Arc
open Go.Ab Go.RowKit Go.Proofs Tryz
variable {T : Lay}
variable {ps:List Plan}{os:List Ofc}{l:List Fil}{f:Fil}
theorem qgj(l:List Int)(x:Int)(hl:l.length<=1048576):Den prog T 67 [ints l,vi x] (vi (ix (fun y=>decide (x=y)) l)):=by
 refine ab call67 func67 19 ?_;refine run ?_;refine aj ⟨[8,0,1,7],[],[],[]⟩ l.length (fun k=>∀n∈l.take k,decide (x=n)=false) smq ?_;rintro k ⟨hk,hall⟩;by_cases hlt:k<l.length
 .obtain⟨y,hy,-,-⟩:=ac hlt;by_cases hxy:x=y
  .exact zd0
  exact zcv
 refine run ?_;exact fin (ah (ov (p:=fun n=>decide (x=n)) hall hlt))
theorem jge(l:List Int)(x:Int)(hl:l.length<=1048576):Den prog T 22 [ints l,vi x] (vb (l.any fun y=>decide (x=y))):=by
 refine ab call22 func22 9 ?_;refine rc (qgj l x hl) ?_;exact zbv
theorem qmj(l:List Int)(f:FuncId)(cap:List V)(p:Int->Bool)(hl:l.length<=1048576)(hp:∀e∈l,Den prog T f (vi e::cap) (vb (p e))):
   Den prog T 139 [ints l,.func f cap] (vi (ix p l)):=by
  refine ab call139 func139 19 ?_;exact ixPf
theorem jdd(l:List Int)(f:FuncId)(cap:List V)(p:Int->Bool)(hl:l.length<=1048576)(hp:∀e∈l,Den prog T f (vi e::cap) (vb (p e))):
   Den prog T 83 [ints l,.func f cap] (vb (l.any p)):=by
  refine ab call83 func83 9 ?_;refine rc (qmj l f cap p hl hp) ?_;exact zbu
theorem qmh(l:List Ofc)(f:FuncId)(cap:List V)(p:Ofc->Bool)(hl:l.length<=1048576)(hp:∀e∈l,Den prog T f (.agg e.cs::cap) (vb (p e))):
   Den prog T 395 [ofcs l,.func f cap] (vi (ix p l)):=by
  refine ab call395 func395 19 ?_;exact ixPf
theorem qja(o:Ofc)(n:Int):Den prog T 396 [.agg o.cs,.row [vi n]] (vb (isId n o)):=by
 refine ab call396 func396 8 ?_;exact za
theorem jx2(l:List Ofc)(n:Int)(hl:l.length<=1048576):Den prog T 361 [ofcs l,vi n] (vi (jf4 l n)):=by
 refine ab call361 func361 8 ?_;refine rc (qmh l _ _ (isId n) hl fun o _=>qja o n) ?_;exact za
theorem jcz(l:List Ofc)(n:Int)(hl:l.length<=1048576):Den prog T 292 [ofcs l,vi n] (vi (jf4 l n)):=by
 refine ab call292 func292 20 ?_;refine run ?_;refine aj ⟨[5,0,1],[],[],[]⟩ l.length (fun k=>∀o∈l.take k,isId n o=false) smq ?_;rintro k ⟨hk,hall⟩;by_cases hlt:k<l.length
 .obtain⟨x,hx,-,-⟩:=ac hlt;by_cases hxn:x.id=n
  .refine runW hx ?_;exact fin (ah (nv (p:=isId n) hall hx (by simp[isId,hxn])))
  refine runW hx ?_;exact round (k+1) ⟨omq,an (q:=fun o:Ofc=>isId n o=false) hall hx (by simp[isId,hxn])⟩ omq
 refine run ?_;exact fin (ah (ov (p:=isId n) hall hlt))
theorem qi9(f u:Int):Den prog T 247 [span f u] (vb (bm f u)):=by
 refine ab call247 func247 18 ?_;unfold bm;by_cases h1:0<=f<;>by_cases h2:f<u<;>by_cases h3:u<=1048576<;>(refine run ?_;refine fin (ae ?_);simp;try omega)
instance:TZV prog 99 (.agg #[.int .i64 0,.string ⟨#[]⟩,.int .i64 0,.int .i64 0,.slice none 0 0]):=⟨krq⟩
instance:TMap prog 274 3 99 (.agg #[.int .i64 0,.string ⟨#[]⟩,.int .i64 0,.int .i64 0,.slice none 0 0]):=⟨krq,krq,krq⟩
theorem jal:si (.agg #[.int .i64 0,.string ⟨#[]⟩,.int .i64 0,.int .i64 0,.slice none 0 0])=true:=rfl
theorem jam:qz (.agg #[.int .i64 0,.string ⟨#[]⟩,.int .i64 0,.int .i64 0,.slice none 0 0])=.agg [vi 0,.str [],vi 0,vi 0,.val (.slice none 0 0)]:=rfl
theorem qp0(σ:Sto):opv σ (.const (.map none))=some (.v (.val (.map none))):=rfl
theorem jwx(l:List Ofc)(hl:l.length<=1048576):Den prog T 246 [ofcs l] (mapO (idxO l)):=by
 refine ab call246 func246 30 ?_;refine runW qp0 ?_
 refine loop ⟨[3,9,10,11],[8],[],[]⟩ (fun k:Nat=>k<=l.length) (fun k=>l.length-k)
  (fun k=>⟨30,[(3,.m 8),(9,.v (ofcs l)),(10,.v (vi l.length)),(11,.v (vi k))],[(8,.map (mj (idxO (l.take k))))],[]⟩) 0 omq ?_
 intro k hk;by_cases hlt:k<l.length
 .obtain⟨x,hx,-,-⟩:=ac hlt
  have hstep:idxO (l.take (k+1))=addO (idxO (l.take k)) x:=by
   obtain⟨hlt',rfl⟩:=gsi.1 hx
   show (l.take (k+1)).foldl addO []=_
   rw[qva hlt',qvk];rfl
  have hf:=jbi x.id (idxO (l.take k));cases hlk:ar (idxO (l.take k)) x.id with
  |some y=>
   rw[hlk] at hf;have ha:addO (idxO (l.take k)) x=idxO (l.take k):=by unfold addO;rw[hlk];rfl
   rw[ha] at hstep;refine runW (ai hx (ai hf (ai jal jam))) ?_;refine round (k+1) omq omq ?_;rw[hstep];rfl
  |none=>
   rw[hlk] at hf;have hu:=jrx hlk;have ha:addO (idxO (l.take k)) x=idxO (l.take k)++[x]:=by unfold addO;rw[hlk];rfl
   rw[ha] at hstep;refine runW (ai hx (ai hf (ai hu (ai jal jam)))) ?_;refine round (k+1) omq omq ?_;rw[hstep];rfl
 have he:l.take k=l:=xn omq;rw[he];refine run ?_;exact finFm (.refl _)
theorem qm8(es:List Ofc)(o:Ofc)(n:Int)(h:(ar es n).isSome=true):Den prog T 305 [vi n,.row [mapO es],.row o.cs] (vb (!decide (frmO es n=o.til))):=by
 have hz:=jfn (mj es);have hf:=jbi n es;cases e:ar es n with
 |none=>rw[e] at h;cases h
 |some x=>
  rw[e] at hf;have hfr:frmO es n=x.frm:=by unfold frmO;rw[e]
  rw[hfr];refine ab call305 func305 14 ?_;refine runW (ai hz (ai hf (ai jal jam))) ?_;exact fin rfl
theorem jyu(es:List Ofc)(o:Ofc)(ho:o.Fit):Den prog T 248 [mapO es,.agg o.cs] (vi (dw es o)):=by
 have hn:=ho.2;have hz:=jfn (mj es);refine ab call248 func248 46 ?_;refine run ?_;refine aj ⟨[14,2,3,12,13],[2,3],[],[]⟩ o.nxt.length (fun k=>∀i,i<k->jb3 o.nxt i=false) omq ?_;rintro k ⟨hk,hall⟩;by_cases hlt:k<o.nxt.length
 .obtain⟨x,hx,-,-⟩:=ac hlt;have htk:((o.nxt.map Cint).take k).drop 0=(o.nxt.take k).map Cint:=by simp
  refine rcW (ai hx htk) (jge (o.nxt.take k) x zew) ?_;cases hd:(o.nxt.take k).any fun y=>decide (x=y)
  .refine run ?_;refine round (k+1) ⟨omq,fun i hi=>?_⟩ omq;by_cases e:i=k
   .rw[e];exact qbf hx hd
   exact zb3
  have hs:dw es o=6:=by unfold dw;rw[um (qbe hx hd)]
  rw[hs];exact za
 have hd:dups o.nxt=false:=jyr fun i hi=>hall i omq;refine run ?_;refine aj ⟨[29,2,3,27,28],[2,3],[],[]⟩ o.nxt.length (fun k=>∀n∈o.nxt.take k,(ar es n).isNone=false) smq ?_;rintro k ⟨hk,hall⟩;by_cases hlt:k<o.nxt.length
 .obtain⟨x,hx,-,-⟩:=ac hlt;have hf:=jbi x es;cases e:ar es x with
  |none=>
   rw[e] at hf
   have hs:dw es o=7:=by
    unfold dw;rw[ul (by simp[hd]),um (jj hx (by simp[e]))]
   rw[hs];refine runW (ai hx (ai hz (ai hf (ai jal jam)))) ?_;exact fin rfl
  |some y=>
   rw[e] at hf;refine runW (ai hx (ai hz (ai hf (ai jal jam)))) ?_;exact round (k+1) ⟨omq,an (q:=fun n:Int=>(ar es n).isNone=false) hall hx (by simp[e])⟩ omq
 have h7:(o.nxt.any fun n=>(ar es n).isNone)=false:=nh hall hlt;refine rc (jdd o.nxt _ _ (fun n=> !decide (frmO es n=o.til)) hn fun n hm=>qm8 es o n ?_) ?_
 .have:=vn.1 h7 n hm;cases e:ar es n<;>simp[e] at this ⊢
 have hs:dw es o=if(o.nxt.any fun n=> !decide (frmO es n=o.til))=true then 10 else 0:=by
  unfold dw;rw[ul (by simp[hd]),ul (by simp only[h7];exact Bool.noConfusion)]
 rw[hs];cases o.nxt.any fun n=> !decide (frmO es n=o.til)
 .exact za
 exact za
theorem jsu(l:List Ofc)(o:Ofc)(hl:l.length<=1048576)(ho:o.Fit):Den prog T 288 [ofcs l,.agg o.cs] (vi (dw l o)):=by
 have hn:=ho.2;refine ab call288 func288 70 ?_;refine run ?_;refine aj ⟨[5,0,3],[3],[],[]⟩ o.nxt.length (fun k=>∀i,i<k->jb3 o.nxt i=false) omq ?_;rintro k ⟨hk,hall⟩;by_cases hlt:k<o.nxt.length
 .obtain⟨x,hx,-,-⟩:=ac hlt;refine run ?_;refine aj ⟨[6,0,3,5],[3],[],[]⟩ k (fun j=>∀y∈o.nxt.take j,decide (x=y)=false) smq ?_;rintro j ⟨hj,hin⟩;by_cases hjk:j<k
  .obtain⟨y,hy,-,-⟩:=ac (l:=o.nxt) (k:=j) omq;by_cases hxy:x=y
   .subst hxy;have hmem:(o.nxt.take k).any (fun y=>decide (x=y))=true:=jj (k:=j) (by rw[xt,um hjk];exact hy) smq;have hs:dw l o=6:=by unfold dw;rw[um (qbe hx hmem)]
    rw[hs];refine runW (ai hx hy) ?_;exact fin rfl
   have hyx:¬y=x:=fun e=>hxy e.symm;refine runW (ai hx hy) ?_;exact round (j+1) ⟨omq,an (q:=fun y:Int=>decide (x=y)=false) hin hy (by simp[hxy])⟩ omq
  have hd:(o.nxt.take k).any (fun y=>decide (x=y))=false:=by
   have:j=k:=omq;subst this;rw[vn];intro y hy;simp[hin y hy]
  refine run ?_;refine round (k+1) ⟨omq,fun i hi=>?_⟩ omq;by_cases e:i=k
  .rw[e];exact qbf hx hd
  exact zb3
 have hd:dups o.nxt=false:=jyr fun i hi=>hall i omq;refine run ?_;refine aj ⟨[7,0,3],[3],[],[]⟩ o.nxt.length (fun k=>∀n∈o.nxt.take k,(ar l n).isNone=false) smq ?_;rintro k ⟨hk,hall⟩;by_cases hlt:k<o.nxt.length
 .obtain⟨x,hx,-,-⟩:=ac hlt;refine rcW hx (jcz l x hl) ?_;rcases ja5 l x with⟨h1,h2⟩|⟨i,q,h1,h2,h3⟩
  .have hs:dw l o=7:=by
    unfold dw;rw[ul (by simp[hd]),um (jj hx (by simp[h2]))]
   rw[hs];exact za
  rw[h1];refine run ?_;exact round (k+1) ⟨omq,an (q:=fun n:Int=>(ar l n).isNone=false) hall hx (by simp[h3])⟩ omq
 have h7:(o.nxt.any fun n=>(ar l n).isNone)=false:=nh hall hlt
 have hs:dw l o=if(o.nxt.any fun n=> !decide (frmO l n=o.til))=true then 10 else 0:=by
  unfold dw;rw[ul (by simp[hd]),ul (by simp only[h7];exact Bool.noConfusion)]
 rw[hs];refine run ?_;refine aj ⟨[8,0,3],[3],[],[]⟩ o.nxt.length (fun k=>∀n∈o.nxt.take k,(!decide (frmO l n=o.til))=false) smq ?_;rintro k ⟨hk,hall2⟩;by_cases hlt:k<o.nxt.length
 .obtain⟨x,hx,-,hm⟩:=ac hlt;have hx7:=vn.1 h7 x hm;refine rcW hx (jcz l x hl) ?_;rcases ja5 l x with⟨h1,h2⟩|⟨i,q,h1,h2,h3⟩
  .simp[h2] at hx7
  have hfr:frmO l x=q.frm:=by unfold frmO;rw[h3]
  rw[h1];by_cases he:q.frm=o.til
  .refine runW h2 ?_;exact round (k+1) ⟨omq,an (q:=fun n:Int=>(!decide (frmO l n=o.til))=false) hall2 hx (by simp[hfr,he])⟩ omq
  rw[um (jj hx (by simp[hfr,he]))];refine runW h2 ?_;exact fin rfl
 rw[ul (by rw[nh hall2 hlt];exact Bool.noConfusion)];exact za
theorem qee(l:List Ofc)(i:Nat)(hl:gq l)(hi:i<l.length):Den prog T 220 [ofcs l,vi i] (vi (fv l i)):=by
 obtain⟨hl0,hf⟩:=hl;obtain⟨o,ho,-,hm⟩:=ac hi;obtain⟨h1,h2⟩:=id (hf o hm);refine ab call220 func220 50 ?_;by_cases b1:o.id<1
 .rw[ry ho (.inl b1)];exact zeg
 by_cases b2:1073741824<o.id
 .rw[ry ho (.inr (.inl b2))];exact zeg
 refine rcW ho (jdf o.frm o.til) ?_;cases hg:bm o.frm o.til
 .rw[ry ho (.inr (.inr (.inl hg)))];exact za
 by_cases b4:8<o.nxt.length
 .rw[ry ho (.inr (.inr (.inr b4)))];exact za
 have hb:¬badO o:=fun h=>by
  rcases h with h|h|h|h
  .exact b1 h
  .exact b2 h
  .rw[hg] at h;cases h
  exact b4 h
 refine rc (sv o.name h1) ?_;cases hn:name o.name
 .rw[jmo ho hb hn];exact za
 by_cases h0:i=0
 .subst h0;rw[jl5 ho hb hn];refine rc (jsu l o hl0 (hf o hm)) ?_;exact za
 obtain⟨q,hq,-,-⟩:=ac (l:=l) (k:=i-1) omq;by_cases hle:o.id<=q.id
 .rw[jmn ho hb hn h0 hq hle];refine runW hq ?_;exact fin rfl
 rw[jmm ho hb hn h0 hq hle];refine rcW hq (jsu l o hl0 (hf o hm)) ?_;exact za
theorem jrv(l:List Ofc)(hl:gq l):Den prog T 144 [ofcs l] (chkV (fy l)):=by
 have hl0:=hl.1;refine ab call144 func144 22 ?_;by_cases h16:32<l.length
 .refine run ?_;refine fin ?_;simp only[chkV,fy,jn h16]
 refine run ?_;refine aj ⟨[4,0],[],[],[]⟩ l.length (fun k=>∀i,i<k->fv l i=0) omq ?_;rintro k ⟨hk,hall⟩;by_cases hlt:k<l.length
 .refine rc (qee l k hl hlt) ?_;by_cases hz:fv l k=0
  .refine run ?_;refine round (k+1) ⟨omq,fun i hi=>?_⟩ omq;by_cases e:i=k
   .exact zc6
   exact zb3
  refine run ?_;refine fin ?_;simp only[chkV,fy,kf h16 hlt hall hz]
 refine run ?_;refine fin ?_;simp only[chkV,fy,ir h16 fun i hi=>hall i omq]
theorem js8(l:List Ofc)(hl:gq l):Den prog T 222 [ofcs l] (vb (dy l)):=by
 refine ab call222 func222 12 ?_;refine rc (jrv l hl) ?_;refine run ?_;exact fin (ae rfl)
theorem jkc(L:LibC T)(l:List Ofc)(hl:gq l):Den prog T 165 [ofcs l] (chkV (fy l)):=by
 have hl0:=hl.1;refine ab call165 func165 71 ?_;by_cases h16:32<l.length
 .refine run ?_;refine fin ?_;simp only[chkV,fy,jn h16]
 refine rc (jwx l hl0) ?_;refine run ?_;refine aj ⟨[15,0,4,13,14],[],[],[]⟩ l.length (fun k=>∀i,i<k->fv l i=0) omq ?_;rintro k ⟨hk,hall⟩;by_cases hlt:k<l.length
 .obtain⟨o,ho,-,hm⟩:=ac hlt;have hof:=hl.2 o hm;obtain⟨h1,h2⟩:=id hof
  have out:∀e:Int,fv l k=e->e≠0->chkV (fy l)=.tup [vi k,vi e]:=fun e he hne=>by
   rw[fy,kf h16 hlt hall zfo,he]
  by_cases b1:o.id<1
  .rw[out 2 (ry ho (.inl b1)) dcq];exact zeg
  by_cases b2:1073741824<o.id
  .rw[out 2 (ry ho (.inr (.inl b2))) dcq];exact zeg
  refine rcW ho (qi9 o.frm o.til) ?_;cases hg:bm o.frm o.til
  .rw[out 2 (ry ho (.inr (.inr (.inl hg)))) dcq];exact za
  by_cases b4:8<o.nxt.length
  .rw[out 2 (ry ho (.inr (.inr (.inr b4)))) dcq];exact za
  have hb:¬badO o:=fun h=>by
   rcases h with h|h|h|h
   .exact b1 h
   .exact b2 h
   .rw[hg] at h;cases h
   exact b4 h
  refine rc (jah L o.name h1) ?_;cases hn:name o.name
  .rw[out 4 (jmo ho hb hn) dcq];exact za
  have hsi:=qoi l o;by_cases h0:k=0
  .subst h0;have hs:=jl5 ho hb hn;refine rc (jyu (idxO l) o hof) ?_;rw[hsi,<- hs];by_cases hz:fv l 0=0
   .refine run ?_;refine round 1 ⟨omq,fun i hi=>?_⟩ omq;rw[show i=0 by omega];exact hz
   rw[out _ rfl hz];exact za
  obtain⟨q,hq,-,-⟩:=ac (l:=l) (k:=k-1) omq;by_cases hle:o.id<=q.id
  .rw[out 5 (jmn ho hb hn h0 hq hle) dcq];refine runW hq ?_;exact fin rfl
  have hs:=jmm ho hb hn h0 hq hle;refine rcW hq (jyu (idxO l) o hof) ?_;rw[hsi,<- hs];by_cases hz:fv l k=0
  .refine run ?_;refine round (k+1) ⟨omq,fun i hi=>?_⟩ omq;by_cases e:i=k
   .exact zc6
   exact zb3
  rw[out _ rfl hz];exact za
 refine run ?_;refine fin ?_;simp only[chkV,fy,ir h16 fun i hi=>hall i omq]
def jb0(o:Ofc):Bool:= !(decide (10<o.nxt.length) || decide (100<o.name.length))
def fewO(l:List Ofc):Bool:= !((decide (12<l.length) && decide (l.length<=32)) || decide (37<l.length)) && l.all jb0
theorem qqc(l:List Ofc)(hl:gq l):Den prog T 59 [ofcs l] (vb (fewO l)):=by
 have hl0:=hl.1;refine ab call59 func59 39 ?_;by_cases g:(12<l.length/\l.length<=32)\/37<l.length
 .have hf:fewO l=false:=by
   rcases g with⟨g1,g2⟩|g
   .simp[fewO,g1,g2]
   simp[fewO,g]
  rw[hf];by_cases a1:l.length<=32
  .have a2:12<l.length:=omq;exact za
  have a2:12<l.length:=omq;have a3:37<l.length:=omq;exact za
 have hq:fewO l=l.all jb0:=by
  have e1:(decide (12<l.length) && decide (l.length<=32))=false:=by
   cases e:decide (12<l.length)
   .rfl
   have:12<l.length:=by simpa using e
   simp;omega
  have e2:decide (37<l.length)=false:=by simp;omega
  simp only[fewO,e1,e2,xx,qvl,yc]
 have go:∀Q:Prop,(12<l.length->¬l.length<=32->Q)->(¬ 12<l.length->Q)->Q:=fun Q a b=>by
  by_cases a1:12<l.length
  .exact a a1 omq
  exact b a1
 rw[hq];have a3:¬ 37<l.length:=omq;refine go _ (fun a1 a2=>?_) (fun a1=>?_) <;>
 .refine run ?_;refine aj ⟨[3,0],[],[],[]⟩ l.length (fun k=>∀p∈l.take k,jb0 p=true) smq ?_;rintro k ⟨hk,hall⟩;by_cases hlt:k<l.length
  .obtain⟨x,hx,hd,hm⟩:=ac hlt;obtain⟨f1,f2⟩:=hl.2 x hm;by_cases g1:10<x.nxt.length
   .refine runW hx ?_;refine fin (ae ?_);rw[kr hx (by simp[jb0,g1])]
   by_cases g2:100<x.name.length
   .refine runW hx ?_;refine fin (ae ?_);rw[kr hx (by simp[jb0,g2])]
   refine runW hx ?_;exact round (k+1) ⟨omq,an (q:=fun p:Ofc=>jb0 p=true) hall hx (by simp[jb0,g1,g2])⟩ omq
  refine run ?_;refine fin (ae ?_);rw[jat hall hlt]
theorem jk7(d f:Int):Den prog T 309 [vi d,vi f] (vb (dayB d f)):=by
 refine ab call309 func309 12 ?_;unfold dayB;by_cases h1:f<=d<;>by_cases h2:d<=1048575<;>(refine run ?_;refine fin (ae ?_);simp;try omega)
theorem jd5(n a b:Int):Den prog T 291 [vi n,vi a,vi b] (vb (decide (a<=n/\n<=b))):=by
 refine ab call291 func291 15 ?_;by_cases h1:a<=n<;>by_cases h2:n<=b<;>(refine run ?_;refine fin (ae ?_);simp;try omega)
theorem qq2(L:LibC T)(s:Str)(hs:s.length<=1048576):Den prog T 365 [.str s] (vb (fk s)):=by
 refine ab call365 func365 13 ?_;refine rc (jah L s hs) ?_;cases hn:name s
 .refine run ?_;refine fin (ae ?_);simp[fk,hn]
 cases h1:s == [111,112,101,110,101,100]
 .exact zb7
 exact zb7
theorem qms(s:Str)(hs:s.length<=1048576):Den prog T 348 [.str s] (vb (fk s)):=by
 refine ab call348 func348 13 ?_;refine rc (sv s hs) ?_;cases hn:name s
 .refine run ?_;refine fin (ae ?_);simp[fk,hn]
 cases h1:s == [111,112,101,110,101,100]
 .exact zb7
 exact zb7
theorem js5(a b:Int):Den prog T 279 [datg a b] (vi (if dz a b=true then 0 else 1)):=by
 refine ab call279 func279 18 ?_;by_cases h1:a<0
 .have hg:dz a b=false:=by simp[dz];omega
  rw[hg];exact za
 by_cases h2:b<a
 .have hg:dz a b=false:=by simp[dz];omega
  rw[hg];exact za
 by_cases h3:1048575<b
 .have hg:dz a b=false:=by simp[dz];omega
  rw[hg];exact za
 have hg:dz a b=true:=by simp[dz];omega
 rw[hg];exact za
theorem jt0(a b:Int):Den prog T 239 [datg a b] (vb (dz a b)):=by
 refine ab call239 func239 18 ?_;unfold dz;by_cases h1:0<=a<;>by_cases h2:a<=b<;>by_cases h3:b<=1048575<;>(refine run ?_;refine fin (ae ?_);simp;try omega)
theorem qm4(f:Fil)(n:Note):Den prog T 367 [.agg f.cs,.agg n.cs] (vb (ip f n)):=by
 refine ab call367 func367 16 ?_;refine rc (js5 n.fst n.lst) ?_;unfold ip;cases dz n.fst n.lst
 .exact za
 refine rc (jk7 n.rcd f.opn) ?_;exact za
theorem qij(L:LibC T)(n:Note)(hn:n.Fit):Den prog T 364 [.agg n.cs] (vb (!fk n.name)):=by
 refine ab call364 func364 7 ?_;refine rc (qq2 L n.name hn) ?_;exact za
theorem qii(f:Fil)(n:Note):Den prog T 366 [.agg n.cs,.row f.cs] (vb (!ip f n)):=by
 refine ab call366 func366 8 ?_;refine rc (qm4 f n) ?_;exact za
theorem qih(a b:Note):Den prog T 369 [.agg a.cs,.agg b.cs] (vi (cmpI a.rcd b.rcd)):=by
 refine ab call369 func369 10 ?_;refine rc (jgg a.rcd b.rcd) ?_;exact za
theorem qbp(a b:Int):cmpI a b<0↔a<b:=by
 unfold cmpI;split
 .constructor<;>intro<;>omega
 split<;>(constructor<;>intro<;>omega)
theorem qdu(l:List Note)(f:FuncId)(hl:l.length<=1048576)(hp:∀a b:Note,Den prog T f [.agg a.cs,.agg b.cs] (vi (cmpI a.rcd b.rcd))):
   Den prog T 368 [ntss l,.func f []] (vb (!qg l)):=by
  refine ab call368 func368 25 ?_;refine run ?_;refine bp ⟨[5,0,1],[],[],[]⟩ (fun i:Int=> -1<=i/\i+1<=l.length/\∀j:Nat,i<j->j<l.length->so l j=false) (fun i=>(i+1).toNat) (fun i=>[(5,.v (vi i))]) ((l.length:Int)-1) ⟨omq,omq,fun j h1 h2=>by omega⟩ ?_;rintro i ⟨h1,h2,hall⟩;by_cases hpos:0<i
  . obtain⟨k,rfl⟩:∃k:Nat,i=k:=⟨i.toNat,omq⟩;obtain⟨y,hy,-,-⟩:=ac (l:=l) (k:=k) omq;obtain⟨x,hx,-,-⟩:=ac (l:=l) (k:=k-1) omq;have he:=qbc (show k≠0 by omega) hx hy;refine rcW (ai hx hy) (hp y x) ?_;by_cases hlt:y.rcd<x.rcd
    . have hc:=(qbp y.rcd x.rcd).2 hlt;rw[jsg (show k<l.length by omega) (by rw[he];simp[hlt])];exact za
    have hc:¬cmpI y.rcd x.rcd<0:=fun h=>hlt ((qbp _ _).1 h);refine run ?_;refine round ((k:Int)-1) ⟨omq,omq,fun j g1 g2=>?_⟩ omq;by_cases e:j=k
    . rw[e,he];simp[hlt]
    exact hall j omq g2
  rw[jry fun j hj=>by
    by_cases h0:j=0
    . rw[h0];exact qbd l
    exact hall j omq hj]
  exact za
theorem qm7(L:LibC T)(f:Fil)(hf:f.Fit):Den prog T 312 [.agg f.cs] (vi (jf f)):=by
 have hn:=hf.2.2.1;refine ab call312 func312 22 ?_;by_cases h16:16<f.nts.length
 .rw[jjw h16];exact za
 refine rc (jt4 f.nts _ _ (fun n=> !fk n.name) hn fun n hm=>qij L n (hf.2.2.2 n hm)) ?_;cases h4:f.nts.any fun n=> !fk n.name
 .refine rc (jt4 f.nts _ _ (fun n=> !ip f n) hn fun n _=>qii f n) ?_;cases h2:f.nts.any fun n=> !ip f n
  .rw[jjv h16 h4 h2];refine rc (qdu f.nts _ hn fun a b=>qih a b) ?_;cases qg f.nts
   .exact za
   exact za
  rw[jg7 h16 h4 h2];exact za
 rw[jjx h16 h4];exact za
theorem qfj(f:Fil)(hf:f.Fit):Den prog T 293 [.agg f.cs] (vi (jf f)):=by
 have hn:=hf.2.2.1;refine ab call293 func293 73 ?_;by_cases h16:16<f.nts.length
 .rw[jjw h16];exact za
 refine run ?_;refine aj ⟨[3,1],[1],[],[]⟩ f.nts.length (fun k=>∀n∈f.nts.take k,(!fk n.name)=false) smq ?_;rintro k ⟨hk,hall⟩;by_cases hlt:k<f.nts.length
 .obtain⟨x,hx,-,hm⟩:=ac hlt;refine rcW hx (qms x.name (hf.2.2.2 x hm)) ?_;cases hfr:fk x.name
  .rw[jjx h16 (jj hx (by simp[hfr]))];exact za
  refine run ?_;exact round (k+1) ⟨omq,an (q:=fun n:Note=>(!fk n.name)=false) hall hx (by simp[hfr])⟩ omq
 have h4:(f.nts.any fun n=> !fk n.name)=false:=nh hall hlt;refine run ?_;refine aj ⟨[4,1],[1],[],[]⟩ f.nts.length (fun k=>∀n∈f.nts.take k,(!ip f n)=false) smq ?_;rintro k ⟨hk,hall⟩;by_cases hlt:k<f.nts.length
 .obtain⟨x,hx,-,hm⟩:=ac hlt;refine rcW hx (jt0 x.fst x.lst) ?_;cases hg:dz x.fst x.lst
  .rw[jg7 h16 h4 (jj hx (by simp[ip,hg]))];exact za
  refine rcW hx (jd5 x.rcd f.opn 1048575) ?_;have hr:ip f x=decide (f.opn<=x.rcd/\x.rcd<=1048575):=by simp[ip,hg,dayB]
  cases hd:decide (f.opn<=x.rcd/\x.rcd<=1048575)
  .rw[jg7 h16 h4 (jj hx (by rw[hr,hd];rfl))];exact za
  refine run ?_;exact round (k+1) ⟨omq,an (q:=fun n:Note=>(!ip f n)=false) hall hx (by rw[hr,hd];rfl)⟩ omq
 have h2:(f.nts.any fun n=> !ip f n)=false:=nh hall hlt;rw[jjv h16 h4 h2];refine run ?_;refine bp ⟨[5,1],[1],[],[]⟩ (fun k:Nat=>1<=k/\∀j,j<k->so f.nts j=false) (fun k=>f.nts.length-k) (fun k=>[(5,.v (vi k))]) 1 ⟨omq,fun j hj=>by rw[show j=0 by omega];exact qbd _⟩ ?_;rintro k ⟨hk,hall⟩;by_cases hlt:k<f.nts.length
 .obtain⟨y,hy,-,-⟩:=ac hlt;obtain⟨x,hx,-,-⟩:=ac (l:=f.nts) (k:=k-1) omq;have he:=qbc (show k≠0 by omega) hx hy;by_cases hc:y.rcd<x.rcd
  .rw[um (jsg hlt (by rw[he];simp[hc]))];refine runW (ai hx hy) ?_;exact fin rfl
  refine runW (ai hx hy) ?_;refine round (k+1) ⟨omq,fun j hj=>?_⟩ omq;by_cases e:j=k
  .rw[e,he];simp[hc]
  exact hall j omq
 rw[ul (by rw[jry fun j hj=>hall j omq];exact Bool.noConfusion)];exact za
theorem qmk(l:List Fil)(f:FuncId)(cap:List V)(p:Fil->Bool)(hl:l.length<=1048576)(hp:∀e∈l,Den prog T f (.agg e.cs::cap) (vb (p e))):
   Den prog T 181 [fils l,.func f cap] (vi (ix p l)):=by
  refine ab call181 func181 19 ?_;exact ixPf
theorem qjb(f:Fil)(n:Int):Den prog T 182 [.agg f.cs,.row [vi n]] (vb (iw n f)):=by
 refine ab call182 func182 8 ?_;exact za
theorem jlc(l:List Fil)(n:Int)(hl:l.length<=1048576):Den prog T 106 [fils l,vi n] (vi (cv l n)):=by
 refine ab call106 func106 8 ?_;refine rc (qmk l _ _ (iw n) hl fun o _=>qjb o n) ?_;exact za
theorem jfk(l:List Fil)(n:Int)(hl:l.length<=1048576):Den prog T 41 [fils l,vi n] (vi (cv l n)):=by
 refine ab call41 func41 20 ?_;refine run ?_;refine aj ⟨[5,0,1],[],[],[]⟩ l.length (fun k=>∀o∈l.take k,iw n o=false) smq ?_;rintro k ⟨hk,hall⟩;by_cases hlt:k<l.length
 .obtain⟨x,hx,-,-⟩:=ac hlt;by_cases hxn:x.id=n
  .refine runW hx ?_;exact fin (ah (nv (p:=iw n) hall hx (by simp[iw,hxn])))
  refine runW hx ?_;exact round (k+1) ⟨omq,an (q:=fun o:Fil=>iw n o=false) hall hx (by simp[iw,hxn])⟩ omq
 refine run ?_;exact fin (ah (ov (p:=iw n) hall hlt))
theorem qs6(f u d:Int):inS f u d=(decide (f<=d) && decide (d<u)):=by simp[inS]
theorem qm0(os:List Ofc)(id d:Int)(hl:os.length<=1048576):Den prog T 310 [ofcs os,vi id,vi d] (vb (nk os id d)):=by
 refine ab call310 func310 33 ?_;refine rc (jx2 os id hl) ?_;rcases ja5 os id with⟨h1,h2⟩|⟨i,o,h1,h2,h3⟩
 .rw[jxt h2];exact za
 rw[h1,jxs h3,qs6];by_cases g1:o.frm<=d
 .by_cases g2:d<o.til
  .refine runW h2 ?_;exact fin rfl
  refine runW h2 ?_;exact fin rfl
 refine runW h2 ?_;exact z5
theorem nc(f:Fil):badF f↔(f.id<1\/1073741824<f.id\/dayB f.opn 0=false\/(dayB f.cld f.opn=false/\f.cld≠1048576)\/f.pts<0\/100<f.pts):=Iff.rfl
theorem jvs(h:idx ps f.opn<0):qo ps f=true:=by simp[qo,h]
theorem jvr{v:Nat}{p:Plan}(h:idx ps f.opn=v)(hp:ps[v]?=some p):qo ps f= !has p f.cls:=by
 unfold qo;have:decide ((v:Int)<0)=false:=ux omq;rw[h,Int.toNat_natCast,sg hp,this];rfl
theorem qj1(L:LibC T)(os:List Ofc)(ps:List Plan)(l:List Fil)(i:Nat)(ho:gq os)(hp:Fits ps)(hg:goodL ps=true)(hl:jb9 l)(hi:i<l.length):
  Den prog T 250 [ofcs os,ay ps,fils l,vi i] (vi (iq os ps l i)):=by
 obtain⟨hl0,hf⟩:=hl;obtain⟨f,hfi,-,hm⟩:=ac hi;have hff:=hf f hm;have hp0:=hp.1;have ho0:=ho.1;refine ab call250 func250 99 ?_;refine rcW hfi (jos L ps f.opn hp) ?_;rw[jnh hg];by_cases b1:f.id<1
 .rw[ol hfi ((nc f).2 (.inl b1))];exact za
 by_cases b2:1073741824<f.id
 .rw[ol hfi ((nc f).2 (.inr (.inl b2)))];exact za
 refine rc (jk7 f.opn 0) ?_;cases b3:dayB f.opn 0
 .rw[ol hfi ((nc f).2 (.inr (.inr (.inl b3))))];exact za
 refine rc (jk7 f.cld f.opn) ?_
 have next:∀ {Q:Prop},((dayB f.cld f.opn=false/\f.cld≠1048576)->Q)->((dayB f.cld f.opn=true)->Q)->(dayB f.cld f.opn=false->f.cld=1048576->Q)->Q:=fun {Q} a b c=>by
  cases e:dayB f.cld f.opn
  .by_cases h:f.cld=1048576
   .exact c e h
   exact a ⟨e,h⟩
  exact b e
 have tail:∀(h4:¬(dayB f.cld f.opn=false/\f.cld≠1048576)) (h5:¬f.pts<0) (h6:¬ 100<f.pts),
   iq os ps l i=if ku l i f=true then 5 else if name f.title=false then 4 else if nk os f.ofc f.opn=false then 7 else if qo ps f=true then 24 else jf f:=fun h4 h5 h6=>
  jmp hfi fun h=>by
   rcases (nc f).1 h with h|h|h|h|h|h
   .exact b1 h
   .exact b2 h
   .rw[b3] at h;cases h
   .exact h4 h
   .exact h5 h
   exact h6 h
 have two:f.pts<0\/100<f.pts->iq os ps l i=2:=fun h=>ol hfi ((nc f).2 (by rcases h with h|h<;>simp[h]));refine next (fun h4=>?_) (fun h4=>?_) (fun h4 h4'=>?_)
 .exact zee
 all_goals rw[h4]
 all_goals by_cases b5:f.pts<0
 .rw[two (.inl b5)];exact za
 rotate_left
 .rw[two (.inl b5)];exact za
 rotate_left
 all_goals by_cases b6:100<f.pts
 .rw[two (.inr b6)];exact za
 rotate_left
 .rw[two (.inr b6)];exact za
 rotate_left
 all_goals
  rw[tail (by simp[*]) b5 b6]
  have hprev:(ku l i f=true/\∃q,i≠0/\l[i-1]?=some q/\f.id<=q.id)\/(ku l i f=false/\(i=0\/∃q,i≠0/\l[i-1]?=some q/\¬f.id<=q.id)):=by
   by_cases h0:i=0
   .right;rw[h0];exact⟨qa3 l f,.inl rfl⟩
   obtain⟨q,hq,-,-⟩:=ac (l:=l) (k:=i-1) omq;by_cases hle:f.id<=q.id
   .left;exact⟨by rw[jhv h0 hq];simp[hle],q,h0,hq,hle⟩
   right;exact⟨by rw[jhv h0 hq];simp[hle],.inr ⟨q,h0,hq,hle⟩⟩
  have rest:∀ {st:St} {Q:AX->St->Prop},True:=fun {_ _} => trivial;rcases hprev with⟨hpv,q,h0,hq,hle⟩|⟨hpv,h0|⟨q,h0,hq,hle⟩⟩
  .exact zbr
  all_goals
   rw[ul zex]
   first
    |(subst h0;refine run ?_)
    |refine runW hq ?_
   refine call (jah L f.title hff.2.1) ?_;cases hn:name f.title
   .rw[um rfl];exact za
   rw[ul zfh];refine rc (qm0 os f.ofc f.opn ho0) ?_;cases ht:nk os f.ofc f.opn
   .rw[um rfl];exact za
   rw[ul zfh];by_cases hv:idx ps f.opn<0
   .rw[jvs hv,um rfl];exact za
   obtain⟨v,hv',hvl⟩:=jbs hv;obtain⟨p,hpv',-,hpm⟩:=ac hvl;rw[jvr hv' hpv'];rw[hv'] at hv ⊢;refine rcW hpv' (jar p f.cls (hp.2 p hpm).1) ?_;cases has p f.cls
   .exact za
   refine rc (qm7 L f hff) ?_;exact za
theorem qbm(d f:Int):decide (f<=d/\d<=1048575)=dayB d f:=rfl
theorem qef(os:List Ofc)(ps:List Plan)(l:List Fil)(i:Nat)(ho:gq os)(hp:Fits ps)(hl:jb9 l)(hi:i<l.length):
  Den prog T 224 [ofcs os,ay ps,fils l,vi i] (vi (iq os ps l i)):=by
 obtain⟨hl0,hf⟩:=hl;obtain⟨f,hfi,-,hm⟩:=ac hi;have hff:=hf f hm;have hp0:=hp.1;have ho0:=ho.1;refine ab call224 func224 97 ?_;refine rcW hfi (jd5 f.id 1 1073741824) ?_;by_cases b1:f.id<1
 .rw[ol hfi ((nc f).2 (.inl b1)),show decide ((1:Int)<=f.id/\f.id<=1073741824)=false by simp;omega];exact za
 by_cases b2:1073741824<f.id
 .rw[ol hfi ((nc f).2 (.inr (.inl b2))),show decide ((1:Int)<=f.id/\f.id<=1073741824)=false by simp;omega];exact za
 rw[show decide ((1:Int)<=f.id/\f.id<=1073741824)=true by simp;omega];refine rc (jd5 f.opn 0 1048575) ?_;rw[qbm];cases b3:dayB f.opn 0
 .rw[ol hfi ((nc f).2 (.inr (.inr (.inl b3))))];exact za
 refine rc (jd5 f.cld f.opn 1048575) ?_;rw[qbm]
 have next:∀ {Q:Prop},((dayB f.cld f.opn=false/\f.cld≠1048576)->Q)->((dayB f.cld f.opn=true)->Q)->(dayB f.cld f.opn=false->f.cld=1048576->Q)->Q:=fun {Q} a b c=>by
  cases e:dayB f.cld f.opn
  .by_cases h:f.cld=1048576
   .exact c e h
   exact a ⟨e,h⟩
  exact b e
 have tail:∀(h4:¬(dayB f.cld f.opn=false/\f.cld≠1048576)) (h5:¬(f.pts<0\/100<f.pts)),
   iq os ps l i=if ku l i f=true then 5 else if name f.title=false then 4 else if nk os f.ofc f.opn=false then 7 else if qo ps f=true then 24 else jf f:=fun h4 h5=>
  jmp hfi fun h=>by
   rcases (nc f).1 h with h|h|h|h|h|h
   .exact b1 h
   .exact b2 h
   .rw[b3] at h;cases h
   .exact h4 h
   .exact h5 (.inl h)
   exact h5 (.inr h)
 have two:f.pts<0\/100<f.pts->iq os ps l i=2:=fun h=>ol hfi ((nc f).2 (by rcases h with h|h<;>simp[h]));refine next (fun h4=>?_) (fun h4=>?_) (fun h4 h4'=>?_)
 .exact zee
 all_goals
  rw[h4];refine rc (jd5 f.pts 0 100) ?_;by_cases b5:f.pts<0\/100<f.pts
  .rw[two b5,show decide ((0:Int)<=f.pts/\f.pts<=100)=false by simp;omega];exact za
  rw[tail (by simp[*]) b5,show decide ((0:Int)<=f.pts/\f.pts<=100)=true by simp;omega]
  have hprev:(ku l i f=true/\∃q,i≠0/\l[i-1]?=some q/\f.id<=q.id)\/(ku l i f=false/\(i=0\/∃q,i≠0/\l[i-1]?=some q/\¬f.id<=q.id)):=by
   by_cases h0:i=0
   .right;rw[h0];exact⟨qa3 l f,.inl rfl⟩
   obtain⟨q,hq,-,-⟩:=ac (l:=l) (k:=i-1) omq;by_cases hle:f.id<=q.id
   .left;exact⟨by rw[jhv h0 hq];simp[hle],q,h0,hq,hle⟩
   right;exact⟨by rw[jhv h0 hq];simp[hle],.inr ⟨q,h0,hq,hle⟩⟩
  rcases hprev with⟨hpv,q,h0,hq,hle⟩|⟨hpv,h0|⟨q,h0,hq,hle⟩⟩
  .exact zbr
  all_goals
   rw[ul zex]
   first
    |(subst h0;refine run ?_)
    |refine runW hq ?_
   refine call (sv f.title hff.2.1) ?_;cases hn:name f.title
   .rw[um rfl];exact za
   rw[ul zfh];refine rc (jcz os f.ofc ho0) ?_;rcases ja5 os f.ofc with⟨h1,h2⟩|⟨k,o,h1,h2,h3⟩
   .rw[jxt h2,um rfl];exact za
   rw[h1,jxs h3];refine rcW h2 (rz o.frm o.til f.opn) ?_;cases hin:inS o.frm o.til f.opn
   .rw[um rfl];exact za
   rw[ul zfh];refine rc (jix ps f.opn hp0) ?_;by_cases hv:idx ps f.opn<0
   .rw[jvs hv,um rfl];exact za
   obtain⟨v,hv',hvl⟩:=jbs hv;obtain⟨p,hpv',-,hpm⟩:=ac hvl;rw[jvr hv' hpv'];rw[hv'] at hv ⊢;refine rcW hpv' (ja7 p f.cls (hp.2 p hpm).1) ?_;cases has p f.cls
   .exact za
   refine rc (qfj f hff) ?_;exact za
theorem jhm(h:dy os=false\/goodL ps=false):jr os ps l=(-1,1):=by unfold jr;rw[um h]
theorem jza(h:dy os=true)(h':goodL ps=true):jr os ps l=chk 256 l.length (iq os ps l):=by unfold jr;rw[ul (by simp[h,h'])]
theorem qjh(L:LibC T)(os:List Ofc)(ps:List Plan)(l:List Fil)(ho:gq os)(hp:Fits ps)(hl:jb9 l):
  Den prog T 169 [ofcs os,ay ps,fils l] (chkV (jr os ps l)):=by
 have hl0:=hl.1;refine ab call169 func169 48 ?_;refine rc (jkc L os ho) ?_;refine rc (jdg L ps hp) ?_;by_cases g1:(fy os).2=0
 .have go:dy os=true:=by simp[dy,g1]
  by_cases g2:(check ps).2=0
  .have gp:goodL ps=true:=(jky ps).2 g2;rw[jza go gp];by_cases h16:256<l.length
   .refine run ?_;refine fin ?_;simp only[chkV,jn h16]
   refine run ?_;refine aj ⟨[35,0,1,2,34],[],[],[]⟩ l.length (fun k=>∀i,i<k->iq os ps l i=0) omq ?_;rintro k ⟨hk,hall⟩;by_cases hlt:k<l.length
   .refine rc (qj1 L os ps l k ho hp gp hl hlt) ?_;by_cases hz:iq os ps l k=0
    .refine run ?_;refine round (k+1) ⟨omq,fun i hi=>?_⟩ omq;by_cases e:i=k
     .exact zc6
     exact zb3
    refine run ?_;refine fin ?_;simp only[chkV,kf h16 hlt hall hz]
   refine run ?_;refine fin ?_;simp only[chkV,ir h16 fun i hi=>hall i omq]
  have gp:goodL ps=false:=by simp[goodL,g2]
  rw[jhm (.inr gp)];exact za
 have go:dy os=false:=by simp[dy,g1]
 rw[jhm (.inl go)];exact za
theorem qet(os:List Ofc)(ps:List Plan)(l:List Fil)(ho:gq os)(hp:Fits ps)(hl:jb9 l):
  Den prog T 146 [ofcs os,ay ps,fils l] (chkV (jr os ps l)):=by
 have hl0:=hl.1;refine ab call146 func146 36 ?_;refine rc (js8 os ho) ?_;cases go:dy os
 .rw[jhm (.inl go)];exact za
 refine rc (jx1 ps hp) ?_;cases gp:goodL ps
 .rw[jhm (.inr gp)];exact za
 rw[jza go gp];by_cases h16:256<l.length
 .refine run ?_;refine fin ?_;simp only[chkV,jn h16]
 refine run ?_;refine aj ⟨[8,0,1,2],[],[],[]⟩ l.length (fun k=>∀i,i<k->iq os ps l i=0) omq ?_;rintro k ⟨hk,hall⟩;by_cases hlt:k<l.length
 .refine rc (qef os ps l k ho hp hl hlt) ?_;by_cases hz:iq os ps l k=0
  .refine run ?_;refine round (k+1) ⟨omq,fun i hi=>?_⟩ omq;by_cases e:i=k
   .exact zc6
   exact zb3
  refine run ?_;refine fin ?_;simp only[chkV,kf h16 hlt hall hz]
 refine run ?_;refine fin ?_;simp only[chkV,ir h16 fun i hi=>hall i omq]
end Go.Arc
