/- A part of this claim. -/
import Derived.Test.YtpaallejmocmaaaGreatDoorBaO
import Derived.Test.YtpaallejmocmaaaGreatDoorBaV
set_option maxHeartbeats 64000000
set_option maxRecDepth 100000
namespace Go.Arc
open Go.Ab Go.RowKit Go.Proofs Tryz
variable {T : Lay}
variable {a:List Int}{j:Nat}{α:Type}{i:Nat}{l:Str}{n:Nat}
theorem jd6(p:Prp)(hp:p.fls.length<=1048576):Den prog T 30 [.agg p.cs] (.agg p.cs):=by
 refine ab call30 func30 9 ?_;exact zba
theorem qjf(l:List Fil)(hl:l.length<=1048576)(hf:∀f∈l,f.Fit):Den prog T 77 [fils l] (fils l):=by
 refine ab call77 func77 27 ?_;refine run ?_
 refine loop ⟨[0,3,4],[],[3],[]⟩ (fun k:Nat=>k<=l.length) (fun k=>l.length-k)
  (fun k=>⟨27,[(0,.v (fils l)),(3,.v (fils (l.take k))),(4,.v (vi k))],[],[(88,[3])]⟩) 0 (uq _) ?_
 intro k hk;by_cases hlt:k<l.length
 .obtain⟨x,hx,-,hm⟩:=ac hlt;have hxf:=(hf x hm).2.2.1;have hap:(l.take k).map Fil.cs++[x.cs]=(l.take (k+1)).map Fil.cs:=by rw[jb hx,vy];rfl
  refine runW (ai hx hap) ?_;exact ze
 have hk2:k=l.length:=omq;subst hk2;rw[vk];exact za
theorem jn7{P:Program}{G:Prop}{c:Code}{Q:AX->St->Prop}(k:α->Kp)(φ:α->Prop)(S:α->St)(h:(∀st x,φ x->br (k x) st=some (S x)->aw P T c st Q)->G)(h2:∀x,φ x->aw P T c (S x) Q):G:=h fun _ x hx hk=>ci (k x) hk (h2 x hx)
abbrev jik:List Gent:=gd 12 [[0,0,0],[1,2,0],[5,3,0,0],[13,4,0],[29,5,0],[61,6,0,0],[125,1,0,7,1],[127,7,1,0,0,0],[253,1,0,8,1],[255,8,1,0,0,0],[509,1,0,0,0,0],[511,9,0,0,0,0],[1023,10,0],[2047,11,0,0,0,0],[4095]]
def CopyP(r:Rgs):Nat->Option Blk->V->Prop
 |0=>fun ro v=>∃s,okB r.pps.length s/\ro=row_q r s/\v=.agg (cs_q r s)
 |1=>fun ro v=>∃s,okB r.aps.length s/\ro=row_a r s/\v=.agg (cs_a r s)
 |_=>fun ro v=>∃s,okB r.crs.length s/\ro=jih r s/\v=.agg (cs_k r s)
def cpS(ts:List (Nat×TV))(C:V->List V)(q:Nat)(r0:List V)(e:TypeId)(z n:Nat)(row:List V):Option (Nat×Nat)->St
 |none=>⟨169,ts,[(1,.con r0),(2,.var zc12),(3,.var (C (.val (.slice none 0 0))))],[]⟩
 |some x=>⟨169,ts,[(1,.con r0),(2,.var zc12),(3,.var (C (.val (.slice (some ⟨x.1,0,none⟩) n x.2)))),(q,.var row (some x.1) (some (e,z,x.2)))],[]⟩
def cpK(ts:List Nat)(q:Nat):Option (Nat×Nat)->Kp
 |none=>⟨ts,[1,2,3],[],[]⟩
 |some _=>⟨ts,[1,2,3,q],[],[]⟩
abbrev cpQ(r:Rgs)(v:V):List V:=[ofcs r.ofs,ay r.pls,fils r.fls,ruls r.rls,hlds r.hls,clks r.cks,sels r.sls,v,apvs r.aps,crts r.crs,deps r.dps,vi r.chg]
abbrev cpA(r:Rgs)(v:V):List V:=[ofcs r.ofs,ay r.pls,fils r.fls,ruls r.rls,hlds r.hls,clks r.cks,sels r.sls,prps r.pps,v,crts r.crs,deps r.dps,vi r.chg]
abbrev cpX(r:Rgs)(v:V):List V:=[ofcs r.ofs,ay r.pls,fils r.fls,ruls r.rls,hlds r.hls,clks r.cks,sels r.sls,prps r.pps,apvs r.aps,v,deps r.dps,vi r.chg]
abbrev t123:List (Nat×TV):=[(1,.p 1 0),(2,.p 2 0),(3,.p 3 0)]
theorem rv:zc12.length=12/\zc12.drop 12=[]/\∀v:List V,zc12.take 0++v++zc12.drop 12=v:=⟨rfl,rfl,fun v=>vw v⟩
theorem qgx(r:Rgs)(h:r.Fit)(w:Nat):DenU prog T 33 [.agg r.cs] (CopyP r w):=by
 have hol:=h.ofs.1;have hpl:=h.pls.1;have hsl:=h.sls.1;have hql:=h.pps.1;have hal:=h.aps;have hkl:=h.crs.1;have hul:=h.rls.1;have hhl:=h.hls.1;have hcl:=h.cks.1;have hdl:=h.dps;refine jz follows (fun args w=>call33 args w) func33 rfl 169 rfl ?_;refine fj (ew 2) (ai au (ai av ag)) ?_;refine pe 1 ?_;refine ci (st':=⟨169,[(1,.p 1 0),(2,.p 2 0),(3,.p 3 0)],[(1,.con r.cs),(2,.var zc12),(3,.var r.cs)],[]⟩) ⟨[1,2,3],[1,2,3],[],[]⟩ rfl ?_;refine runW (ai au (ai av ag)) ?_
 refine loop ⟨[1,2,3,4],[1,2,3],[4000000000],[]⟩ (fun k:Nat=>k<=r.ofs.length) (fun k=>r.ofs.length-k)
  (fun k=>⟨169,[(1,.p 1 0),(2,.p 2 0),(3,.p 3 0),(4,.v (vi k))],[(1,.con r.cs),(2,.var zc12),(3,.var [ofcs (r.ofs.take k),ay r.pls,fils r.fls,ruls r.rls,hlds r.hls,clks r.cks,sels r.sls,prps r.pps,apvs r.aps,crts r.crs,deps r.dps,vi r.chg])],[(99,[4000000000])]⟩) 0 (uq _) ?_
 intro k hk;by_cases hlt:k<r.ofs.length
 .obtain⟨x,hx,-,hm⟩:=ac hlt;have hxf:=(h.ofs.2 x hm).2;have hap:(r.ofs.take k).map Ofc.cs++[x.cs]=(r.ofs.take (k+1)).map Ofc.cs:=by rw[jb hx,vy];rfl
  exact zn
 have hk2:k=r.ofs.length:=omq;subst hk2;rw[vk];refine runW (ai au (ai av ag)) ?_
 refine loop ⟨[1,2,3,6],[1,2,3],[4000000001],[]⟩ (fun k:Nat=>k<=r.pls.length) (fun k=>r.pls.length-k)
  (fun k=>⟨169,[(1,.p 1 0),(2,.p 2 0),(3,.p 3 0),(6,.v (vi k))],[(1,.con r.cs),(2,.var zc12),(3,.var [ofcs r.ofs,ay (r.pls.take k),fils r.fls,ruls r.rls,hlds r.hls,clks r.cks,sels r.sls,prps r.pps,apvs r.aps,crts r.crs,deps r.dps,vi r.chg])],[(105,[4000000001])]⟩) 0 (uq _) ?_
 intro k hk;by_cases hlt:k<r.pls.length
 .obtain⟨x,hx,-,hm⟩:=ac hlt;have hxf:=(h.pls.2 x hm).1;have hxg:=(h.pls.2 x hm).2.1;have hap:(r.pls.take k).map Plan.cs++[x.cs]=(r.pls.take (k+1)).map Plan.cs:=by rw[jb hx,vy];rfl
  exact zn
 have hk2:k=r.pls.length:=omq;subst hk2;rw[vk];refine rcW (ai au (ai av ag)) (qjf r.fls h.fls.1 h.fls.2) ?_;refine runW (ai au (ai av ag)) ?_
 refine loop ⟨[1,2,3,8],[1,2,3],[4000000006],[]⟩ (fun k:Nat=>k<=r.sls.length) (fun k=>r.sls.length-k)
  (fun k=>⟨169,[(1,.p 1 0),(2,.p 2 0),(3,.p 3 0),(8,.v (vi k))],[(1,.con r.cs),(2,.var zc12),(3,.var [ofcs r.ofs,ay r.pls,fils r.fls,ruls r.rls,hlds r.hls,clks r.cks,sels (r.sls.take k),prps r.pps,apvs r.aps,crts r.crs,deps r.dps,vi r.chg])],[(125,[4000000006])]⟩) 0 (uq _) ?_
 intro k hk;by_cases hlt:k<r.sls.length
 .obtain⟨x,hx,-,hm⟩:=ac hlt;have hxf:=h.sls.2 x hm;have hap:(r.sls.take k).map Sel.cs++[x.cs]=(r.sls.take (k+1)).map Sel.cs:=by rw[jb hx,vy];rfl
  exact zn
 have hk2:k=r.sls.length:=omq;subst hk2;rw[vk];refine fj (ew 28) (ai au (ai av ag)) ?_;refine ci (st':=⟨169,[(1,.p 1 0),(2,.p 2 0),(3,.p 3 0)],[(1,.con r.cs),(2,.var zc12),(3,.var r.cs)],[]⟩) ⟨[1,2,3],[1,2,3],[],[]⟩ rfl ?_;rcases w with _|_|w
 .refine fj (ew 29) trivial ?_;apply jn7 (fun s=>cpK [1,2,3,10] 131 s) (fun s=>okB 0 s) (fun s=>cpS [(1,.p 1 0),(2,.p 2 0),(3,.p 3 0),(10,.v (vi (0:Nat)))] (cpQ r) 131 r.cs 58 5 0 [] s)
  .intro tail;refine jp4 3 7 131 58 5 (cpQ r (.slice 5 [])) none none rfl rfl dcq rfl krq (by show (131:Nat)<169;decide) rfl ?_ ?_
   .refine fj (ew 30) trivial ?_;refine tail _ none rfl ?_;rfl
   intro q cap hq hcap;refine fj (ew 30) trivial ?_;refine tail _ (some (q,cap)) ⟨uq _,hcap⟩ ?_;rfl
  intro s hs
  refine jr4 (fun y:Nat×Option (Nat×Nat)=>cpK [1,2,3,10] 131 y.2) (fun y=>y.1<=r.pps.length/\okB y.1 y.2) (fun y=>r.pps.length-y.1)
   (fun y=>cpS [(1,.p 1 0),(2,.p 2 0),(3,.p 3 0),(10,.v (vi y.1))] (cpQ r) 131 r.cs 58 5 y.1 ((r.pps.take y.1).map Prp.cs).flatten y.2) (0,s) ⟨uq _,hs⟩ (by cases s<;>rfl) ?_
  rintro⟨k,s⟩ ⟨hk,hs⟩;simp only at hk hs;by_cases hlt:k<r.pps.length
  .obtain⟨x,hx,-,hm⟩:=ac hlt;have hrow:((r.pps.take k).map Prp.cs).flatten++[Prp.cs x].flatten=((r.pps.take (k+1)).map Prp.cs).flatten:=by rw[jb hx,vy,qwk];rfl
   have hw:((r.pps.take k).map Prp.cs).flatten.length=k*5:=by rw[jq (cs:=Prp.cs) (z:=5) (fun _=>rfl),vz,yh hk]
   have hone:k+[Prp.cs x].length=k+1:=rfl;have hxf:=h.pps.2 x hm;rcases s with _|⟨q,c⟩
   .have hk0:k=0:=hs;subst hk0;simp only[cpS];refine runD (ai hx (ai au (ai av ag))) ?_;refine bt jik ?_;refine il (fun x:Nat×Nat=>0+1<=x.2/\x.2<=maxLen) ⟨[1,2,3,10],[1,2,3,131],[],[]⟩ (fun z=>cpS [(1,.p 1 0),(2,.p 2 0),(3,.p 3 0),(10,.v (vi (0:Nat)))] (cpQ r) 131 r.cs 58 5 (0+1) ((r.pps.take (0+1)).map Prp.cs).flatten (some z)) (fun st st' hk h=>ci _ hk h) ?_ (fun K' hK=>?_)
    rotate_left
    .refine am (ai hx (ai au (ai av ag))) ?_
     try simp only[vf,vd,uz,bg,bn,yg]
     apply viaA
     .have hX:=fun k kn m h0=>call (T:=T) (k:=k) (kn:=kn) (m:=m) (jd6 x hxf) h0
      repeat' (first|with_reducible apply xg|exact hX _ _ _)
     refine mw (ai hx (ai au (ai av ag))) ?_
     try simp only[vf,vd,uz,bg,bn]
     refine mb ?_;unfold appR;refine mw (ai hx (ai au (ai av ag))) ?_;intro r' cap' hnm h1 h2;rw[show ([]:List V)++[Prp.cs x].flatten=((r.pps.take (0+1)).map Prp.cs).flatten from hrow];refine mw (ai au (ai av ag)) ?_;exact gk hK (r',cap') ⟨h1,h2⟩
    rintro y hy;simp only[cpS];refine runW (ai au (ai av ag)) ?_;exact jca (0+1,some y) ⟨hlt,hy⟩ zev rfl
   obtain⟨hc1,hc2⟩:k<=c/\c<=maxLen:=hs;simp only[cpS];obtain⟨W,hW⟩:∃W,((r.pps.take k).map Prp.cs).flatten=W:=⟨_,rfl⟩;rw[hW] at hrow hw ⊢;refine runD (ai hx (ai au (ai av ag))) ?_;refine bt jik ?_;refine il (fun x:Nat×Nat=>k+1<=x.2/\x.2<=maxLen) ⟨[1,2,3,10],[1,2,3,131],[],[]⟩ (fun z=>cpS [(1,.p 1 0),(2,.p 2 0),(3,.p 3 0),(10,.v (vi k))] (cpQ r) 131 r.cs 58 5 (k+1) ((r.pps.take (k+1)).map Prp.cs).flatten (some z)) (fun st st' hk h=>ci _ hk h) ?_ (fun K' hK=>?_)
   rotate_left
   .refine am (ai hx (ai au (ai av ag))) ?_
    try simp only[vf,vd,uz,bg,bn,yg]
    apply viaA
    .have hX:=fun k kn m h0=>call (T:=T) (k:=k) (kn:=kn) (m:=m) (jd6 x hxf) h0
     repeat' (first|with_reducible apply xg|exact hX _ _ _)
    refine mw (ai hx (ai hw (ai au (ai av ag)))) ?_
    try simp only[vf,vd,uz,bg,bn]
    refine mb ?_;unfold appR;refine mw (ai hx (ai hw (ai au (ai av ag)))) ?_;refine⟨hc1,⟨omq,omq⟩,.inl trivial,?_⟩;intro r' cap' hnm h1 h2;rw[hrow,hone];rw[hone] at h1;refine mw (ai au (ai av ag)) ?_;exact gk hK (r',cap') ⟨h1,h2⟩
   rintro y hy;simp only[cpS];refine runW (ai au (ai av ag)) ?_;exact jca (k+1,some y) ⟨hlt,hy⟩ zev rfl
  have hk2:k=r.pps.length:=omq;subst hk2;rw[vk];rcases s with _|x
  .simp only[cpS];refine runW (ai au (ai av ag)) ?_
   refine loop ⟨[1,2,3,11],[1,2,3],[4000000009],[]⟩ (fun k:Nat=>k<=r.crs.length) (fun k=>r.crs.length-k)
    (fun k=>⟨169,[(1,.p 1 0),(2,.p 2 0),(3,.p 3 0),(11,.v (vi k))],[(1,.con r.cs),(2,.var zc12),(3,.var [ofcs r.ofs,ay r.pls,fils r.fls,ruls r.rls,hlds r.hls,clks r.cks,sels r.sls,.val (.slice none 0 0),apvs r.aps,crts (r.crs.take k),deps r.dps,vi r.chg])],[(39,[4000000009])]⟩) 0 (uq _) ?_
   intro k hk;by_cases hlt:k<r.crs.length
   .obtain⟨x,hx,-,hm⟩:=ac hlt;have hxf:=(h.crs.2 x hm).1;have hap:(r.crs.take k).map Crt.cs++[x.cs]=(r.crs.take (k+1)).map Crt.cs:=by rw[jb hx,vy];rfl
    exact zn
   have hk2:k=r.crs.length:=omq;subst hk2;rw[vk];exact zbb
  simp only[cpS];refine runW (ai au (ai av ag)) ?_
  refine loop ⟨[1,2,3,11],[1,2,3,131],[4000000009],[]⟩ (fun k:Nat=>k<=r.crs.length) (fun k=>r.crs.length-k)
   (fun k=>⟨169,[(1,.p 1 0),(2,.p 2 0),(3,.p 3 0),(11,.v (vi k))],[(1,.con r.cs),(2,.var zc12),(3,.var [ofcs r.ofs,ay r.pls,fils r.fls,ruls r.rls,hlds r.hls,clks r.cks,sels r.sls,.val (.slice (some ⟨x.1,0,none⟩) r.pps.length x.2),apvs r.aps,crts (r.crs.take k),deps r.dps,vi r.chg]),(131,.var (r.pps.map Prp.cs).flatten (some x.1) (some (58,5,x.2)))],[(39,[4000000009])]⟩) 0 (uq _) ?_
  intro k hk;by_cases hlt:k<r.crs.length
  .obtain⟨x,hx,-,hm⟩:=ac hlt;have hxf:=(h.crs.2 x hm).1;have hap:(r.crs.take k).map Crt.cs++[x.cs]=(r.crs.take (k+1)).map Crt.cs:=by rw[jb hx,vy];rfl
   exact zn
  have hk2:k=r.crs.length:=omq;subst hk2;rw[vk];refine runW (ai rv (ai au (ai av ag))) ?_;exact⟨_,_,dl rfl,.refl _,.inr ⟨131,_,x.1,rfl,rfl,some x,hs,rfl,rfl⟩⟩
 .refine runW (ai au (ai av ag)) ?_
  refine loop ⟨[1,2,3,10],[1,2,3],[4000000007],[]⟩ (fun k:Nat=>k<=r.pps.length) (fun k=>r.pps.length-k)
   (fun k=>⟨169,[(1,.p 1 0),(2,.p 2 0),(3,.p 3 0),(10,.v (vi k))],[(1,.con r.cs),(2,.var zc12),(3,.var (cpQ r (prps (r.pps.take k))))],[(58,[4000000007])]⟩) 0 (uq _) ?_
  intro k hk;by_cases hlt:k<r.pps.length
  .obtain⟨x,hx,-,hm⟩:=ac hlt;have hxf:=h.pps.2 x hm;have hap:(r.pps.take k).map Prp.cs++[x.cs]=(r.pps.take (k+1)).map Prp.cs:=by rw[jb hx,vy];rfl
   refine runD hx ?_;refine bt jik ?_;refine il (fun _:Unit=>True) ⟨[1,2,3,10],[1,2,3],[4000000007],[]⟩ (fun _=>⟨169,[(1,.p 1 0),(2,.p 2 0),(3,.p 3 0),(10,.v (vi k))],[(1,.con r.cs),(2,.var zc12),(3,.var (cpQ r (prps (r.pps.take (k+1)))))],[(58,[4000000007])]⟩) (fun st st' hk h=>ci _ hk h) ?_ (fun K' hK=>?_)
   rotate_left
   .refine am hx ?_
    try simp only[vf,vd,uz,bg,bn,yg]
    apply viaA
    .have hX:=fun k kn m h0=>call (T:=T) (k:=k) (kn:=kn) (m:=m) (jd6 x hxf) h0
     repeat' (first|with_reducible apply xg|exact hX _ _ _)
    refine am (ai hx hap) ?_
    try simp only[vf,vd,uz,bg,bn]
    repeat' (with_reducible refine ai ?_ ?_)
    all_goals exact gk hK () trivial
   intro _ _;refine runW (ai au (ai av ag)) ?_;exact ze
  have hk2:k=r.pps.length:=omq;subst hk2;rw[vk];apply jn7 (fun s=>cpK [1,2,3] 136 s) (fun s=>okB r.aps.length s) (fun s=>cpS t123 (cpA r) 136 r.cs 96 3 r.aps.length (r.aps.map Apv.cs).flatten s)
  .intro tail;by_cases hz:r.aps=[]
   .have hz2:r.aps.length=0:=by rw[hz];rfl
    have tail2:∀st s,okB 0 s->br (cpK [1,2,3] 136 s) st=some (cpS t123 (cpA r) 136 r.cs 96 3 0 [] s)->_:=fun st s h1 h2=>tail st s (by rw[hz2];exact h1) (by rw[hz2,hz];exact h2);refine fj (ew 34) hz ?_;refine jp4 3 8 136 96 3 (cpA r (.slice 3 [])) none none rfl rfl dcq rfl krq (by show (136:Nat)<169;decide) rfl ?_ ?_
    .refine tail2 _ none rfl ?_;rfl
    intro q cap hq hcap;refine tail2 _ (some (q,cap)) ⟨uq _,hcap⟩ ?_;rfl
   have hpos:0<(r.aps.map Apv.cs).length:=by rw[ut];exact xj.2 hz
   have hl0:0+(r.aps.map Apv.cs).length=r.aps.length:=by rw[ut,vx]
   refine runB (ai au (ai av ag)) ?_;refine mb ?_;unfold appR;refine runB hpos ?_;intro q cap hnm h1 h2;rw[List.nil_append,hl0];rw[hl0] at h1;refine fj (ew 34) (ai au (ai av ag)) ?_;refine tail _ (some (q,cap)) ⟨h1,h2⟩ ?_;rfl
  intro s hs;rcases s with _|x
  .simp only[cpS];refine runW (ai au (ai av ag)) ?_
   refine loop ⟨[1,2,3,11],[1,2,3],[4000000009],[]⟩ (fun k:Nat=>k<=r.crs.length) (fun k=>r.crs.length-k)
    (fun k=>⟨169,[(1,.p 1 0),(2,.p 2 0),(3,.p 3 0),(11,.v (vi k))],[(1,.con r.cs),(2,.var zc12),(3,.var [ofcs r.ofs,ay r.pls,fils r.fls,ruls r.rls,hlds r.hls,clks r.cks,sels r.sls,prps r.pps,.val (.slice none 0 0),crts (r.crs.take k),deps r.dps,vi r.chg])],[(39,[4000000009])]⟩) 0 (uq _) ?_
   intro k hk;by_cases hlt:k<r.crs.length
   .obtain⟨x,hx,-,hm⟩:=ac hlt;have hxf:=(h.crs.2 x hm).1;have hap:(r.crs.take k).map Crt.cs++[x.cs]=(r.crs.take (k+1)).map Crt.cs:=by rw[jb hx,vy];rfl
    exact zn
   have hk2:k=r.crs.length:=omq;subst hk2;rw[vk];exact zbb
  simp only[cpS];refine runW (ai au (ai av ag)) ?_
  refine loop ⟨[1,2,3,11],[1,2,3,136],[4000000009],[]⟩ (fun k:Nat=>k<=r.crs.length) (fun k=>r.crs.length-k)
   (fun k=>⟨169,[(1,.p 1 0),(2,.p 2 0),(3,.p 3 0),(11,.v (vi k))],[(1,.con r.cs),(2,.var zc12),(3,.var [ofcs r.ofs,ay r.pls,fils r.fls,ruls r.rls,hlds r.hls,clks r.cks,sels r.sls,prps r.pps,.val (.slice (some ⟨x.1,0,none⟩) r.aps.length x.2),crts (r.crs.take k),deps r.dps,vi r.chg]),(136,.var (r.aps.map Apv.cs).flatten (some x.1) (some (96,3,x.2)))],[(39,[4000000009])]⟩) 0 (uq _) ?_
  intro k hk;by_cases hlt:k<r.crs.length
  .obtain⟨x,hx,-,hm⟩:=ac hlt;have hxf:=(h.crs.2 x hm).1;have hap:(r.crs.take k).map Crt.cs++[x.cs]=(r.crs.take (k+1)).map Crt.cs:=by rw[jb hx,vy];rfl
   exact zn
  have hk2:k=r.crs.length:=omq;subst hk2;rw[vk];refine runW (ai rv (ai au (ai av ag))) ?_;exact⟨_,_,dl rfl,.refl _,.inr ⟨136,_,x.1,rfl,rfl,some x,hs,rfl,rfl⟩⟩
 refine runW (ai au (ai av ag)) ?_
 refine loop ⟨[1,2,3,10],[1,2,3],[4000000007],[]⟩ (fun k:Nat=>k<=r.pps.length) (fun k=>r.pps.length-k)
  (fun k=>⟨169,[(1,.p 1 0),(2,.p 2 0),(3,.p 3 0),(10,.v (vi k))],[(1,.con r.cs),(2,.var zc12),(3,.var (cpQ r (prps (r.pps.take k))))],[(58,[4000000007])]⟩) 0 (uq _) ?_
 intro k hk;by_cases hlt:k<r.pps.length
 .obtain⟨x,hx,-,hm⟩:=ac hlt;have hxf:=h.pps.2 x hm;have hap:(r.pps.take k).map Prp.cs++[x.cs]=(r.pps.take (k+1)).map Prp.cs:=by rw[jb hx,vy];rfl
  refine runD hx ?_;refine bt jik ?_;refine il (fun _:Unit=>True) ⟨[1,2,3,10],[1,2,3],[4000000007],[]⟩ (fun _=>⟨169,[(1,.p 1 0),(2,.p 2 0),(3,.p 3 0),(10,.v (vi k))],[(1,.con r.cs),(2,.var zc12),(3,.var (cpQ r (prps (r.pps.take (k+1)))))],[(58,[4000000007])]⟩) (fun st st' hk h=>ci _ hk h) ?_ (fun K' hK=>?_)
  rotate_left
  .refine am hx ?_
   try simp only[vf,vd,uz,bg,bn,yg]
   apply viaA
   .have hX:=fun k kn m h0=>call (T:=T) (k:=k) (kn:=kn) (m:=m) (jd6 x hxf) h0
    repeat' (first|with_reducible apply xg|exact hX _ _ _)
   refine am (ai hx hap) ?_
   try simp only[vf,vd,uz,bg,bn]
   repeat' (with_reducible refine ai ?_ ?_)
   all_goals exact gk hK () trivial
  intro _ _;refine runW (ai au (ai av ag)) ?_;exact ze
 have hk2:k=r.pps.length:=omq;subst hk2;rw[vk];refine fj (ew 35) trivial ?_;apply jn7 (fun s=>cpK [1,2,3,11] 161 s) (fun s=>okB 0 s) (fun s=>cpS [(1,.p 1 0),(2,.p 2 0),(3,.p 3 0),(11,.v (vi (0:Nat)))] (cpX r) 161 r.cs 39 6 0 [] s)
 .intro tail;refine jp4 3 9 161 39 6 (cpX r (.slice 6 [])) none none rfl rfl dcq rfl krq (by show (161:Nat)<169;decide) rfl ?_ ?_
  .refine fj (ew 36) trivial ?_;refine tail _ none rfl ?_;rfl
  intro q cap hq hcap;refine fj (ew 36) trivial ?_;refine tail _ (some (q,cap)) ⟨uq _,hcap⟩ ?_;rfl
 intro s hs
 refine jr4 (fun y:Nat×Option (Nat×Nat)=>cpK [1,2,3,11] 161 y.2) (fun y=>y.1<=r.crs.length/\okB y.1 y.2) (fun y=>r.crs.length-y.1)
  (fun y=>cpS [(1,.p 1 0),(2,.p 2 0),(3,.p 3 0),(11,.v (vi y.1))] (cpX r) 161 r.cs 39 6 y.1 ((r.crs.take y.1).map Crt.cs).flatten y.2) (0,s) ⟨uq _,hs⟩ (by cases s<;>rfl) ?_
 rintro⟨k,s⟩ ⟨hk,hs⟩;simp only at hk hs;by_cases hlt:k<r.crs.length
 .obtain⟨x,hx,-,hm⟩:=ac hlt;have hrow:((r.crs.take k).map Crt.cs).flatten++[Crt.cs x].flatten=((r.crs.take (k+1)).map Crt.cs).flatten:=by rw[jb hx,vy,qwk];rfl
  have hw:((r.crs.take k).map Crt.cs).flatten.length=k*6:=by rw[jq (cs:=Crt.cs) (z:=6) (fun _=>rfl),vz,yh hk]
  have hone:k+[Crt.cs x].length=k+1:=rfl;have hxf:=(h.crs.2 x hm).1;rcases s with _|⟨q,c⟩
  .have hk0:k=0:=hs;subst hk0;simp only[cpS];refine runB (ai hx (ai au (ai av ag))) ?_;refine tx ?_;refine runB (ai hx (ai au (ai av ag))) ?_;refine mb ?_;unfold appR;refine runB (ai hx (ai au (ai av ag))) ?_;intro r' cap' hnm h1 h2;rw[show ([]:List V)++[Crt.cs x].flatten=((r.crs.take (0+1)).map Crt.cs).flatten from hrow];refine runB (ai au (ai av ag)) ?_;exact jca (0+1,some (r',cap')) ⟨hlt,h1,h2⟩ zev rfl
  obtain⟨hc1,hc2⟩:k<=c/\c<=maxLen:=hs;simp only[cpS];obtain⟨W,hW⟩:∃W,((r.crs.take k).map Crt.cs).flatten=W:=⟨_,rfl⟩;rw[hW] at hrow hw ⊢;refine runB (ai hx (ai au (ai av ag))) ?_;refine tx ?_;refine runB (ai hx (ai au (ai av ag))) ?_;refine mb ?_;unfold appR;refine runB (ai hw (ai au (ai av ag))) ?_;refine⟨.inl trivial,?_⟩;intro r' cap' hnm h1 h2;rw[hrow,hone];rw[hone] at h1;refine runB (ai au (ai av ag)) ?_;exact jca (k+1,some (r',cap')) ⟨hlt,h1,h2⟩ zev rfl
 have hk2:k=r.crs.length:=omq;subst hk2;rw[vk];rcases s with _|x
 .simp only[cpS];exact zbb
 simp only[cpS];refine runW (ai rv (ai au (ai av ag))) ?_;exact⟨_,_,dl rfl,.refl _,.inr ⟨161,_,x.1,rfl,rfl,some x,hs,rfl,rfl⟩⟩
theorem ju7{g p:Nat->Nat}{v w:Nat->Int}{n:Nat}(h:∀j,j<n->v (g j)=w (g j))(b:List Int):∀k:Nat,k<=n->layF g p v k b=layF g p w k b
 |0,_=>rfl
 |k+1,hk=>by rw[td,td,ju7 h b k omq,h k omq]
def inK(a:List Int)(k:Nat):List Int:=layF id id (pg a) k a
theorem qpi(a:List Int)(k:Nat):inK a (k+1)=(inK a k).set k (pg a k):=td _ _ _ _ _
theorem qat(a:List Int)(k:Nat):(inK a k).length=a.length:=tg _ _ _ _ _
theorem qu0{k:Nat}(h:k<a.length):atU (inK a k) k=atU a k:=by
 unfold atU;rw[qvd,qvd];have:=(jhd id (pg a) a h k).2 (fun j hj=>by show j≠k;omega);unfold inK;rw[this]
theorem qs7(ha:a.length=25)(h:i<25):atU (inK a 25) i=pg a i:=by
 unfold atU;rw[qvd];have:=(jhd id (pg a) a (i:=i) omq 25).1 ⟨i,h,rfl⟩;unfold inK;rw[this];rfl
def bT(W:List Int)(k:Nat):List Int:=layF tr5 posF (fun i=>rotU (atU W i) (atU rotL i)) k bq
theorem qsv(W:List Int)(k:Nat):bT W (k+1)=(bT W k).set (posF (tr5 k)) (rotU (atU W (tr5 k)) (atU rotL (tr5 k))):=td _ _ _ _ _
theorem qup(W:List Int)(k:Nat):(bT W k).length=25:=tg _ _ _ _ _
theorem qtk(h:j<25):tr5 j<25:=by unfold tr5;omega
theorem qc6{x y:Nat}(hy:y<5):tr5 (5*x+y)=x+5*y:=by unfold tr5;omega
theorem quq(ha:a.length=25):bT (inK a 25) 25=bF a:=by
 have h1:bT (inK a 25) 25=layF tr5 posF (fun i=>rotU (pg a i) (atU rotL i)) 25 bq:=ju7 (fun j hj=>by simp only[qs7 ha (qtk hj)]) _ 25 (uv _);rw[h1];exact bF_tr _
def oT(B w:List Int)(k:Nat):List Int:=layF tr5 id (chiF B) k w
theorem qry(B w:List Int)(k:Nat):oT B w (k+1)=(oT B w k).set (tr5 k) (chiF B (tr5 k)):=td _ _ _ _ _
theorem qtu(B w:List Int)(k:Nat):(oT B w k).length=w.length:=tg _ _ _ _ _
theorem qtv(B:List Int){w:List Int}(hw:w.length=25):oT B w 25=outF B:=qru _ w hw
theorem qic(a:List Int)(c:Int)(ha:a.length=25):Den prog T 192 [.agg (wds a),vu c,.agg (nus rotL)] (.agg (wds (lq a c))):=by
 have ta:=tk25 ha;refine ab call192 func192 129 ?_;refine runW ta ?_
 refine loop ⟨[1,3,5,6,7,8],[3,5,6,7],[],[]⟩ (fun k:Nat=>k<=25) (fun k=>25-k)
  (fun k=>⟨129,[(1,.v (vu c)),(3,.p 3 0),(5,.p 5 0),(6,.p 6 0),(7,.p 7 0),(8,.v (vi k))],[(3,.var (wds a)),(5,.var (nus rotL)),(6,.var (wds bq)),(7,.var (wds (dk a k)))],[]⟩) 0 (uq _) ?_
 intro k hk;by_cases hlt:k<25
 .have hs:=jgo a k;have m5:((k:Nat):Int).tmod 5=((k % 5:Nat):Int):=fo k 5;have d1:=dn (l:=a) (k:=k) omq;have d2:=dn (l:=dk a k) (k:=k % 5) omq
  have s1:(wds (dk a k)).take (k % 5)++[vu (bitF .xor .u64 (atU (dk a k) (k % 5)) (atU a k))]++(wds (dk a k)).drop (k % 5+1)=wds (dk a (k+1)):=by
   rw[jjk];exact ql omq _
  refine runW (ai m5 (ai d1 (ai d2 s1))) ?_;exact zy
 have hk:k=25:=omq;subst hk;have hw:∀i,pg a i=xorU (xorU (atU a i) (atU (dk a 25) ((i+4) % 5))) (rotU (atU (dk a 25) ((i+1) % 5)) 1):=fun i=>rfl;have hSl:=jgo a 25;obtain⟨S,hS⟩:∃S,dk a 25=S:=⟨_,rfl⟩;simp only[hS] at hw hSl ⊢;refine run ?_
 refine loop ⟨[1,3,5,6,7,9],[3,5,6,7],[],[]⟩ (fun k:Nat=>k<=25) (fun k=>25-k)
  (fun k=>⟨129,[(1,.v (vu c)),(3,.p 3 0),(5,.p 5 0),(6,.p 6 0),(7,.p 7 0),(9,.v (vi k))],[(3,.var (wds (inK a k))),(5,.var (nus rotL)),(6,.var (wds bq)),(7,.var (wds S))],[]⟩) 0 (uq _) ?_
 intro k hk;by_cases hlt:k<25
 .have hil:(inK a k).length=25:=(qat a k).trans ha;have f2:((k:Int)+4).tmod 5=(((k+4) % 5:Nat):Int):=fo (k+4) 5;have f3:((k:Int)+1).tmod 5=(((k+1) % 5:Nat):Int):=fo (k+1) 5;have d1:=dn (l:=inK a k) (k:=k) omq;rw[qu0 omq] at d1;have d2:=dn (l:=S) (k:=(k+4) % 5) omq;have d3:=dn (l:=S) (k:=(k+1) % 5) omq
  have s1:(wds (inK a k)).take k++[vu (bitF .xor .u64 (bitF .xor .u64 (atU a k) (atU S ((k+4) % 5))) (rotU (atU S ((k+1) % 5)) 1))]++(wds (inK a k)).drop (k+1)=wds (inK a (k+1)):=by
   rw[qpi,hw];exact ql omq _
  refine rcW (ai f2 (ai f3 (ai d1 (ai d2 d3)))) (juh (atU S ((k+1) % 5)) 1 dcq dcq) ?_;refine runW s1 ?_;exact zy
 have hk:k=25:=omq;subst hk;have hWl:(inK a 25).length=25:=(qat a 25).trans ha;have hBW:=quq ha;have hBl:=qcy a;have hRe:lq a c=(outF (bF a)).set 0 (bitF .xor .u64 (atU (outF (bF a)) 0) c):=rfl;have hRl:=jjn a c;obtain⟨W,hW⟩:∃W,inK a 25=W:=⟨_,rfl⟩;obtain⟨B,hB⟩:∃B,bF a=B:=⟨_,rfl⟩;simp only[hW,hB] at hWl hBW hBl hRe ⊢;refine run ?_
 refine loop ⟨[1,3,5,6,10,11],[3,5,6,10],[],[]⟩ (fun x:Nat=>x<=5) (fun x=>5-x)
  (fun x=>⟨129,[(1,.v (vu c)),(3,.p 3 0),(5,.p 5 0),(6,.p 6 0),(10,.p 10 0),(11,.v (vi x))],[(3,.var (wds W)),(5,.var (nus rotL)),(6,.var (wds bq)),(10,.var (wds (bT W (5*x))))],[]⟩) 0 (uq _) ?_
 intro x hx;by_cases hxlt:x<5
 .refine run ?_
  refine loop ⟨[1,3,5,6,10,11,12],[3,5,6,10],[],[]⟩ (fun y:Nat=>y<=5) (fun y=>5-y)
   (fun y=>⟨129,[(1,.v (vu c)),(3,.p 3 0),(5,.p 5 0),(6,.p 6 0),(10,.p 10 0),(11,.v (vi x)),(12,.v (vi y))],[(3,.var (wds W)),(5,.var (nus rotL)),(6,.var (wds bq)),(10,.var (wds (bT W (5*x+y))))],[]⟩) 0 (uq _) ?_
  intro y hy;by_cases hylt:y<5
  .have hBk:=qup W (5*x+y);have hj:=qa4 (x+5*y) omq;have f1:(x:Int)+5*(y:Int)=((x+5*y:Nat):Int):=omq;have f4:(2*(x:Int)+3*(y:Int)).tmod 5=(((2*x+3*y) % 5:Nat):Int):=fo (2*x+3*y) 5
   have f5:(y:Int)+5*(((2*x+3*y) % 5:Nat):Int)=((posF (x+5*y):Nat):Int):=by
    have h1:(x+5*y) / 5=y:=omq;have h2:(x+5*y) % 5=x:=omq;unfold posF;rw[h1,h2];omega
   have d1:=dn (l:=W) (k:=x+5*y) omq;have d4:=jy6 (l:=rotL) (k:=x+5*y) (by show _<25;omega);have hr:=qc9 (x+5*y) omq
   have s1:(wds (bT W (5*x+y))).take (posF (x+5*y))++[vu (rotU (atU W (x+5*y)) (atU rotL (x+5*y)))]++(wds (bT W (5*x+y))).drop (posF (x+5*y)+1)=wds (bT W (5*x+y+1)):=by
    rw[qsv,qc6 hylt];exact ql omq _
   refine rcW (ai f1 (ai f4 (ai f5 (ai d1 d4)))) (juh _ _ hr.1 hr.2) ?_;refine runW s1 ?_;exact round (y+1) omq omq
  have hy5:y=5:=omq;subst hy5;refine run ?_;exact round (x+1) omq omq
 have hx5:x=5:=omq;subst hx5;have hBe:bT W (5*5)=B:=hBW;simp only[hBe];refine run ?_
 refine loop ⟨[1,3,6,10,13],[3,6,10],[],[]⟩ (fun x:Nat=>x<=5) (fun x=>5-x)
  (fun x=>⟨129,[(1,.v (vu c)),(3,.p 3 0),(6,.p 6 0),(10,.p 10 0),(13,.v (vi x))],[(3,.var (wds (oT B W (5*x)))),(6,.var (wds bq)),(10,.var (wds B))],[]⟩) 0 (uq _) ?_
 intro x hx;by_cases hxlt:x<5
 .refine run ?_
  refine loop ⟨[1,3,6,10,13,14],[3,6,10],[],[]⟩ (fun y:Nat=>y<=5) (fun y=>5-y)
   (fun y=>⟨129,[(1,.v (vu c)),(3,.p 3 0),(6,.p 6 0),(10,.p 10 0),(13,.v (vi x)),(14,.v (vi y))],[(3,.var (wds (oT B W (5*x+y)))),(6,.var (wds bq)),(10,.var (wds B))],[]⟩) 0 (uq _) ?_
  intro y hy;by_cases hylt:y<5
  .have hO:(oT B W (5*x+y)).length=25:=(qtu B W (5*x+y)).trans hWl;have f1:(x:Int)+5*(y:Int)=((x+5*y:Nat):Int):=omq;have f2:((x:Int)+1).tmod 5=(((x+1) % 5:Nat):Int):=fo (x+1) 5;have f3:((x:Int)+2).tmod 5=(((x+2) % 5:Nat):Int):=fo (x+2) 5;have f4:(((x+1) % 5:Nat):Int)+5*(y:Int)=(((x+1) % 5+5*y:Nat):Int):=omq;have f5:(((x+2) % 5:Nat):Int)+5*(y:Int)=(((x+2) % 5+5*y:Nat):Int):=omq;have d1:=dn (l:=B) (k:=x+5*y) omq;have d2:=dn (l:=B) (k:=(x+1) % 5+5*y) omq;have d3:=dn (l:=B) (k:=(x+2) % 5+5*y) omq
   have s1:(wds (oT B W (5*x+y))).take (x+5*y)++[vu (bitF .xor .u64 (atU B (x+5*y)) (bitF .and .u64 (notF .u64 (atU B ((x+1) % 5+5*y))) (atU B ((x+2) % 5+5*y))))]++(wds (oT B W (5*x+y))).drop (x+5*y+1)=wds (oT B W (5*x+y+1)):=by
    have h1:(x+5*y) / 5=y:=omq;have h2:(x+5*y) % 5=x:=omq;rw[qry,qc6 hylt];unfold chiF;rw[h1,h2];exact ql omq _
   refine runW (ai f1 (ai f2 (ai f3 (ai f4 (ai f5 (ai d1 (ai d2 (ai d3 s1)))))))) ?_;exact round (y+1) omq omq
  have hy5:y=5:=omq;subst hy5;refine run ?_;exact round (x+1) omq omq
 have hx5:x=5:=omq;subst hx5;have hOe:oT B W (5*5)=outF B:=qtv B hWl;have hOl:=jy4 B;obtain⟨O,hO⟩:∃O,outF B=O:=⟨_,rfl⟩;simp only[hOe,hO] at hOl hRe ⊢;have e0:=qak (l:=O) omq;have e1:=jxm (l:=O) omq (bitF .xor .u64 (atU O 0) c);rw[<- hRe] at e1;obtain⟨R,hR⟩:∃R,lq a c=R:=⟨_,rfl⟩;simp only[hR] at hRl e1 ⊢;refine runW (ai e0 (ai e1 (ai (tk25 hRl) (ai hRl jcg)))) ?_;refine jf6 (P:=prog) (x:=6) (t:=155) (j:=6) (cs:=wds R) (nm:=none) (kk:=none) ?_ ?_ ?_
 .rfl
 .rfl
 rw[ut];exact hRl
theorem qfr(a:List Int)(ha:a.length=25):Den prog T 133 [.agg (wds a)] (.agg (wds (nt a))):=by
 have tr:cn 25 (nus rotL)=some (nus rotL):=rfl;have hrl:rotL.length=25:=rfl;have hcl:conL.length=24:=rfl;refine ab call133 func133 19 ?_;refine rc qdz ?_;refine rc qdv ?_;refine runW (ai hrl hcl) ?_
 refine loop ⟨[1,2,3,4,5],[1,2,3,4],[],[]⟩ (fun k:Nat=>k<=24) (fun k=>24-k)
  (fun k=>⟨19,[(1,.p 1 0),(2,.p 2 0),(3,.p 3 0),(4,.p 4 0),(5,.v (vi k))],[(1,.var (wds (pK a k))),(2,.var (wds bq)),(3,.var (wds conL)),(4,.var (nus rotL))],[]⟩) 0 (uq _) ?_
 intro k hk;have hl:=ji5 ha k;by_cases hlt:k<24
 .have hl2:=ji5 ha (k+1);have hc:=dn (l:=conL) (k:=k) hlt;have hR:=qic (T:=T) (pK a k) (atU conL k) hl;exact zcz
 have hk:k=24:=omq;subst hk;simp only[qcb] at hl ⊢;refine runW (ai (tk25 hl) (ai hl jcg)) ?_;refine jf6 (P:=prog) (x:=2) (t:=155) (j:=2) (cs:=wds (nt a)) (nm:=none) (kk:=none) ?_ ?_ ?_
 .rfl
 .rfl
 rw[ut];exact hl
def fz(d:Str)(j:Nat):Str:=d++6::List.replicate j 0
theorem jau(d:Str)(j:Nat):(fz d j).length=d.length+1+j:=by unfold fz;rw[ve,List.length_cons,qx0];omega
theorem qsd(d:Str)(j:Nat):fz d (j+1)=fz d j++[0]:=by
 unfold fz;rw[vt,List.cons_append,List.replicate_succ']
theorem qbu(a b:Str):bc a++bc b=bc (a++b):=by unfold bc;rw[vy]
theorem qp3{x:UInt8}(h:1<=l.length)(hx:l[l.length-1]?=some x):(bc l).take (l.length-1)++[vb8 (bitF .or .u8 (x.toNat:Int) 128)]++(bc l).drop (l.length-1+1)=bc (ig l):=by
 rw[<- qa7]
 have h1:ig l=l.set (l.length-1) (orB x):=by
  unfold ig;simp only[qvd,hx];rfl
 rw[h1];exact qbt omq _
theorem jy9(l:Str):(ig l).length=l.length:=by unfold ig;rw[qwn]
theorem qpk(d:Str):(kx d).length=136*(d.length / 136+1):=by
 have h:kx d=ig (fz d (ri d.length)):=rfl;rw[h,jy9,jau];unfold ri;omega
theorem qbq{t id r cap:Nat}{st:St}(h1:Ab.look t st.t=some (.v (.val (.slice (some ⟨r,0,none⟩) n cap))))(hf:dg r st.h=some id)(h2:Ab.look id st.h=some (.var (bc l) (some r) (some (5,1,cap))))(hn:n=l.length)(h3:n<=cap):
  rb t st= { st with t:=(t,.v (bys l))::st.t,h:=frz1 id (seth id (.var (bc l)) st.h),o:=remo t st.o } := by
 subst hn;rw[qse h1 hf h2 h3 (by rw[ja8];omega)];unfold bc;rw[qnh]
def sumQ(d:Str)(j r cap:Nat):St:=if j=0 then ⟨83,[(3,.v (.val (.slice (some ⟨r,0,none⟩) (fz d j).length cap)))],[(12,.var (bc (fz d j)) (some r) (some (5,1,cap)))],[]⟩ else
 ⟨83,[(3,.v (.val (.slice (some ⟨r,0,none⟩) (fz d j).length cap)))],[(19,.var (bc (fz d j)) (some r) (some (5,1,cap)))],[]⟩
def sumP(j:Nat):Kp:=if j=0 then ⟨[3],[12],[],[]⟩ else ⟨[3],[19],[],[]⟩
theorem qtl(d:Str)(r cap:Nat):sumQ d 0 r cap=⟨83,[(3,.v (.val (.slice (some ⟨r,0,none⟩) (fz d 0).length cap)))],[(12,.var (bc (fz d 0)) (some r) (some (5,1,cap)))],[]⟩:=rfl
theorem ji4(d:Str)(h:j≠0)(r cap:Nat):sumQ d j r cap=⟨83,[(3,.v (.val (.slice (some ⟨r,0,none⟩) (fz d j).length cap)))],[(19,.var (bc (fz d j)) (some r) (some (5,1,cap)))],[]⟩:=ul h
theorem qc7(h:j≠0):sumP j=⟨[3],[19],[],[]⟩:=ul h
theorem qq9(d:Str)(hd:d.length<=1048576):Den prog T 76 [.str d] (.str (sumD d)):=by
 have e1:bc d++[[V.val (.int .u8 6)]].flatten=bc (fz d 0):=qbu d [6];have e2:d.length+[[V.val (.int .u8 6)]].length=(fz d 0).length:=by rw[jau];rfl
 have s1:∀j,bc (fz d j)++[[V.val (.int .u8 0)]].flatten=bc (fz d (j+1)):=fun j=>by rw[qsd];exact qbu (fz d j) [0]
 have s2:∀j,(fz d j).length+[[V.val (.int .u8 0)]].length=(fz d (j+1)).length:=fun j=>by rw[jau,jau];rfl
 have hbd:(bc d).length=d.length:=ja8 d;have hP:kx d=ig (fz d (ri d.length)):=rfl;have hPl:=qpk d;have hsum:=qkp d;obtain⟨N,hN⟩:∃N,ri d.length=N:=⟨_,rfl⟩;have hNd:N=135-d.length % 136:=hN.symm;rw[hN] at hP;have hm1:(fz d N).length % 136=0:=by rw[jau];omega
 have hm2:∀j,j<N->(fz d j).length % 136≠0:=fun j hj=>by rw[jau];omega
 have hfl:∀j,(fz d j).length=d.length+1+j:=jau d;refine ab call76 func76 83 ?_;refine run ?_;unfold bytK;intro r cap hnm h1 h2;refine runB hbd ?_;refine mb ?_;unfold appR;refine runB hbd ?_;refine⟨.inr trivial,?_⟩;intro r' cap' hnm' g1 g2;rw[e1,e2];rw[e2] at g1;refine runB trivial ?_;refine jr4 (fun y:Nat×Nat×Nat=>sumP y.1) (fun y=>y.1<=N/\(fz d y.1).length<=y.2.2/\y.2.2<=maxLen) (fun y=>N-y.1) (fun y=>sumQ d y.1 y.2.1 y.2.2) (0,r',cap') ⟨uq _,g1,g2⟩ rfl ?_;rintro⟨j,q,c⟩ ⟨hj,hc1,hc2⟩;simp only at hj hc1 hc2;have hjl:=hfl j;have hbl:(bc (fz d j)).length=(fz d j).length:=ja8 _;have m1:(((fz d j).length:Nat):Int).tmod 136=(((fz d j).length % 136:Nat):Int):=fo _ 136;have t1:=s1 j;have t2:=s2 j;by_cases hlt:j<N
 .have hne:¬(((fz d j).length % 136:Nat):Int)=0:=by have:=hm2 j hlt;omega
  have hnx:(fz d (j+1)).length=d.length+1+(j+1):=hfl (j+1);by_cases h0:j=0
  .subst h0;simp only[qtl];refine runB (ai m1 (un hne)) ?_;refine mb ?_;unfold appR;refine runB hbl ?_;refine⟨.inr trivial,?_⟩;intro q' c' hnm2 g3 g4;rw[t1,t2];rw[t2] at g3;refine runB trivial ?_;refine jca (0+1,q',c') ⟨hlt,g3,g4⟩ zev ?_;simp only[ji4 d (yx 0),qc7 (yx 0)];rfl
  simp only[ji4 d h0];refine runB (ai m1 (un hne)) ?_;refine mb ?_;unfold appR;refine runB hbl ?_;refine⟨.inl trivial,?_⟩;intro q' c' hnm2 g3 g4;rw[t1,t2];rw[t2] at g3;refine runB trivial ?_;refine jca (j+1,q',c') ⟨hlt,g3,g4⟩ zev ?_;simp only[ji4 d (yx j),qc7 (yx j)];rfl
 have hjN:j=N:=omq;subst hjN;have hl1:1<=(fz d j).length:=omq;obtain⟨x,hx,-,-⟩:=ac (l:=fz d j) (k:=(fz d j).length-1) omq;have hdr:=jzf hx;have hst:=qp3 hl1 hx;have hml:(fz d j).length=(ig (fz d j)).length:=(jy9 _).symm;rw[<- hP] at hst hml;have hz:(((fz d j).length % 136:Nat):Int)=0:=by rw[hm1];rfl
 clear t1 t2 s1 s2 hP hfl hm2 hm1 hx;obtain⟨l,hl⟩:∃l,fz d j=l:=⟨_,rfl⟩;obtain⟨P,hPP⟩:∃P,kx d=P:=⟨_,rfl⟩;rw[hPP] at hst hml hPl hsum;apply qqt ⟨[3],[],[],[]⟩ (fun _:Unit=>True) (fun _=>⟨83,[(3,.v (bys P))],[],[]⟩)
 .intro tail;by_cases h0:j=0
  .have hQ:sumQ d j q c=⟨83,[(3,.v (.val (.slice (some ⟨q,0,none⟩) l.length c)))],[(12,.var (bc l) (some q) (some (5,1,c)))],[]⟩:=by subst h0;rw[<- hl];rfl
   rw[hl] at hst hml hdr hz m1 hl1 hbl hc1 hjl;simp only[hQ];refine fj (ew 5) (ai m1 (ai hz (ai hdr (ai hst hbl)))) ?_;refine qbx 3 ?_;rw[qbq (id:=12) (r:=q) (n:=l.length) (cap:=c) (l:=P) rfl (by simp[dg,eh,Blk.nm,nmOf,bb]) rfl hml hc1];refine tail _ () trivial ?_;rfl
  have hQ:sumQ d j q c=⟨83,[(3,.v (.val (.slice (some ⟨q,0,none⟩) l.length c)))],[(19,.var (bc l) (some q) (some (5,1,c)))],[]⟩:=by rw[ji4 d h0,hl]
  rw[hl] at hst hml hdr hz m1 hl1 hbl hc1 hjl;simp only[hQ];refine fj (ew 5) (ai m1 (ai hz (ai hdr (ai hst hbl)))) ?_;refine qbx 3 ?_;rw[qbq (id:=19) (r:=q) (n:=l.length) (cap:=c) (l:=P) rfl (by simp[dg,eh,Blk.nm,nmOf,bb]) rfl hml hc1];refine tail _ () trivial ?_;rfl
 intro _ _;clear hst hml hdr hz m1 hl1 hbl hc1 hc2 hjl hl hlt hj;obtain⟨n,hn⟩:∃n,d.length / 136+1=n:=⟨_,rfl⟩;rw[hn] at hPl hsum;have hPb:P.length<=1048800:=omq;refine run ?_
 refine loop ⟨[3,4,5],[4],[],[]⟩ (fun y:Nat×List Int=>y.1<=n/\y.2.length=25/\pv (n-y.1) y.2 (P.drop (136*y.1))=pv n bq P) (fun y=>n-y.1)
  (fun y=>⟨83,[(3,.v (bys P)),(4,.p 4 0),(5,.v (vi ((136*y.1:Nat):Int)))],[(4,.var (wds y.2))],[]⟩) (0,bq) ⟨uq _,rfl,rfl⟩ ?_
 rintro⟨k,s⟩ ⟨hk,hs,hb⟩;simp only at hk hs hb;have hPm:(P.map Cby).length=P.length:=ut _;by_cases hlt:k<n
 .have hlt2:(((136*k:Nat):Int)<(P.length:Int))=True:=uo omq;obtain⟨Q,hQ⟩:∃Q,(P.drop (136*k)).take 136=Q:=⟨_,rfl⟩;have hQl:Q.length=136:=by rw[<- hQ,vz,xo];omega
  have hQg:∀i,i<136->Q[i]?=P[136*k+i]? := fun i hi=>by rw[<- hQ,List.getElem?_take_of_lt hi,qwh]
  have hnk:n-k=(n-(k+1))+1:=omq;rw[hnk,pv,hQ,qwc,show 136*k+136=136*(k+1) by omega] at hb;have hBl:=jdi s Q hs;have hfin:nt (eatF s Q 136)=de s Q:=by rw[de]
  refine runW (ai hPm hlt2) ?_
  refine loop ⟨[3,4,5,6],[4],[],[]⟩ (fun i:Nat=>i<=136) (fun i=>136-i)
   (fun i=>⟨83,[(3,.v (bys P)),(4,.p 4 0),(5,.v (vi ((136*k:Nat):Int))),(6,.v (vi i))],[(4,.var (wds (eatF s Q i)))],[]⟩) 0 (uq _) ?_
  intro i hi;have hl:(eatF s Q i).length=25:=(jmr s Q i).trans hs;by_cases hilt:i<136
  .obtain⟨b,hb1,-,-⟩:=ac (l:=Q) (k:=i) omq;have hg:Q.getD i 0=b:=by rw[qvd,hb1];rfl
   have hx:P[136*k+i]?=some b:=by rw[<- hQg i hilt,hb1]
   have q0:((136*k:Nat):Int)+(i:Int)=((136*k+i:Nat):Int):=omq;have q1:((i:Nat):Int).tdiv 8=((i / 8:Nat):Int):=na i 8;have q2:((i:Nat):Int).tmod 8=((i % 8:Nat):Int):=fo i 8;have d1:=dn (l:=eatF s Q i) (k:=i / 8) omq
   have s1:(wds (eatF s Q i)).take (i / 8)++[vu (bitF .xor .u64 (atU (eatF s Q i) (i / 8)) (shF true .u64 (b.toNat:Int) (8*((i % 8:Nat):Int))))]++(wds (eatF s Q i)).drop (i / 8+1)=wds (eatF s Q (i+1)):=by
    rw[jl9,hg];exact ql omq _
   refine runW (ai q0 (ai hx (ai q1 (ai q2 (ai d1 (ai s1 (qcu b))))))) ?_;exact round (i+1) hilt omq
  have hi:i=136:=omq;subst hi;have hPr:=qfr (T:=T) (eatF s Q 136) hl;rw[hfin] at hPr;have q0:((136*k:Nat):Int)+136=((136*(k+1):Nat):Int):=omq;refine rcW (tk25 hl) hPr ?_;refine runW (ai hBl (ai (jjg hl) q0)) ?_;exact round (k+1,de s Q) ⟨hlt,hBl,hb⟩ zev
 have hkn:k=n:=omq;subst hkn;have hlt2:(((136*k:Nat):Int)<(P.length:Int))=False:=un omq;rw[Nat.sub_self,pv] at hb;rw[<- hb] at hsum;rw[hsum];refine runW (ai hPm hlt2) ?_
 refine loop ⟨[4,7,8],[4],[7],[]⟩ (fun i:Nat=>i<=32) (fun i=>32-i)
  (fun i=>⟨83,[(4,.p 4 0),(7,.v (bys (digF s i))),(8,.v (vi i))],[(4,.var (wds s))],[(5,[7])]⟩) 0 (uq _) ?_
 intro i hi;by_cases hilt:i<32
 .have q1:((i:Nat):Int).tdiv 8=((i / 8:Nat):Int):=na i 8;have q2:((i:Nat):Int).tmod 8=((i % 8:Nat):Int):=fo i 8;have d1:=dn (l:=s) (k:=i / 8) omq
  have hap:(digF s i).map Cby++[[vb8 (IntKind.u8.wrap (shF false .u64 (atU s (i / 8)) (8*((i % 8:Nat):Int))))]]=(digF s (i+1)).map Cby:=by
   rw[jwr,vy,List.map_singleton];simp only[Cby,vb8,jxc]
  have hdl:(digF s i).length=i:=by unfold digF;rw[ut,List.length_range]
  refine runW (ai q1 (ai q2 (ai d1 hap))) ?_;exact round (i+1) hilt omq
 have hi:i=32:=omq;subst hi;have hby:=jib (digF s 32);rw[<- jn3] at hby;refine runW hby ?_;exact fin rfl
theorem jbc(n a b:Int):Den prog T 37 [vi n,vi a,vi b] (vb (decide (a<=n/\n<=b))):=by
 refine ab call37 func37 15 ?_;by_cases h1:a<=n<;>by_cases h2:n<=b<;>(refine run ?_;refine fin (ae ?_);simp;try omega)
theorem jeg(n:Int):Den prog T 37 [vi n,vi 1,vi 1073741824] (vb (idB n)):=jbc n 1 1073741824
theorem jmt(n:Int):Den prog T 37 [vi n,vi 0,vi 1048575] (vb (dayG n)):=by
 have h:=jbc (T:=T) n 0 1048575
 rwa [show decide (0<=n/\n<=1048575)=dayG n by unfold dayG;rw[Bool.decide_and]] at h
def txtH(c:Crt):Str:=jeu++decS c.num++jdl++decS c.prp++jet++decS c.day++jei
def txtJ(c:Crt)(j:Nat):Str:=(c.fls.take j).foldl (fun t f=>t++[32]++decS f) (txtH c)
theorem qc5{c:Crt}{f:Int}(h:c.fls[j]?=some f):txtJ c (j+1)=txtJ c j++[32]++decS f:=by
 unfold txtJ;rw[jb h,qvk];rfl
theorem jyh:∀(l:List Int) (t:Str),l.foldl (fun t f=>t++[32]++decS f) t=t++flsT l
 |[],t=>by simp[flsT]
 |f::l,t=>by
  rw[List.foldl_cons,jyh l];simp[flsT]
theorem qof(c:Crt):txtJ c c.fls.length++[10]++c.bef=crtT c:=by
 unfold txtJ;rw[vk,jyh];unfold crtT txtH;simp
theorem qog{c:Crt}(h1:idB c.num=true)(h2:idB c.prp=true)(h3:dayG c.day=true):(txtH c).length<=100:=by
 have g1:=my (n:=c.num) (by have:=kj h1;omega);have g2:=my (n:=c.prp) (by have:=kj h2;omega);have g3:=my (n:=c.day) (by have:=jc5 h3;omega);unfold txtH jeu jdl jet jei;exact zcd
theorem jlq{c:Crt}(h0:(txtH c).length<=100):∀j:Nat,(∀f∈c.fls.take j,idB f=true)->(txtJ c j).length<=100+11*j
 |0,_=>h0
 |j+1,hf=>by
  have ih:=jlq h0 j fun f hm=>hf f (List.take_subset_take_left c.fls (Nat.le_succ j) hm);rcases vo j c.fls.length with hlt|hge
  .obtain⟨f,hx,-,-⟩:=ac hlt;have hm:=hf f (je0 hx (Nat.lt_succ_self j));have:=my (n:=f) (by have:=kj hm;omega);rw[qc5 hx];exact zcd
  have:txtJ c (j+1)=txtJ c j:=by unfold txtJ;rw[xn omq,xn hge]
  rw[this];omega
theorem js9(c:Crt)(hf:c.fls.length<=1048576)(_hb:c.bef.length<=1048576):Den prog T 32 [.agg c.cs] (digV c):=by
 have no:∀ {b:Bool},b=false->(CrtOk c->b=true)->digV c=.tup [.str [],vi 1]:=fun h1 h2=>ng fun h=>by rw[h2 h] at h1;cases h1
 refine ab call32 func32 97 ?_;refine rc (jeg c.num) ?_;cases h1:idB c.num
 .rw[no h1 fun h=>h.num];exact za
 refine rc (jeg c.prp) ?_;cases h2:idB c.prp
 .rw[no h2 fun h=>h.prp];exact za
 refine rc (jmt c.day) ?_;cases h3:dayG c.day
 .rw[no h3 fun h=>h.day];exact za
 refine rc (jbc c.fls.length 1 256) ?_;cases h4:decide (1<=(c.fls.length:Int)/\(c.fls.length:Int)<=256)
 .rw[no h4 fun h=>ur ⟨by have:=h.ne;omega,by have:=h.le;omega⟩];exact za
 by_cases h5:c.bef.length=32
 case neg=>
  rw[ng fun h=>h5 h.bef];refine runW (un h5) ?_;exact fin rfl
 have h4:=xp h4;have hH:=qog h1 h2 h3;have i1:=kj h1;have i2:=kj h2;have i3:=jc5 h3;have g1:=my (n:=c.num) omq;have g2:=my (n:=c.prp) omq;have g3:=my (n:=c.day) omq;have hHe:[99,101,114,116,105,102,105,99,97,116,101,32]++decS c.num++[32,112,114,111,112,111,115,97,108,32]++decS c.prp++[32,100,97,121,32]++decS c.day++[32,102,105,108,101,115]=txtJ c 0:=rfl;refine rcW h5 (je9 c.num omq) ?_;refine rc (je9 c.prp omq) ?_;refine rc (je9 c.day omq) ?_;refine run ?_;refine bp ⟨[4,5,1],[1],[],[]⟩ (fun j:Nat=>j<=c.fls.length/\(∀f∈c.fls.take j,idB f=true)/\∀(i:Nat) x y,i+1<j->c.fls[i]?=some x->c.fls[i+1]?=some y->x<y) (fun j=>c.fls.length-j) (fun j=>[(4,.v (.str (txtJ c j))),(5,.v (vi j))]) 0 ⟨uq _,smq,fun i _ _ hi=>absurd hi (yf _)⟩ ?_;rintro j ⟨hj,hall,hris⟩;have hjl:=jlq hH j hall;by_cases hlt:j<c.fls.length
 .obtain⟨f,hx,-,hm⟩:=ac hlt;refine rcW hx (jeg f) ?_;cases hi:idB f
  .rw[no hi fun h=>vj.1 h.ids f hm];exact za
  have hi':=kj hi;have hall2:=an (q:=fun f=>idB f=true) hall hx hi;have hds:=my (n:=f) omq;have hnx:=qc5 hx;have hnl:=jlq hH (j+1) hall2;obtain⟨A,hA⟩:∃A,txtJ c j=A:=⟨_,rfl⟩;obtain⟨B,hB⟩:∃B,txtJ c (j+1)=B:=⟨_,rfl⟩;rw[hA] at hjl hnx ⊢;by_cases h0:j=0
  .subst h0;refine rcW hx (je9 f omq) ?_;refine run ?_;refine round (0+1) ⟨hlt,hall2,fun i _ _ hi=>by omega⟩ omq ?_;rw[hnx];rfl
  obtain⟨g,hg,-,-⟩:=ac (l:=c.fls) (k:=j-1) omq;have hpos:((0:Int)<(j:Int))=True:=uo omq;by_cases hle:f<=g
  .rw[ng fun h=>by
    have:=(oh c.fls).1 h.ris (j-1) g f hg (by rw[show j-1+1=j by omega];exact hx)
    omega]
   refine runW (ai hpos (ai hx (ai hg (uo hle)))) ?_;exact fin rfl
  refine rcW (ai hpos (ai hx (ai hg (un hle)))) (je9 f omq) ?_;refine run ?_;refine round (j+1) ⟨hlt,hall2,fun i x y hi h1 h2=>?_⟩ omq ?_
  .by_cases hij:i+1=j
   .subst hij;rw[hx] at h2;cases h2;rw[show i+1-1=i by omega,h1] at hg;cases hg;omega
   exact hris i x y omq h1 h2
  rw[hnx];rfl
 have hj2:j=c.fls.length:=omq;subst hj2;have hok:CrtOk c:=⟨h1,h2,h3,omq,omq,(oh c.fls).2 fun i x y hx hy=>hris i x y (gsi.1 hy).1 hx hy,vj.2 fun f hf=>hall f (by rw[vk];exact hf),h5⟩;have hcl:=jz4 hok;have he:=qof c;rw[ji1 hok];obtain⟨A,hA⟩:∃A,txtJ c c.fls.length=A:=⟨_,rfl⟩;rw[hA] at hjl he ⊢;refine rcW he (qq9 (crtT c) omq) ?_;exact za
theorem juk(l:List Crt)(hl:l.length<=1048576):Den prog T 31 [crts l] (.str (befC l l.length)):=by
 have hby:=jn4 32;refine ab call31 func31 15 ?_;unfold befC aq;by_cases h0:l.length=0
 .rw[um h0];refine runW h0 ?_;intro r' hnm;have q1:(List.replicate 32 (vb8 0)).length=32:=rfl;have q2:List.take 32 (List.replicate 32 (vb8 0))=List.replicate 32 (vb8 0):=rfl;refine runW (ai q1 (ai q2 hby)) ?_;exact fin rfl
 rw[ul h0];obtain⟨x,hx,-,-⟩:=ac (l:=l) (k:=l.length-1) omq;rw[hx];have h0':¬((l.length:Nat):Int)=0:=omq;refine runW (ai (un h0) (ai (un h0') hx)) ?_;exact fin rfl
theorem qnz{l:List Crt}(h:i<=l.length):befC (l.take i) (l.take i).length=befC l i:=by
 have e:(l.take i).length=i:=by rw[vz,yh h]
 rw[e];unfold befC aq;by_cases h0:i=0
 .rw[um h0,um h0]
 rw[ul h0,ul h0,List.getElem?_take_of_lt omq]
theorem qgf(l:List Crt)(i:Nat)(hl:l.length<=1048576/\∀c∈l,c.fls.length<=1048576/\c.bef.length<=1048576/\c.dig.length<=1048576)(hi:i<l.length):Den prog T 154 [crts l,vi i] (vb (dt l i)):=by
 have hl0:=hl.1;obtain⟨c,hc,-,hm⟩:=ac hi;have hfc:=hl.2 c hm;have hD:=js9 (T:=T) c hfc.1 hfc.2.1;have hlk:dt l i=sk (befC l i) i c:=by unfold dt;rw[hc]
 have hL:=juk (T:=T) (l.take i) ze9;rw[qnz omq] at hL;have htk:(l.map Crt.cs).take i=(l.take i).map Crt.cs:=(qvm ..).symm;rw[hlk];refine ab call154 func154 48 ?_;refine rcW hc hD ?_;unfold sk digV digR;by_cases h2:c.num=(i:Int)+1
 .cases h1:crtB c
  .rw[ul dcq];refine runW (ai hc (uo h2)) ?_;exact z5
  rw[um rfl];cases h3:c.dig == sumD (crtT c)
  .have h3':(sumD (crtT c) == c.dig)=false:=by rw[beq_eq_false_iff_ne] at h3 ⊢;exact fun e=>h3 e.symm
   refine runW (ai hc (ai (uo h2) h3')) ?_;exact z5
  have h3':(sumD (crtT c) == c.dig)=true:=by rw[qvc] at h3 ⊢;exact h3.symm
  refine rcW (ai hc (ai (uo h2) (ai h3' htk))) hL ?_;refine runW (ai hc (ai (uo h2) h3')) ?_;exact zb5
 refine runW (ai hc (un h2)) ?_;exact zb5
theorem jgf(l:List Prp)(n:Int)(hl:l.length<=1048576):Den prog T 29 [prps l,vi n] (vi (iy l n)):=by
 refine ab call29 func29 20 ?_;refine run ?_;refine aj ⟨[5,0,1],[],[],[]⟩ l.length (fun k=>∀o∈l.take k,ce n o=false) smq ?_;rintro k ⟨hk,hall⟩;by_cases hlt:k<l.length
 .obtain⟨x,hx,-,-⟩:=ac hlt;by_cases hxn:x.id=n
  .refine runW hx ?_;exact fin (ah (nv (p:=ce n) hall hx (by simp[ce,hxn])))
  refine runW hx ?_;exact round (k+1) ⟨omq,an (q:=fun o:Prp=>ce n o=false) hall hx (by simp[ce,hxn])⟩ omq
 refine run ?_;exact fin (ah (ov (p:=ce n) hall hlt))
theorem jwy(l:List Int)(n:Int)(hl:l.length<=1048576):Den prog T 28 [ints l,vi n] (vb (hasI n l)):=by
 refine ab call28 func28 18 ?_;refine run ?_;refine aj ⟨[5,0,1],[],[],[]⟩ l.length (fun k=>∀x∈l.take k,decide (x=n)=false) smq ?_;rintro k ⟨hk,hall⟩;by_cases hlt:k<l.length
 .obtain⟨x,hx,-,hm⟩:=ac hlt;by_cases hxn:x=n
  .have:hasI n l=true:=vp.2 ⟨x,hm,ur hxn⟩;rw[this];exact zf
  refine runW hx ?_;exact round (k+1) ⟨omq,an (q:=fun x:Int=>decide (x=n)=false) hall hx (ux hxn)⟩ omq
 have:hasI n l=false:=vn.2 fun x hx=>by rw[dh hall hlt x hx];decide
 rw[this];exact za
theorem qix(r:Rgs)(h:r.Fit)(n:Int):Den prog T 38 [.agg r.cs,vi n] (vb (ml r.crs n)):=by
 have hl:=h.crs.1;refine ab call38 func38 21 ?_;refine run ?_;refine aj ⟨[5,1,2],[2],[],[]⟩ r.crs.length (fun k=>∀x∈r.crs.take k,jem n x=false) smq ?_;rintro k ⟨hk,hall⟩;by_cases hlt:k<r.crs.length
 .obtain⟨x,hx,-,hm⟩:=ac hlt;by_cases hxn:x.prp=n
  .have:ml r.crs n=true:=vp.2 ⟨x,hm,ur hxn⟩;rw[this];refine runW (ai hx hxn) ?_;exact fin rfl
  refine runW (ai hx (un hxn)) ?_;exact round (k+1) ⟨omq,an (q:=fun x:Crt=>jem n x=false) hall hx (ux hxn)⟩ omq
 have:ml r.crs n=false:=vn.2 fun x hx=>by rw[dh hall hlt x hx];decide
 rw[this];exact za
theorem jj9(l:List Clk)(n d:Int)(hl:l.length<=1048576):Den prog T 91 [clks l,vi n,vi d] (vi (ix (fg n d) l)):=by
 refine ab call91 func91 31 ?_;refine run ?_;refine aj ⟨[7,0,1,2],[],[],[]⟩ l.length (fun k=>∀o∈l.take k,fg n d o=false) smq ?_;rintro k ⟨hk,hall⟩;by_cases hlt:k<l.length
 .obtain⟨x,hx,-,-⟩:=ac hlt;by_cases hxn:x.id=n
  .refine rcW (ai hx hxn) (rz x.frm x.til d) ?_;cases hin:inS x.frm x.til d
   .refine runW hxn ?_;exact round (k+1) ⟨omq,an (q:=fun o:Clk=>fg n d o=false) hall hx (by simp[fg,hxn,hin])⟩ omq
   refine runW hxn ?_;exact fin (ah (nv (p:=fg n d) hall hx (by simp[fg,hxn,hin])))
  refine runW (ai hx (un hxn)) ?_;exact round (k+1) ⟨omq,an (q:=fun o:Clk=>fg n d o=false) hall hx (by simp[fg,hxn])⟩ omq
 refine run ?_;exact fin (ah (ov (p:=fg n d) hall hlt))
theorem jz5(l:List Clk)(n d:Int):(jy l n d=false/\ix (fg n d) l<0)\/(jy l n d=true/\¬ix (fg n d) l<0):=by
 have h:=ju (fg n d) l;unfold jy;by_cases hi:ix (fg n d) l<0
 .left;rw[<- h];exact⟨ux omq,hi⟩
 right;rw[<- h];exact⟨ur omq,hi⟩
theorem qfn(l:List Clk)(hl:l.length<=1048576)(hn:∀c∈l,c.name.length<=1048576):Den prog T 87 [clks l] (vi (chk 32 l.length (di l)).2):=by
 refine ab call87 func87 61 ?_;by_cases h32:32<l.length
 .rw[jn h32];exact za
 refine run ?_;refine aj ⟨[3,0],[],[],[]⟩ l.length (fun k=>∀i,i<k->di l i=0) (fun i hi=>absurd hi (yf i)) ?_;rintro k ⟨hk,hall⟩;by_cases hlt:k<l.length
 .obtain⟨c,hx,-,hm⟩:=ac hlt;have hcn:=hn c hm
  have hE:di l k=if idB c.id=false\/c.role<1\/3<c.role\/bm c.frm c.til=false then 2 else if name c.name=false then 4 else if jaw (aq l k) c=true then 5 else 0:=by
   unfold di;rw[hx]
  have bad:∀e:Int,di l k=e->e≠0->(chk 32 l.length (di l)).2=e:=fun e h1 h2=>by rw[kf h32 hlt hall (by rw[h1];exact h2)];exact h1
  refine rcW hx (jeg c.id) ?_;cases h1:idB c.id
  .rw[bad 2 (by rw[hE,um (.inl h1)]) dcq];exact za
  refine rcW hx (jbc c.role 1 3) ?_;cases h2:decide (1<=c.role/\c.role<=3)
  .have h2:=of_decide_eq_false h2;rw[bad 2 (by rw[hE,um (by by_cases g:c.role<1;exact .inr (.inl g);exact .inr (.inr (.inl omq)))]) dcq];exact za
  have h2:=xp h2;refine rcW hx (jdf c.frm c.til) ?_;cases h3:bm c.frm c.til
  .rw[bad 2 (by rw[hE,um (.inr (.inr (.inr h3)))]) dcq];exact za
  have hE2:di l k=if name c.name=false then 4 else if jaw (aq l k) c=true then 5 else 0:=by
   rw[hE,ul];rintro (e|e|e|e)
   .rw[h1] at e;cases e
   .omega
   .omega
   rw[h3] at e;cases e
  refine rcW hx (sv c.name hcn) ?_;cases h4:name c.name
  .rw[bad 4 (by rw[hE2,um h4]) dcq];exact za
  rw[ul (by rw[h4];decide)] at hE2
  have next:di l k=0->∀i,i<k+1->di l i=0:=fun h0 i hi=>by
   by_cases e:i=k
   .rw[e];exact h0
   exact zb3
  by_cases h0:k=0
  .have hz:di l k=0:=by rw[hE2];unfold aq;rw[um h0];rfl
   have nx:=next hz;subst h0;refine runW hx ?_;exact round (0+1) ⟨hlt,nx⟩ omq
  obtain⟨q,hq,-,-⟩:=ac (l:=l) (k:=k-1) omq;have hpos:((0:Int)<(k:Int))=True:=uo omq;have hE3:di l k=if decide (c.id<=q.id)=true then 5 else 0:=by rw[hE2];unfold aq;rw[ul h0,hq];rfl
  by_cases hle:c.id<=q.id
  .rw[bad 5 (by rw[hE3,um (ur hle)]) dcq];refine runW (ai hpos (ai hx (ai hq (uo hle)))) ?_;exact fin rfl
  refine runW (ai hpos (ai hx (ai hq (un hle)))) ?_;exact round (k+1) ⟨hlt,next (by rw[hE3,ux hle];rfl)⟩ omq
 rw[ir h32 fun i hi=>hall i omq];exact za
theorem qdw(r:Rgs)(h:r.Fit)(i:Nat)(hi:i<r.pps.length):Den prog T 88 [.agg r.cs,vi i] (vi (fb r i)):=by
 have hpl:=h.pps.1;have hfl:=h.fls.1;have hcl:=h.cks.1;obtain⟨p,hx,-,hm⟩:=ac hi;have hpf:=h.pps.2 p hm;have hE0:fb r i=prpE r (r.pps.take i) (aq r.pps i) p:=by unfold fb;rw[hx]
 rw[hE0];obtain⟨E,hEE⟩:∃E,prpE r (r.pps.take i) (aq r.pps i) p=E:=⟨_,rfl⟩;rw[hEE];unfold prpE at hEE
 have hwd:∀b:Bool,wdrB p=b->((p.day<=p.wdr/\p.wdr<=1048575)/\b=true)\/(¬(p.day<=p.wdr/\p.wdr<=1048575)/\((p.wdr=1048576/\b=true)\/(¬p.wdr=1048576/\b=false))):=fun b hb=>by
  subst hb;unfold wdrB;by_cases g1:p.day<=p.wdr<;>by_cases g2:p.wdr<=1048575<;>by_cases g3:p.wdr=1048576<;>simp[g1,g2,g3]
 refine ab call88 func88 146 ?_;refine rcW hx (jeg p.id) ?_;cases h1:idB p.id
 .rw[um (.inl h1)] at hEE;subst hEE;exact za
 refine rc (jmt p.day) ?_;cases h2:dayG p.day
 .rw[um (.inr (.inl h2))] at hEE;subst hEE;exact za
 refine run ?_;apply jeb (wdrB p=true) ⟨146,[(1,.v (vi i)),(2,.p 2 0),(5,.p 5 0)],[(5,.var p.cs),(2,.var r.cs)],[]⟩
 .intro tail;refine call (jbc p.wdr p.day 1048575) ?_;rcases hwd _ rfl with⟨g1,g2⟩|⟨g1,⟨g2,g3⟩|⟨g2,g3⟩⟩
  .rw[ur g1];refine runD trivial ?_;refine tail _ g2 ?_;exact zb4
  .rw[ux g1];refine runD (uo g2) ?_;refine tail _ g3 ?_;exact zb4
  rw[ux g1];rw[um (.inr (.inr g3))] at hEE;subst hEE;refine runW (un g2) ?_;exact fin rfl
 intro hw;rw[ul (by rw[h1,h2,hw];decide)] at hEE;clear hwd;apply jeb (kq (aq r.pps i) p=false) ⟨146,[(1,.v (vi i)),(2,.p 2 0),(5,.p 5 0)],[(5,.var p.cs),(2,.var r.cs)],[]⟩
 .intro tail;by_cases h0:i=0
  .have hz:kq (aq r.pps i) p=false:=by unfold aq;rw[um h0];rfl
   subst h0;refine fj (ew 6) trivial ?_;refine tail _ hz ?_;exact zb4
  obtain⟨q,hq,-,-⟩:=ac (l:=r.pps) (k:=i-1) omq;have hpos:((0:Int)<(i:Int))=True:=uo omq;have hz:kq (aq r.pps i) p=(decide (p.id<=q.id) || decide (p.day<q.day)):=by unfold aq;rw[ul h0,hq];rfl
  by_cases g1:p.id<=q.id
  .rw[um (by rw[hz,ur g1];rfl)] at hEE;subst hEE;refine runW (ai hpos (ai hq (uo g1))) ?_;exact fin rfl
  by_cases g2:p.day<q.day
  .rw[um (by rw[hz,ur g2,qv6])] at hEE;subst hEE;refine runW (ai hpos (ai hq (ai (un g1) (uo g2)))) ?_;exact fin rfl
  refine fj (ew 6) (ai hpos (ai hq (ai (un g1) (un g2)))) ?_;refine tail _ (by rw[hz,ux g1,ux g2];rfl) ?_;exact zb4
 intro hea;rw[ul (by rw[hea];decide)] at hEE;clear hea;refine rc (jj9 r.cks p.clk p.day hcl) ?_;rcases jz5 r.cks p.clk p.day with⟨g1,g2⟩|⟨g1,g2⟩
 .rw[um g1] at hEE;subst hEE;refine runW (uo g2) ?_;exact fin rfl
 rw[ul (by rw[g1];decide)] at hEE;by_cases hne:p.fls=[]
 .rw[um hne] at hEE;subst hEE;have hl0:p.fls.length=0:=by rw[hne];rfl
  refine runW (ai (un g2) hl0) ?_;exact fin rfl
 rw[ul hne] at hEE;have hl0:¬p.fls.length=0:=fun e=>hne (xu e);refine runW (ai (un g2) (un hl0)) ?_;clear g1 g2;refine aj ⟨[6,1,2,5],[5,2],[],[]⟩ p.fls.length (fun k=>∀f∈p.fls.take k,hasF r.fls f=true) smq ?_;rintro k ⟨hk,hall⟩;by_cases hlt:k<p.fls.length
 .obtain⟨f,hf,-,hfm⟩:=ac hlt;have hh:=jg9 r.fls f;refine rcW hf (jfk r.fls f hfl) ?_;by_cases g:cv r.fls f<0
  .rw[ur g] at hh;have hna:p.fls.all (hasF r.fls)=false:=List.all_eq_false.2 ⟨f,hfm,by rw[hh];decide⟩;rw[um hna] at hEE;subst hEE;refine runW (uo g) ?_;exact fin rfl
  rw[ux g] at hh;refine runW (un g) ?_;exact round (k+1) ⟨hlt,an (q:=fun f=>hasF r.fls f=true) hall hf hh⟩ omq
 rw[ul (by rw[vj.2 fun f hf=>dh hall hlt f hf];decide)] at hEE;clear hall;refine run ?_;refine bp ⟨[7,1,2,5],[5,2],[],[]⟩ (fun k:Nat=>1<=k/\k<=p.fls.length/\∀(j:Nat) x y,j+1<k->p.fls[j]?=some x->p.fls[j+1]?=some y->x<y) (fun k=>p.fls.length-k) (fun k=>[(7,.v (vi k))]) 1 ⟨uv _,omq,fun j _ _ hj=>by omega⟩ ?_;rintro k ⟨hk1,hk,hris⟩;by_cases hlt:k<p.fls.length
 .obtain⟨f,hf,-,-⟩:=ac hlt;obtain⟨g,hg,-,-⟩:=ac (l:=p.fls) (k:=k-1) omq;by_cases hle:f<=g
  .have hnr:risI p.fls=false:=yz.2 fun e=>by
    have:=(oh p.fls).1 e (k-1) g f hg (by rw[show k-1+1=k by omega];exact hf);omega
   rw[um hnr] at hEE;subst hEE;refine runW (ai hf (ai hg (uo hle))) ?_;exact fin rfl
  refine runW (ai hf (ai hg (un hle))) ?_;refine round (k+1) ⟨omq,hlt,fun j x y hj h1 h2=>?_⟩ omq;by_cases hjk:j+1=k
  .subst hjk;rw[hf] at h2;cases h2;rw[show j+1-1=j by omega,h1] at hg;cases hg;omega
  exact hris j x y omq h1 h2
 have hrt:risI p.fls=true:=(oh p.fls).2 fun j x y h1 h2=>hris j x y (by have:=(gsi.1 h2).1;omega) h1 h2;rw[ul (by rw[hrt];decide)] at hEE;clear hris;refine run ?_;refine aj ⟨[8,1,2,5],[5,2],[],[]⟩ i (fun k=>∀q∈r.pps.take k,∀f∈p.fls,nw p.day f q=false) smq ?_;rintro k ⟨hk,hall⟩;by_cases hlt:k<i
 .obtain⟨q,hq,-,hqm⟩:=ac (l:=r.pps) (k:=k) omq;have hqf:=h.pps.2 q hqm;refine runW (uo hlt) ?_;refine aj ⟨[9,1,2,5,8],[5,2],[],[]⟩ p.fls.length (fun n=>∀f∈p.fls.take n,nw p.day f q=false) smq ?_;rintro n ⟨hn,hin⟩;by_cases hnlt:n<p.fls.length
  .obtain⟨f,hf,-,hfm⟩:=ac hnlt;by_cases g1:p.day<q.wdr
   .refine rcW (ai hq (ai hf (uo g1))) (jwy q.fls f hqf) ?_;cases g2:hasI f q.fls
    .refine run ?_;exact round (n+1) ⟨hnlt,an (q:=fun f=>nw p.day f q=false) hin hf (by unfold nw;rw[g2,xm])⟩ omq
    have hany:p.fls.any (tl (r.pps.take i) p.day)=true:=vp.2 ⟨f,hfm,vp.2 ⟨q,je0 hq hlt,by unfold nw;rw[g2,ur g1];rfl⟩⟩;rw[um hany] at hEE;subst hEE;exact za
   refine runW (ai hq (ai hf (un g1))) ?_;exact round (n+1) ⟨hnlt,an (q:=fun f=>nw p.day f q=false) hin hf (by unfold nw;rw[ux g1,qvg])⟩ omq
  refine run ?_;exact round (k+1) ⟨hlt,an (q:=fun q=>∀f∈p.fls,nw p.day f q=false) hall hq fun f hf=>dh hin hnlt f hf⟩ omq
 have hki:k=i:=omq;subst hki
 have hany:p.fls.any (tl (r.pps.take k) p.day)=false:=vn.2 fun f hf e=>by
  obtain⟨q,hq,hh⟩:=vp.1 e;rw[hall q hq f hf] at hh;cases hh
 exact zdm
theorem qe3(r:Rgs)(h:r.Fit)(i:Nat)(hi:i<r.aps.length):Den prog T 89 [.agg r.cs,vi i] (vi (dj r i)):=by
 have hpl:=h.pps.1;have hal:=h.aps;have hcl:=h.cks.1;obtain⟨a,hx,-,-⟩:=ac hi;have hfd:=jgf (T:=T) r.pps a.prp hpl;rcases ly (ce a.prp) r.pps with⟨h1,h2⟩|⟨k,p,h1,hk,hpx,-,h2⟩
 .have hE:dj r i=7:=by unfold dj;rw[hx];simp only[h2]
  rw[show iy r.pps a.prp= -1 from h1] at hfd;rw[hE];refine ab call89 func89 89 ?_;refine rcW hx hfd ?_;exact za
 have hE:dj r i=apvE r (r.aps.take i) (aq r.aps i) a p:=by unfold dj;rw[hx];simp only[h2]
 rw[show iy r.pps a.prp=(k:Int) from h1] at hfd;rw[hE];obtain⟨E,hEE⟩:∃E,apvE r (r.aps.take i) (aq r.aps i) a p=E:=⟨_,rfl⟩;rw[hEE];unfold apvE at hEE;refine ab call89 func89 89 ?_;refine rcW hx hfd ?_;refine rcW hpx (jbc a.day p.day 1048575) ?_;by_cases c1:p.day<=a.day/\a.day<=1048575
 case neg=>
  rw[um (by by_cases g:a.day<p.day;exact .inl g;exact .inr omq)] at hEE;subst hEE;rw[ux c1];exact za
 rw[ul omq] at hEE;rw[ur c1];apply jeb (se (aq r.aps i) a=false) ⟨89,[(1,.v (vi i)),(2,.p 2 0),(5,.p 5 0),(7,.p 7 0)],[(7,.var p.cs),(5,.var a.cs),(2,.var r.cs)],[]⟩
 .intro tail;by_cases h0:i=0
  .have hz:se (aq r.aps i) a=false:=by unfold aq;rw[um h0];rfl
   subst h0;refine fj (ew 10) trivial ?_;refine tail _ hz ?_;exact bl [7,5,2] [1,2,5,7] rfl rfl rfl (fun _ _ e=>e) rfl
  obtain⟨q,hq,-,-⟩:=ac (l:=r.aps) (k:=i-1) omq;have hpos:((0:Int)<(i:Int))=True:=uo omq;have hz:se (aq r.aps i) a=decide (a.day<q.day):=by unfold aq;rw[ul h0,hq];rfl
  by_cases g2:a.day<q.day
  .rw[um (by rw[hz,ur g2])] at hEE;subst hEE;refine runW (ai hpos (ai hq (uo g2))) ?_;exact fin rfl
  refine fj (ew 10) (ai hpos (ai hq (un g2))) ?_;refine tail _ (by rw[hz,ux g2]) ?_;exact bl [7,5,2] [1,2,5,7] rfl rfl rfl (fun _ _ e=>e) rfl
 intro hea;rw[ul (by rw[hea];decide)] at hEE;clear hea;by_cases c3:p.wdr<=a.day
 .rw[um c3] at hEE;subst hEE;refine runW (uo c3) ?_;exact fin rfl
 rw[ul c3] at hEE;refine rcW (un c3) (jj9 r.cks a.clk a.day hcl) ?_;rcases jz5 r.cks a.clk a.day with⟨g1,g2⟩|⟨g1,g2⟩
 .rw[um g1] at hEE;subst hEE;refine runW (uo g2) ?_;exact fin rfl
 rw[ul (by rw[g1];decide)] at hEE;by_cases c5:a.clk=p.clk
 .rw[um c5] at hEE;subst hEE;refine runW (ai (un g2) (uo c5)) ?_;exact fin rfl
 rw[ul c5] at hEE;refine runW (ai (un g2) (un c5)) ?_;clear g1 g2;refine aj ⟨[8,1,2,5],[5,2],[],[]⟩ i (fun n=>∀b∈r.aps.take n,jv a b=false) smq ?_;rintro n ⟨hn,hall⟩;by_cases hlt:n<i
 .obtain⟨b,hb,-,-⟩:=ac (l:=r.aps) (k:=n) omq;by_cases q1:b.prp=a.prp
  .by_cases q2:b.clk=a.clk
   .have hany:(r.aps.take i).any (jv a)=true:=vp.2 ⟨b,je0 hb hlt,by unfold jv;rw[ur q1,ur q2];rfl⟩;rw[um hany] at hEE;subst hEE;refine runW (ai (uo hlt) (ai hb (ai (uo q1) (uo q2)))) ?_;exact fin rfl
   refine runW (ai (uo hlt) (ai hb (ai (uo q1) (un q2)))) ?_;exact round (n+1) ⟨hlt,an (q:=fun b=>jv a b=false) hall hb (by unfold jv;rw[ux q2,xm])⟩ omq
  refine runW (ai (uo hlt) (ai hb (un q1))) ?_;exact round (n+1) ⟨hlt,an (q:=fun b=>jv a b=false) hall hb (by unfold jv;rw[ux q1,qvg])⟩ omq
 have hni:n=i:=omq;subst hni;have hany:(r.aps.take n).any (jv a)=false:=vn.2 fun b hb=>by rw[hall b hb];decide
 exact zdm
theorem qdm(r:Rgs)(h:r.Fit)(i:Nat)(hi:i<r.crs.length):Den prog T 90 [.agg r.cs,vi i] (vi (dc r i)):=by
 have hpl:=h.pps.1;have hcl:=h.crs.1;obtain⟨c,hx,-,hm⟩:=ac hi;have hcf:=(h.crs.2 c hm).1;have hfd:=jgf (T:=T) r.pps c.prp hpl;have hrt:=qgf (T:=T) r.crs i h.crs hi;rcases ly (ce c.prp) r.pps with⟨h1,h2⟩|⟨k,p,h1,hk,hpx,-,h2⟩
 .have hE:dc r i=7:=by unfold dc;rw[hx];simp only[h2]
  rw[show iy r.pps c.prp= -1 from h1] at hfd;rw[hE];refine ab call90 func90 34 ?_;refine rcW hx hfd ?_;exact za
 have hE:dc r i=if c.fls≠p.fls then 10 else if dt r.crs i=false then 14 else 0:=by unfold dc;rw[hx];simp only[h2]
 rw[show iy r.pps c.prp=(k:Int) from h1] at hfd;rw[hE];refine ab call90 func90 34 ?_;refine rcW hx hfd ?_;refine rcW hpx (jcy c.fls p.fls hcf) ?_;by_cases c1:c.fls=p.fls
 .rw[ul (fun e=>e c1),ur c1];refine rc hrt ?_;cases hz:dt r.crs i
  .rw[um rfl];exact za
  rw[ul dcq];exact za
 rw[um c1,ux c1];exact za
theorem jx8{lim:Nat}{f:Nat->Int}(h:lim<n):(chk lim n f).2=8:=by rw[jn h]
theorem qfw(L:LibC T)(r:Rgs)(h:r.Fit):Den prog T 36 [.agg r.cs] (vi (ea r)):=by
 have hpl:=h.pps.1;have hal:=h.aps;have hcl:=h.crs.1;have hG:=qes L r h;have hK:=qfn (T:=T) r.cks h.cks.1 h.cks.2;have hE:ea r=fstE [checkG r,(chk 32 r.cks.length (di r.cks)).2,(chk 1024 r.pps.length (fb r)).2,(chk 1024 r.aps.length (dj r)).2,(chk r.crs.length r.crs.length (dc r)).2]:=rfl;rw[hE];refine ab call36 func36 64 ?_;refine rc hG ?_;by_cases e1:checkG r=0
 case neg=>
  simp only[fstE,ne_eq,e1,not_false_eq_true,uy];refine runW (un e1) ?_;exact fin rfl
 refine rcW e1 hK ?_;by_cases e2:(chk 32 r.cks.length (di r.cks)).2=0
 case neg=>
  simp only[fstE,ne_eq,e2,not_false_eq_true,not_true,uy,va];refine runW (un e2) ?_;exact fin rfl
 by_cases e3:1024<r.pps.length
 .have b3:(chk 1024 r.pps.length (fb r)).2=8:=jx8 e3;simp only[fstE,ne_eq,e2,b3,not_true,va];refine runW (ai e2 (uo e3)) ?_;exact fin rfl
 refine runW (ai e2 (un e3)) ?_;refine aj ⟨[4,1],[1],[],[]⟩ r.pps.length (fun k=>∀i,i<k->fb r i=0) (fun i hi=>absurd hi (yf i)) ?_;rintro k ⟨hk,hall⟩;by_cases hlt:k<r.pps.length
 .refine rc (qdw r h k hlt) ?_;by_cases hz:fb r k=0
  .refine runW hz ?_;refine round (k+1) ⟨hlt,fun i hi=>?_⟩ omq;by_cases e:i=k
   .exact zc6
   exact zb3
  have hb:(chk 1024 r.pps.length (fb r)).2=fb r k:=by rw[kf e3 hlt hall hz]
  simp only[fstE,ne_eq,hb,hz,not_false_eq_true,not_true,uy,va];exact zb2
 have b3:(chk 1024 r.pps.length (fb r)).2=0:=by rw[ir e3 fun i hi=>hall i omq]
 clear hall;by_cases e4:1024<r.aps.length
 .have b4:(chk 1024 r.aps.length (dj r)).2=8:=jx8 e4;simp only[fstE,ne_eq,b3,b4,not_true,va];refine runW (uo e4) ?_;exact fin rfl
 refine runW (un e4) ?_;refine aj ⟨[5,1],[1],[],[]⟩ r.aps.length (fun k=>∀i,i<k->dj r i=0) (fun i hi=>absurd hi (yf i)) ?_;rintro k ⟨hk,hall⟩;by_cases hlt:k<r.aps.length
 .refine rc (qe3 r h k hlt) ?_;by_cases hz:dj r k=0
  .refine runW hz ?_;refine round (k+1) ⟨hlt,fun i hi=>?_⟩ omq;by_cases e:i=k
   .exact zc6
   exact zb3
  have hb:(chk 1024 r.aps.length (dj r)).2=dj r k:=by rw[kf e4 hlt hall hz]
  simp only[fstE,ne_eq,b3,hb,hz,not_false_eq_true,not_true,uy,va];exact zb2
 have b4:(chk 1024 r.aps.length (dj r)).2=0:=by rw[ir e4 fun i hi=>hall i omq]
 clear hall;refine run ?_;refine aj ⟨[6,1],[1],[],[]⟩ r.crs.length (fun k=>∀i,i<k->dc r i=0) (fun i hi=>absurd hi (yf i)) ?_;rintro k ⟨hk,hall⟩;by_cases hlt:k<r.crs.length
 .refine rc (qdm r h k hlt) ?_;by_cases hz:dc r k=0
  .refine runW hz ?_;refine round (k+1) ⟨hlt,fun i hi=>?_⟩ omq;by_cases e:i=k
   .exact zc6
   exact zb3
  have hb:(chk r.crs.length r.crs.length (dc r)).2=dc r k:=by rw[kf (qvz _) hlt hall hz]
  simp only[fstE,ne_eq,b3,b4,hb,hz,not_false_eq_true,not_true,uy,va];exact zb2
 have b5:(chk r.crs.length r.crs.length (dc r)).2=0:=by rw[ir (qvz _) fun i hi=>hall i omq]
 simp only[fstE,ne_eq,b3,b4,b5,not_true,va];exact za
theorem qn1(a:List Ofc)(ha:a.length<=1048576)(hn:∀o∈a,o.nxt.length<=1048576):Den prog T 42 [ofcs a,ofcs a] (vb true):=by
 refine ab call42 func42 68 ?_;refine run ?_;refine bp ⟨[5,0,1],[],[],[]⟩ (fun k:Nat=>k<=a.length) (fun k=>a.length-k) (fun k=>[(5,.v (vi k))]) 0 omq ?_;intro k hk;by_cases hlt:k<a.length
 .obtain⟨x,hx,-,hm⟩:=ac hlt;have hs:=jcy (T:=T) x.nxt x.nxt (hn x hm);rw[ur rfl] at hs;refine rcW hx hs ?_;refine run ?_;exact zy
 exact za
theorem qn0(a:List Plan)(ha:a.length<=1048576)(hn:∀p∈a,p.cls.length<=1048576/\p.mov.length<=1048576):Den prog T 43 [ay a,ay a] (vb true):=by
 refine ab call43 func43 127 ?_;refine run ?_;refine bp ⟨[5,0,1],[],[],[]⟩ (fun k:Nat=>k<=a.length) (fun k=>a.length-k) (fun k=>[(5,.v (vi k))]) 0 omq ?_;intro k hk;by_cases hlt:k<a.length
 .obtain⟨x,hx,-,hm⟩:=ac hlt;obtain⟨hc,hv⟩:=hn x hm;refine runW hx ?_;refine bp ⟨[6,0,1,5],[],[],[]⟩ (fun j:Nat=>j<=x.cls.length) (fun j=>x.cls.length-j) (fun j=>[(6,.v (vi j))]) 0 omq ?_;intro j hj;by_cases hjl:j<x.cls.length
  .exact zea
  refine runW hx ?_;refine bp ⟨[7,0,1,5],[],[],[]⟩ (fun j:Nat=>j<=x.mov.length) (fun j=>x.mov.length-j) (fun j=>[(7,.v (vi j))]) 0 omq ?_;intro j hj;by_cases hjl:j<x.mov.length
  .exact zea
  refine runW hx ?_;exact zy
 exact za
abbrev qu3:List Gent:=gd 12 [[0,0,0],[1,1,0],[3,2,0],[7,3,0,0],[15,4,0],[31,5,0],[63,6,0],[127,7,0,0],[255,8,1,9,0],[767,8,1,0,0,0],[511,9,0,0,0,0],[1023,10,0,0,0,0],[2047,11,0,0,0,0],[4095]]
theorem qn4(a:List Fil)(ha:a.length<=1048576)(hn:∀f∈a,f.Fit):Den prog T 44 [fils a,fils a] (vb true):=by
 refine ab call44 func44 82 ?_;refine run ?_;refine bp ⟨[5,0,1],[],[],[]⟩ (fun k:Nat=>k<=a.length) (fun k=>a.length-k) (fun k=>[(5,.v (vi k))]) 0 omq ?_;intro k hk;by_cases hlt:k<a.length
 .obtain⟨x,hx,-,hm⟩:=ac hlt;have hxn:=(hn x hm).2.2.1;have hs:=qem (T:=T) x.nts x.nts hxn hxn;rw[ur rfl] at hs;refine runD hx ?_;refine ma .nm (fun _:Unit=>True) (fun _=>⟨82,[(0,.v (fils a)),(1,.v (fils a)),(5,.v (vi k)),(6,.p 6 0),(7,.p 7 0)],[(6,.var x.cs),(7,.var x.cs)],[]⟩) ?_ ?_
  .intro E hE;refine bt qu3 ?_;refine am hx ?_
   try simp only[vf,vd,uz,bg,bn]
   repeat' (with_reducible refine ai ?_ ?_)
   all_goals refine hE () _ trivial ?_
   all_goals exact bl [6,7] [0,1,5,6,7] rfl rfl rfl (fun i k e=>by
    rw[af,af] at e;split at e
    .exact zt
    split at e
    .exact zt
    .cases e) rfl
  intro _ _
  show aw _ _ _ ⟨82,[(0,.v (fils a)),(1,.v (fils a)),(5,.v (vi k)),(6,.p 6 0),(7,.p 7 0)],[(6,.var x.cs),(7,.var x.cs)],[]⟩ _
  refine rc hs ?_;refine run ?_;exact zy
 exact za
theorem qmz(a:List Rul)(ha:a.length<=1048576):Den prog T 45 [ruls a,ruls a] (vb true):=by
 refine ab call45 func45 26 ?_;refine run ?_;refine bp ⟨[5,0,1],[],[],[]⟩ (fun k:Nat=>k<=a.length) (fun k=>a.length-k) (fun k=>[(5,.v (vi k))]) 0 omq ?_;intro k hk;by_cases hlt:k<a.length
 .exact zbw
 exact za
theorem jt6(c:Crt)(hc:c.fls.length<=1048576):Den prog T 11 [.agg c.cs,.agg c.cs] (vb true):=by
 have hs:=jcy (T:=T) c.fls c.fls hc;rw[ur rfl] at hs;refine ab call11 func11 45 ?_;refine rc hs ?_;exact za
abbrev qu2:List Gent:=gd 14 [[0,0,0],[1,1,0,0],[3,2,0],[7,3,0],[15,4,0,0],[31,5,0],[63,6,0,0],[127,7,0],[255,8,0],[511,9,0,0],[1023,10,0,11,1],[2047,11,1,0,0,0],[3071,10,0,0,0,0],[4095,12,0,0,0,0],[8191,13,0,0,0,0],[16383]]
abbrev qu1:List Gent:=gd 14 [[0,0,0],[1,1,0,0],[3,2,0],[7,3,0],[15,4,0,0],[31,5,0],[63,6,0,0],[127,7,0],[255,8,0],[511,9,0,0],[1023,10,0,11,1],[2047,11,1,0,0,0],[3071,10,0,0,0,0],[4095,12,0,0,0,0],[8191,13,0,0,0,0],[16383]]
theorem qeb(r:Rgs)(h:r.Fit):Den prog T 47 [.agg r.cs,.agg r.cs] (vb true):=by
 have hsl:=h.sls.1;have hpl:=h.pps.1;have hcl:=h.crs.1;refine ab call47 func47 144 ?_;refine fj (ew 3) trivial ?_;refine pe 2 ?_;refine pe 3 ?_;refine ci (st':=⟨144,[(2,.p 2 0),(3,.p 3 0)],[(2,.con r.cs),(3,.con r.cs)],[]⟩) ⟨[2,3],[2,3],[],[]⟩ rfl ?_;refine run ?_;refine bp ⟨[5,2,3],[2,3],[],[]⟩ (fun k:Nat=>k<=r.sls.length) (fun k=>r.sls.length-k) (fun k=>[(5,.v (vi k))]) 0 omq ?_;intro k hk;by_cases hlt:k<r.sls.length
 .obtain⟨x,hx,-,hm⟩:=ac hlt;have hs:=jcy (T:=T) x.fls x.fls (h.sls.2 x hm);rw[ur rfl] at hs;refine runD hx ?_;refine ma .nm (fun _:Unit=>True) (fun _=>⟨144,[(2,.p 2 0),(3,.p 3 0),(5,.v (vi k)),(6,.p 6 0),(7,.p 7 0)],[(6,.var x.cs),(7,.var x.cs),(2,.con r.cs),(3,.con r.cs)],[]⟩) ?_ ?_
  .intro E hE;refine bt qu2 ?_;refine am hx ?_
   try simp only[vf,vd,uz,bg,bn]
   repeat' (with_reducible refine ai ?_ ?_)
   all_goals refine hE () _ trivial ?_
   all_goals exact bl [6,7,2,3] [2,3,5,6,7] rfl rfl rfl (fun i k e=>by
    rw[af,af,af,af] at e;split at e
    .exact zt
    split at e
    .exact zt
    split at e
    .exact zt
    split at e
    .exact zt
    .cases e) rfl
  intro _ _
  show aw _ _ _ ⟨144,[(2,.p 2 0),(3,.p 3 0),(5,.v (vi k)),(6,.p 6 0),(7,.p 7 0)],[(6,.var x.cs),(7,.var x.cs),(2,.con r.cs),(3,.con r.cs)],[]⟩ _
  refine rc hs ?_;refine run ?_;exact zy
 refine run ?_;refine bp ⟨[8,2,3],[2,3],[],[]⟩ (fun k:Nat=>k<=r.pps.length) (fun k=>r.pps.length-k) (fun k=>[(8,.v (vi k))]) 0 omq ?_;intro k hk;by_cases hlt:k<r.pps.length
 .obtain⟨x,hx,-,hm⟩:=ac hlt;have hs:=jcy (T:=T) x.fls x.fls (h.pps.2 x hm);rw[ur rfl] at hs;refine runD hx ?_;refine ma .nm (fun _:Unit=>True) (fun _=>⟨144,[(2,.p 2 0),(3,.p 3 0),(8,.v (vi k)),(9,.p 9 0),(10,.p 10 0)],[(9,.var x.cs),(10,.var x.cs),(2,.con r.cs),(3,.con r.cs)],[]⟩) ?_ ?_
  .intro E hE;refine bt qu1 ?_;refine am hx ?_
   try simp only[vf,vd,uz,bg,bn]
   repeat' (with_reducible refine ai ?_ ?_)
   all_goals refine hE () _ trivial ?_
   all_goals exact bl [9,10,2,3] [2,3,8,9,10] rfl rfl rfl (fun i k e=>by
    rw[af,af,af,af] at e;split at e
    .exact zt
    split at e
    .exact zt
    split at e
    .exact zt
    split at e
    .exact zt
    .cases e) rfl
  intro _ _
  show aw _ _ _ ⟨144,[(2,.p 2 0),(3,.p 3 0),(8,.v (vi k)),(9,.p 9 0),(10,.p 10 0)],[(9,.var x.cs),(10,.var x.cs),(2,.con r.cs),(3,.con r.cs)],[]⟩ _
  refine rc hs ?_;refine run ?_;exact zy
 refine run ?_;refine bp ⟨[11,2,3],[2,3],[],[]⟩ (fun k:Nat=>k<=r.crs.length) (fun k=>r.crs.length-k) (fun k=>[(11,.v (vi k))]) 0 omq ?_;intro k hk;by_cases hlt:k<r.crs.length
 .obtain⟨x,hx,-,hm⟩:=ac hlt;refine rcW hx (jt6 x (h.crs.2 x hm).1) ?_;refine run ?_;exact zy
 exact za
theorem qn3(r:Rgs)(h:r.Fit):Den prog T 10 [.agg r.cs,.agg r.cs] (vb true):=by
 have hkl:=h.cks.1;have hal:=h.aps;have hdl:=h.dps;refine ab call10 func10 138 ?_;refine rc (qn1 r.ofs h.ofs.1 fun o ho=>(h.ofs.2 o ho).2) ?_;refine rc (qn0 r.pls h.pls.1 fun p hp=>⟨(h.pls.2 p hp).1,(h.pls.2 p hp).2.1⟩) ?_;refine rc (qn4 r.fls h.fls.1 h.fls.2) ?_;refine rc (qmz r.rls h.rls.1) ?_;refine rc (qn2 r.hls h.hls.1) ?_;refine rc (qeb r h) ?_;refine run ?_;refine bp ⟨[5,2,3],[2,3],[],[]⟩ (fun k:Nat=>k<=r.cks.length) (fun k=>r.cks.length-k) (fun k=>[(5,.v (vi k))]) 0 omq ?_;intro k hk;by_cases hlt:k<r.cks.length
 .exact zbw
 refine run ?_;refine bp ⟨[6,2,3],[2,3],[],[]⟩ (fun k:Nat=>k<=r.aps.length) (fun k=>r.aps.length-k) (fun k=>[(6,.v (vi k))]) 0 omq ?_;intro k hk;by_cases hlt:k<r.aps.length
 .exact zbw
 refine run ?_;refine bp ⟨[7,2,3],[2,3],[],[]⟩ (fun k:Nat=>k<=r.dps.length) (fun k=>r.dps.length-k) (fun k=>[(7,.v (vi k))]) 0 omq ?_;intro k hk;by_cases hlt:k<r.dps.length
 .exact zbw
 exact za
theorem qbw{P:Program}{c:Code}{st:St}{Q:AX->St->Prop}{cs:α->List V}{z:Nat}(hz:∀x,(cs x).length=z)(k id j:Nat){l:List α}{cap b:Nat}{kk':Option (TypeId×Nat×Nat)}{C:List V} 
  (h1:Ab.look k st.h=some (.var (l.map cs).flatten (some b) kk')) (h2:Ab.look id st.h=some (.var C none none)) (hne:id≠k) (h3:C[j]?=some (.val (.slice (some ⟨b,0,none⟩) l.length cap))) (h4:l.length<=cap) (h5:cap<=maxLen)
  (h:aw P T c ⟨st.n,st.t,seth id (.var (cz C j [.slice z (l.map cs)]) none none) (frz1 k (seth k (.var (l.map cs).flatten) st.h)),st.o⟩ Q):aw P T c st Q:=by
 refine qt5 k id j l.length cap z b (l.map cs).flatten C none none kk' h1 h2 hne h3 h4 h5 (by rw[jq hz];exact uv _) ?_;unfold fcSt;rw[jkm hz];exact h
theorem qls:ic.Fit:=
  { ofs:=⟨uq _,fun _ h=>nomatch h⟩,pls:=⟨uq _,fun _ h=>nomatch h⟩,fls:=⟨uq _,fun _ h=>nomatch h⟩,rls:=⟨uq _,fun _ h=>nomatch h⟩,hls:=⟨uq _,fun _ h=>nomatch h⟩
    cks:=⟨uq _,fun _ h=>nomatch h⟩,sls:=⟨uq _,fun _ h=>nomatch h⟩,pps:=⟨uq _,fun _ h=>nomatch h⟩,aps:=uq _,crs:=⟨uq _,fun _ h=>nomatch h⟩,dps:=uq _ }
theorem qe2(r:Rgs)(h:r.Fit)(hok:Ok14 r)(n d:Int):Den prog T 39 [.agg r.cs,vi n,vi d] (vb (apvB r n d)):=by
 have hl:=h.aps;have hcl:=h.cks.1;refine ab call39 func39 56 ?_;refine run ?_;refine bp ⟨[7,8,9,1,2,3],[3],[],[]⟩ (fun k:Nat=>k<=r.aps.length) (fun k=>r.aps.length-k) (fun k=>[(7,.v (vi (apvL r n d k).length)),(8,.v (vb ((apvL r n d k).any (arcA r)))),(9,.v (vi k))]) 0 (uq _) ?_;intro k hk;have hle:=jzi r n d k;by_cases hlt:k<r.aps.length
 .obtain⟨a,ha,-,-⟩:=ac hlt;obtain⟨p,-,hA⟩:=hok.apv ha;obtain⟨jc,c,hc1,hc2,hc3,hc4,hc5,hc6⟩:=hok.one hA.clk;have hck:=jj9 (T:=T) r.cks a.clk a.day hcl;rw[hc4] at hck;have hin:=fun hf=>qc1 (r:=r) (n:=n) (d:=d) ha hf;have hout:=fun hf=>jzh (r:=r) (n:=n) (d:=d) ha hf;have hac:arcA r a=decide (c.role=2):=hc6;obtain⟨X,hX⟩:∃X,apvL r n d k=X:=⟨_,rfl⟩;rw[hX] at hle hin hout;by_cases h1:a.prp=n
  .by_cases h2:a.day<=d
   .have hyes:=hin (by unfold forA;rw[ur h1,ur h2];rfl);have hyl:(apvL r n d (k+1)).length=X.length+1:=by rw[hyes,ve];rfl
    have hya:(apvL r n d (k+1)).any (arcA r)=(X.any (arcA r) || arcA r a):=by rw[hyes,qwm];simp
    cases hX2:X.any (arcA r)
    .by_cases h3:c.role=2
     .refine rcW (ai hX (ai ha (ai (uo h1) (ai (uo h2) hX2)))) hck ?_;refine runW (ai hc1 (uo h3)) ?_;refine round (k+1) hlt omq ?_;rw[hyl,hya,hX2,yb,hac,ur h3];rfl
     refine rcW (ai hX (ai ha (ai (uo h1) (ai (uo h2) hX2)))) hck ?_;refine runW (ai hc1 (un h3)) ?_;refine round (k+1) hlt omq ?_;rw[hyl,hya,hX2,yb,hac,ux h3];rfl
    refine runW (ai hX (ai ha (ai (uo h1) (ai (uo h2) hX2)))) ?_;refine round (k+1) hlt omq ?_;rw[hyl,hya,hX2,yj];rfl
   have hno:=hout (by unfold forA;rw[ux h2,xm];decide);refine runW (ai hX (ai ha (ai (uo h1) (un h2)))) ?_;refine round (k+1) hlt omq ?_;rw[hno];rfl
  exact zcf
 have hk:k=r.aps.length:=omq;subst hk;have he:apvL r n d r.aps.length=r.aps.filter (forA n d):=by unfold apvL;rw[vk]
 have hB:apvB r n d=(decide (2<=(apvL r n d r.aps.length).length) && (apvL r n d r.aps.length).any (arcA r)):=by rw[he];rfl
 rw[hB];obtain⟨X,hX⟩:∃X,apvL r n d r.aps.length=X:=⟨_,rfl⟩;rw[hX] at hle ⊢;by_cases h2:2<=X.length
 .refine runW hX ?_;exact zb5
 refine runW hX ?_;exact zb5
theorem js7(L:LibC T)(r:Rgs)(h:r.Fit)(n d:Int):Den prog T 9 [.agg r.cs,vi n,vi d] (vi (kg r n d)):=by
 have hck:=qfw L r h;have hpl:=h.pps.1;have hfl:=h.fls.1;have hfd:=jgf (T:=T) r.pps n hpl;obtain⟨E,hEE⟩:∃E,kg r n d=E:=⟨_,rfl⟩;rw[hEE];unfold kg at hEE;by_cases hz:ea r=0
 case neg=>
  rw[um hz] at hEE;subst hEE;refine ab call9 func9 69 ?_;refine rc hck ?_;exact zb2
 have hok:=jhb.1 hz;rw[ul (fun e=>e hz)] at hEE;rcases ly (ce n) r.pps with⟨h1,h2⟩|⟨k,p,h1,hk,hpx,hpm,h2⟩
 .rw[h2] at hEE;have hEE:(7:Int)=E:=hEE;subst hEE;rw[show iy r.pps n= -1 from h1] at hfd;refine ab call9 func9 69 ?_;refine rc hck ?_;refine rcW hz hfd ?_;exact za
 obtain⟨hid,-⟩:=jhh h2;rw[h2] at hEE;have hEE:(if dayG d=false then 2 else tn r p d)=E:=hEE;unfold tn at hEE;rw[hid] at hEE;rw[show iy r.pps n=(k:Int) from h1] at hfd;have hpf:=h.pps.2 p hpm;have hall:=(hok.prp hpx).all;refine ab call9 func9 69 ?_;refine rc hck ?_;refine rcW hz hfd ?_;refine rc (jmt d) ?_;cases hd:dayG d
 .rw[um hd] at hEE;subst hEE;exact za
 rw[ul (by rw[hd];decide)] at hEE;have hdd:=jc5 hd;by_cases c1:d<p.day
 .rw[um c1] at hEE;subst hEE;refine runW (ai hpx (uo c1)) ?_;exact fin rfl
 rw[ul c1] at hEE;by_cases c2:p.wdr<=d
 .rw[um (.inl c2)] at hEE;subst hEE;refine runW (ai hpx (ai (un c1) (uo c2))) ?_;exact fin rfl
 refine rcW (ai hpx (ai (un c1) (un c2))) (qix r h n) ?_;cases c3:ml r.crs n
 case true=>
  rw[um (.inr c3)] at hEE;subst hEE;exact za
 rw[ul (by rintro (e|e);exact c2 e;rw[c3] at e;cases e)] at hEE;refine rc (qe2 r h hok n d) ?_;cases c4:apvB r n d
 .rw[um c4] at hEE;subst hEE;exact za
 rw[ul (by rw[c4];decide)] at hEE;refine run ?_;refine aj ⟨[9,2,3,8],[8,3],[],[]⟩ p.fls.length (fun j=>∀f∈p.fls.take j,ij r d f=false) smq ?_;rintro j ⟨hj,hin⟩;by_cases hlt:j<p.fls.length
 .obtain⟨f,hf,-,hfm⟩:=ac hlt;have hhas:=vj.1 hall f hfm
  have hff:¬cv r.fls f<0:=by
   have:=jg9 r.fls f;rw[hhas] at this;intro e;rw[ur e] at this;cases this
  obtain⟨i,q1,q2,q3,q4,q5⟩:=jhj hff;have hFind:=jfk (T:=T) r.fls f hfl;rw[q1] at hFind;have hDec:=qep (T:=T) L r (filA r f) d h (jpv hok.g) q4 hdd.2;have hon:=qts (id:=f) hok.g hff hd
  have hkp:ij r d f= !decide ((vdt r (filA r f) d).kind=8):=by
   unfold ij onV;rw[um hon,hon];rfl
  obtain⟨w,hw⟩:∃w,vdt r (filA r f) d=w:=⟨_,rfl⟩;rw[hw] at hDec hkp;obtain⟨x,hxx⟩:∃x,filA r f=x:=⟨_,rfl⟩;rw[hxx] at hDec q3;refine rcW hf hFind ?_;refine rcW q3 hDec ?_;by_cases h8:w.kind=8
  .rw[ur h8] at hkp;refine runW (uo h8) ?_;exact round (j+1) ⟨hlt,an (q:=fun f=>ij r d f=false) hin hf hkp⟩ omq
  rw[ux h8] at hkp;have hany:p.fls.any (ij r d)=true:=vp.2 ⟨f,hfm,hkp⟩;rw[um hany] at hEE;subst hEE;refine runW (un h8) ?_;exact fin rfl
 have hany:p.fls.any (ij r d)=false:=vn.2 fun f hf=>by rw[dh hin hlt f hf];decide
 rw[ul (by rw[hany];decide)] at hEE;subst hEE;exact za
abbrev qd9:List Gent:=gd 5 [[0,0,0,0],[1,1,0,0],[3,2,0,0,0,0],[7,3,0,0,0,0],[15,4,0,0,0,0],[31]]
theorem qeo(L:LibC T)(r:Rgs)(h:r.Fit)(n d:Int)(hcr:r.crs.length<1024)(h12:∀p∈r.pps,p.fls.length<=256):Den prog T 7 [.agg r.cs,vi n,vi d] (.tup [.agg (desR r n d).1.cs,.agg (desR r n d).2.1.cs,vi (desR r n d).2.2]):=by
 have hrd:=js7 L r h n d;have hpl:=h.pps.1;have hdl:=h.dps;have hkl:=h.crs.1;have hC:=qgx (T:=T) r h 2
 have bad:∀e,desE r n d=e->e≠0->desR r n d=(ic,crtZ,e):=fun e h1 h2=>by
  unfold desR;rw[um (by rw[h1];exact h2),h1]
 refine ab call7 func7 100 ?_;refine rc hrd ?_;by_cases hz:kg r n d=0
 case neg=>
  rw[bad _ (by unfold desE;rw[um hz]) hz];refine runW (un hz) ?_;exact finW (tf _)
 obtain⟨p,hR⟩:=jg5.1 hz;have hfp:=hR.fp;rcases ly (ce n) r.pps with⟨-,h2⟩|⟨k,p',h1,hk,hx,hpm,h2⟩
 .rw[h2] at hfp;cases hfp
 obtain rfl:p'=p:=by rw[h2] at hfp;exact xf hfp
 have hfd:=jgf (T:=T) r.pps n hpl;rw[show iy r.pps n=(k:Int) from h1] at hfd;have hfl:=h.pps.2 p' hpm
 have hE0:desE r n d=if mg (aq r.crs r.crs.length) d=true then 5 else if r.dps.any (depB p'.fls)=true then 6 else 0:=by
  unfold desE;rw[ul (fun e=>e hz),hfp]
 refine runW hz ?_;apply jeb (mg (aq r.crs r.crs.length) d=false) ⟨100,[(1,.v (vi n)),(2,.v (vi d)),(3,.p 3 0),(6,.p 6 0),(7,.p 7 0),(10,.v (vi r.crs.length))],[(7,.var gj),(6,.var zc12),(3,.var r.cs)],[]⟩
 .intro tail;by_cases h0:r.crs.length=0
  .have hl:mg (aq r.crs r.crs.length) d=false:=by unfold aq;rw[um h0];rfl
   have h0':¬(0:Int)<(r.crs.length:Int):=omq;refine fj (ew 7) (un h0') ?_;refine tail _ hl ?_;exact bl [7,6,3] [1,2,3,6,7,10] rfl rfl rfl (fun _ _ e=>e) rfl
  obtain⟨q,hq,-,-⟩:=ac (l:=r.crs) (k:=r.crs.length-1) omq;have hl:mg (aq r.crs r.crs.length) d=decide (d<q.day):=by unfold aq;rw[ul h0,hq];rfl
  have h0':(0:Int)<(r.crs.length:Int):=omq;by_cases hdq:d<q.day
  .rw[bad 5 (by rw[hE0,hl,ur hdq];rfl) dcq];refine runW (ai (uo h0') (ai hq (uo hdq))) ?_;exact finW (tf _)
  refine fj (ew 7) (ai (uo h0') (ai hq (un hdq))) ?_;refine tail _ (by rw[hl,ux hdq]) ?_;exact bl [7,6,3] [1,2,3,6,7,10] rfl rfl rfl (fun _ _ e=>e) rfl
 intro hl;have hE:desE r n d=if r.dps.any (depB p'.fls)=true then 6 else 0:=by rw[hE0,ul (by rw[hl];decide)]
 refine run ?_;refine aj ⟨[11,1,2,3,6,7,10],[3,6,7],[],[]⟩ r.dps.length (fun j=>∀x∈r.dps.take j,depB p'.fls x=false) smq ?_;rintro j ⟨hj,hall⟩;by_cases hlt:j<r.dps.length
 .obtain⟨x,hxj,-,hxm⟩:=ac hlt;refine rc hfd ?_;refine rcW (ai hx hxj) (jwy p'.fls x.fil hfl) ?_;cases hb:hasI x.fil p'.fls
  .refine run ?_;exact round (j+1) ⟨hlt,an (q:=fun x=>depB p'.fls x=false) hall hxj hb⟩ omq
  have hany:r.dps.any (depB p'.fls)=true:=vp.2 ⟨x,hxm,hb⟩;rw[bad 6 (by rw[hE,um hany]) dcq];refine runW rv ?_;exact finW (tf _)
 have hany:r.dps.any (depB p'.fls)=false:=vn.2 fun x hx=>by rw[dh hall hlt x hx];decide
 rw[hany,ul dcq] at hE;obtain⟨q0,hD⟩:=jms.1 hE;obtain rfl:q0=p':=by have:=hD.rdy.fp;rw[hfp] at this;exact(xf this).symm
 obtain⟨hB,hok⟩:=hD.ok hcr (h12 q0 hpm);have hdr:desR r n d=(morC r (newD r n d q0.fls),newD r n d q0.fls,0):=by unfold desR;rw[ul (fun e=>e hE),jgw hfp]
 rw[hdr];have hbl:(befC r.crs r.crs.length).length=32:=jhp hR.ok;have hdg:=js9 (T:=T) (newC r n d q0.fls) hfl zfb;rw[ji1 ((jea _).1 hB)] at hdg;have hla:=juk (T:=T) r.crs hkl;have hlb:r.crs.length<1048576:=omq;refine rc hfd ?_;refine rcW hx (jd6 q0 hfl) ?_;refine rc hla ?_;refine fj (ew 13) trivial ?_;refine ci (st':=⟨100,[(3,.p 3 0),(6,.p 6 0),(7,.p 7 0),(12,.p 12 0)],[(3,.var r.cs),(6,.var zc12),(7,.var gj),(12,.var (newC r n d q0.fls).cs)],[]⟩) ⟨[3,6,7,12],[3,6,7,12],[],[]⟩ rfl ?_;refine rc hdg ?_;have hu:∃u,newD r n d q0.fls=u:=⟨_,rfl⟩;refine fj (ew 14) trivial ?_;refine ci (st':=⟨100,[(3,.p 3 0),(6,.p 6 0),(7,.p 7 0),(12,.p 12 0)],[(3,.var r.cs),(6,.var zc12),(7,.var gj),(12,.var (newD r n d q0.fls).cs)],[]⟩) ⟨[3,6,7,12],[3,6,7,12],[],[]⟩ rfl ?_;obtain⟨u,hu⟩:=hu;rw[hu];have hrow:(r.crs.map Crt.cs).flatten++[Crt.cs u].flatten=((r.crs++[u]).map Crt.cs).flatten:=by rw[vy,qwk];rfl
 have hw:=jq (cs:=Crt.cs) (z:=6) (fun _=>rfl) r.crs;have hlen:r.crs.length+[Crt.cs u].length=(r.crs++[u]).length:=by rw[ve];rfl
 have zk:gj.length=6/\gj.drop 6=[]/\∀v:List V,gj.take 0++v++gj.drop 6=v:=⟨rfl,rfl,fun v=>vw v⟩;refine run ?_;refine mo (jio 91 hC ?_ ?_)
 .rintro rr ⟨s,hs,hro,rfl⟩;have hs0:s=none:=by cases s with|none=>rfl|some z=>cases hro
  subst hs0;have hnil:r.crs=[]:=xu hs;have hrow0:([]:List V)++[Crt.cs u].flatten=((r.crs++[u]).map Crt.cs).flatten:=by rw[hnil];rfl
  have hlen0:0+[Crt.cs u].length=(r.crs++[u]).length:=by rw[hnil];rfl
  simp only[cs_k,sOpt,slO];refine runB (ai au (ai av ag)) ?_;refine mb ?_;unfold appR;refine runB (ai au (ai av ag)) ?_;intro r' cap' hnm h1 h2;rw[hrow0,hlen0];rw[hlen0] at h1;refine runD (ai au (ai av ag)) ?_;apply qbw (cs:=Crt.cs) (z:=6) (fun _=>rfl) 96 13 9 (hne:=by decide) (h4:=h1) (h5:=h2)
  .rfl
  .rfl
  .rfl
  refine pe 12 ?_;refine pe 13 ?_;refine ci (st':=⟨100,[(6,.p 6 0),(7,.p 7 0),(12,.p 12 0),(13,.p 13 0)],[(6,.var zc12),(7,.var gj),(12,.con u.cs),(13,.con (morC r u).cs)],[]⟩) ⟨[6,7,12,13],[6,7,12,13],[],[]⟩ rfl ?_;refine bt qd9 ?_;refine il (fun _:Unit=>True) ⟨[6,7,8],[6,7],[],[]⟩ (fun _=>⟨100,[(6,.p 6 0),(7,.p 7 0),(8,.v (vi 0))],[(6,.var (morC r u).cs),(7,.var u.cs)],[]⟩) (fun st st' hk h=>ci _ hk h) ?_ (fun K' hK=>?_)
  rotate_left
  .refine am (ai rv zk) ?_
   try simp only[vf,vd,uz,bg,bn]
   repeat' (with_reducible refine ai ?_ ?_)
   all_goals exact gk hK () trivial
  intro _ _;exact za
 rintro b rr ⟨s,hs,hro,rfl⟩ hnm;obtain⟨⟨q,c⟩,rfl⟩:∃x,s=some x:=by cases s with|none=>cases hro|some z=>exact⟨z,rfl⟩
 cases hro;obtain⟨hc1,hc2⟩:r.crs.length<=c/\c<=maxLen:=hs;simp only[cs_k,sOpt,slO];refine runB (ai au (ai av ag)) ?_;refine mb ?_;unfold appR;refine runB (ai hw (ai au (ai av ag))) ?_;refine⟨.inr trivial,?_⟩;intro r' cap' hnm h1 h2;rw[hrow,hlen];rw[hlen] at h1;refine runD (ai au (ai av ag)) ?_;apply qbw (cs:=Crt.cs) (z:=6) (fun _=>rfl) 96 13 9 (hne:=by decide) (h4:=h1) (h5:=h2)
 .rfl
 .rfl
 .rfl
 refine pe 12 ?_;refine pe 13 ?_;refine ci (st':=⟨100,[(6,.p 6 0),(7,.p 7 0),(12,.p 12 0),(13,.p 13 0)],[(6,.var zc12),(7,.var gj),(12,.con u.cs),(13,.con (morC r u).cs)],[]⟩) ⟨[6,7,12,13],[6,7,12,13],[],[]⟩ rfl ?_;refine bt qd9 ?_;refine il (fun _:Unit=>True) ⟨[6,7,8],[6,7],[],[]⟩ (fun _=>⟨100,[(6,.p 6 0),(7,.p 7 0),(8,.v (vi 0))],[(6,.var (morC r u).cs),(7,.var u.cs)],[]⟩) (fun st st' hk h=>ci _ hk h) ?_ (fun K' hK=>?_)
 rotate_left
 .refine am (ai rv zk) ?_
  try simp only[vf,vd,uz,bg,bn]
  repeat' (with_reducible refine ai ?_ ?_)
  all_goals exact gk hK () trivial
 intro _ _;exact za
theorem qpm{r:Rgs}(h:r.Fit){n d:Int}(hcr:r.crs.length<1048576):(desR r n d).1.Fit/\(desR r n d).2.1.fls.length<=1048576:=by
 unfold desR;by_cases h0:desE r n d≠0
 .rw[um h0];exact⟨qls,uq _⟩
 rw[ul h0];obtain⟨p,hD⟩:=jms.1 (qwo.1 h0);have hfl:=h.pps.2 p (qv5 hD.rdy.fp);rw[jgw hD.rdy.fp];have hbl:(befC r.crs r.crs.length).length=32:=jhp hD.rdy.ok;exact⟨jyk h ⟨hfl,by show (befC r.crs r.crs.length).length<=1048576;omega,by show (sumD _).length<=1048576;rw[jdv];decide⟩ hcr,hfl⟩
theorem qdj(L:LibT T)(r:Rgs)(n d:Int)(h:r.Fit):Den prog T 3 [.agg r.cs,vi n,vi d] (vb true):=by
 have LC:=libC L;have hfw:=qna (T:=T) r h;refine ab call3 func3 58 ?_;refine rc (qgp L) ?_;refine rc hfw ?_;cases hf:jf7 r
 .exact za
 have hF:=qpp hf;have hcl:r.crs.length<1048576:=by have:=hF.crs;show _<1048576;omega
 have hc8:=hF.crs;have h12:∀p∈r.pps,p.fls.length<=256:=fun q hq=>by have:=hF.fls q hq;omega
 have c1:=jta L r h n d hcl;rw[qbg n d omq h12] at c1;have c2:=qeo LC r h n d omq h12;have c3:=jja L r h n d;have c4:=js7 LC r h n d;obtain⟨f1,f2⟩:=qpm (n:=n) (d:=d) h hcl;have c5:=qn3 (T:=T) _ f1;have c6:=jt6 (T:=T) _ f2;obtain⟨X,hX⟩:∃X,desR r n d=X:=⟨_,rfl⟩;rw[hX] at c1 c2 c5 c6;obtain⟨x,c,e⟩:=X;refine rc c1 ?_;refine rc c2 ?_;refine rc c3 ?_;refine rc c4 ?_;refine rc c5 ?_;refine rc c6 ?_;exact za
end Go.Arc
