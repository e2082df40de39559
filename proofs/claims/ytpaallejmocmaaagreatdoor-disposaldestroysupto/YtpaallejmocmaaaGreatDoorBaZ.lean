/- A part of this claim. -/
import Derived.Test.YtpaallejmocmaaaGreatDoorW83
import Derived.Shelf.Sort.Plain
import Derived.Test.YtpaallejmocmaaaGreatDoorW149
set_option maxHeartbeats 4000000
set_option maxRecDepth 100000
namespace Go.Arc
open Go.Ab Go.RowKit Go.Proofs Tryz
variable {T : Lay}
variable {r:Rgs}
theorem qrc{l m:List V}(h:Wks l m):Wk (.tup l) (.tup m):=.tup h.len fun j v u e1 e2=>by
 obtain⟨v',h1,h2⟩:=h.get e2;rw[e1] at h1;cases h1;exact h2
theorem jw7(x:Int)(r:List Int):fstE (x::r)=if x≠0 then x else fstE r:=rfl
theorem jyg:∀a b:List Int,fstE (a++b)=if fstE a≠0 then fstE a else fstE b
 |[],b=>by rw[List.nil_append,ul (fun e=>e rfl)]
 |x::a,b=>by
  have ih:=jyg a b;rw[List.cons_append,jw7,jw7];by_cases h:x≠0
  .rw[um h,um h,um h]
  rw[ul h,ul h];exact ih
def lstK(r:Rgs):Nat->List Elm
 |0=>selE r
 |1=>crtE r
 |_=>depE r
def preK(r:Rgs):Nat->List Elm
 |0=>[]
 |1=>selE r
 |_=>selE r++crtE r
def errK(r:Rgs)(k:Nat):Int×Int:=(0,cm r.fls (preK r k) (lstK r k))
def psK(r:Rgs):Nat->List (Int×Bool)
 |0=>[]
 |k+1=>if 1024<(lstK r k).length then psK r k else elsM r.fls (preK r k) none (psK r k) (lstK r k)
theorem qni(r:Rgs):checkG r=if jel r≠0 then jel r else fstE ((List.range' 0 3).map fun j=>(errK r j).2):=jyg [(fy r.ofs).2,(check r.pls).2,(jr r.ofs r.pls r.fls).2,(fh r.rls).2,(ji r.hls).2] [cm r.fls [] (selE r),cm r.fls (selE r) (crtE r),cm r.fls (selE r++crtE r) (depE r)]
theorem qp6{fs:List Fil}{pre l:List Elm}(h:cm fs pre l=0):l.length<=1024/\elsE fs pre none l=0:=by
 unfold cm at h;by_cases hb:1024<l.length
 .rw[um hb] at h;cases h
 rw[ul hb] at h;exact⟨omq,h⟩
theorem qa0(r:Rgs):∀k,k<3->(∀j,j<k->(errK r j).2=0)->∀n,getG (psK r k) n=ax (preK r k) n
 |0,_,_=>fun n=>rfl
 |k+1,hk,h=>by
  have h0:=h k (Nat.lt_succ_self k);obtain⟨h1,h2⟩:=qp6 h0;have ih:=qa0 r k omq fun j hj=>h j omq;unfold psK;rw[ul omq];intro n;rw[jyq r.fls _ _ _ _ ih h2]
  match k,hk with
  |0,_=>rfl
  |1,_=>rfl
theorem qp4(h:r.Fit)(k:Nat):(lstK r k).length<=1048576/\∀x∈lstK r k,x.fls.length<=1048576:=by
 match k with
 | 0=>exact ⟨by show (selE r).length<=1048576; unfold selE; rw[ut]; exact h.sls.1,fun x hx=>by
   obtain⟨s,hs,rfl⟩:=xi.1 hx;exact h.sls.2 s hs⟩
 | 1=>exact ⟨by show (crtE r).length<=1048576; unfold crtE; rw[ut]; exact h.crs.1,fun x hx=>by
   obtain⟨s,hs,rfl⟩:=xi.1 hx;exact(h.crs.2 s hs).1⟩
 | n+2=>exact ⟨by show (depE r).length<=1048576; unfold depE; rw[ut]; exact h.dps,fun x hx=>by
   obtain⟨s,hs,rfl⟩:=xi.1 hx;show [s.fil].length<=1048576;simp⟩
theorem juq(L:LibC T)(r:Rgs)(h:r.Fit):Den prog T 53 [.agg r.cs] (vi (checkG r)):=by
 have hs:=h.sls.1;have hc:=h.crs.1;have hd:=h.dps;rw[qni];refine ab call53 func53 93 ?_;refine rc (qmc L r h) ?_;by_cases h0:jel r=0
 .rw[ul (by rw[h0];decide)];refine runW h0 ?_
  refine loop ⟨[1,4,5,6,23,24,25],[1],[4],[(4,161,4)]⟩ (fun k:Nat=>k<=r.sls.length) (fun k=>r.sls.length-k)
   (fun k=>⟨93,[(1,.p 1 0),(4,.v (elms ((r.sls.take k).map Sel.el))),(5,.v (.val (.slice none 0 0))),(6,.v (.val (.slice none 0 0))),(23,.v (sels r.sls)),(24,.v (vi r.sls.length)),(25,.v (vi k))],[(1,.var r.cs)],[(161,[4])]⟩) 0 (uq _) ?_
  intro k hk;by_cases hlt:k<r.sls.length
  .obtain⟨x,hx,-,-⟩:=ac hlt
   have hts:((r.sls.take k).map Sel.el).map Elm.cs++[[vi x.smp,vi x.day,ints x.fls,vb false]]=((r.sls.take (k+1)).map Sel.el).map Elm.cs:=by
    exact z9
   refine runW (ai hx hts) ?_;exact ze
  have hkl:k=r.sls.length:=omq;subst hkl;rw[vk];obtain⟨S,hS⟩:∃S,r.sls.map Sel.el=S:=⟨_,rfl⟩;rw[hS];refine run ?_
  refine loop ⟨[1,4,5,6,41,42,43],[1],[5],[(5,161,4)]⟩ (fun k:Nat=>k<=r.crs.length) (fun k=>r.crs.length-k)
   (fun k=>⟨93,[(1,.p 1 0),(4,.v (elms S)),(5,.v (elms ((r.crs.take k).map Crt.el))),(6,.v (.val (.slice none 0 0))),(41,.v (crts r.crs)),(42,.v (vi r.crs.length)),(43,.v (vi k))],[(1,.var r.cs)],[(161,[5])]⟩) 0 (uq _) ?_
  intro k hk;by_cases hlt:k<r.crs.length
  .obtain⟨x,hx,-,-⟩:=ac hlt
   have hts:((r.crs.take k).map Crt.el).map Elm.cs++[[vi x.num,vi x.day,ints x.fls,vb true]]=((r.crs.take (k+1)).map Crt.el).map Elm.cs:=by
    exact z9
   refine runW (ai hx hts) ?_;exact ze
  have hkl:k=r.crs.length:=omq;subst hkl;rw[vk];obtain⟨C,hC⟩:∃C,r.crs.map Crt.el=C:=⟨_,rfl⟩;rw[hC];refine run ?_
  refine loop ⟨[1,4,5,6,59,60,61],[1],[6],[(6,161,4)]⟩ (fun k:Nat=>k<=r.dps.length) (fun k=>r.dps.length-k)
   (fun k=>⟨93,[(1,.p 1 0),(4,.v (elms S)),(5,.v (elms C)),(6,.v (elms ((r.dps.take k).map Dep.el))),(59,.v (deps r.dps)),(60,.v (vi r.dps.length)),(61,.v (vi k))],[(1,.var r.cs)],[(161,[6])]⟩) 0 (uq _) ?_
  intro k hk;by_cases hlt:k<r.dps.length
  .obtain⟨x,hx,-,-⟩:=ac hlt
   have hts:((r.dps.take k).map Dep.el).map Elm.cs++[[vi 1,vi x.day,.slice 1 [[vi x.fil]],vb true]]=((r.dps.take (k+1)).map Dep.el).map Elm.cs:=by
    exact z9
   refine runW (ai hx hts) ?_;exact ze
  have hkl:k=r.dps.length:=omq;subst hkl;rw[vk];obtain⟨D,hD⟩:∃D,r.dps.map Dep.el=D:=⟨_,rfl⟩;rw[hD]
  have hrow:∀k,k<3->[[elms S],[elms C],[elms D]][k]?=some [elms (lstK r k)]:=fun k hk=>by
   rw[<- hS,<- hC,<- hD]
   match k,hk with
   |0,_=>rfl
   |1,_=>rfl
   |2,_=>rfl
  refine run ?_;refine jp5 75 ?_;intro b hb;clear hb;obtain⟨R,hR⟩:∃R,[[elms S],[elms C],[elms D]]=R:=⟨_,rfl⟩;have hRl:R.length=3:=by rw[<- hR];rfl
  rw[hR] at hrow
  refine loop ⟨[1,13,79,80,81],[1,75],[],[]⟩ (fun k:Nat=>k<=3/\∀j,j<k->(errK r j).2=0) (fun k=>3-k)
   (fun k=>⟨93,[(1,.p 1 0),(13,.m 75),(79,.v (.slice 1 R)),(80,.v (vi 3)),(81,.v (vi k))],[(1,.var r.cs),(75,.map (mapG (psK r k)) (some b))],[]⟩) 0 ⟨dcq,fun j hj=>absurd hj (yf j)⟩ ?_ (by rw[<- hR];rfl)
  rintro k ⟨hk,hall⟩;by_cases hlt:k<3
  .have hkR:k<R.length:=omq;have hg:=hrow k hlt;have hfit:=qp4 h k;have hps:=qa0 r k hlt hall;refine runW hg ?_;have hden:=qf5 (T:=T) r h (lstK r k) hfit.1 hfit.2 (preK r k) (psK r k) hps b;rw[show (if 1024<(lstK r k).length then psK r k else elsM r.fls (preK r k) none (psK r k) (lstK r k))=psK r (k+1) from rfl,show cm r.fls (preK r k) (lstK r k)=(errK r k).2 from rfl] at hden;refine rl [(999000,75)] hden (.cons (.v _) (.cons (.v _) (.cons (.m rfl) .nil))) ?_ ?_
   .intro y hy;simp only[xy] at hy;subst hy;exact⟨75,_,rfl,rfl,rfl,.inr rfl,rfl⟩
   by_cases hz:(errK r k).2=0
   .refine runW hz ?_;refine round (k+1) ⟨hlt,fun j hj=>?_⟩ omq;by_cases hjk:j=k
    .subst hjk;exact hz
    exact hall j omq
   refine runW hz ?_;refine fin (ah ?_);have:=jq6 (errK r) 3 k 0 hlt (fun j hj=>by rw[vx];exact hall j hj) (by rw[vx];exact hz);rw[this,vx]
  refine run ?_;refine fin (ah ?_);exact(jol (errK r) 3 0 fun j hj=>by rw[vx];exact hall j omq).symm
 rw[um h0];refine runW h0 ?_;exact fin rfl
abbrev filZ:List V:=[vi 0,vi 0,vi 0,vi 0,.str [],.str [],vi 0,.val (.slice none 0 0)]
theorem qiv(L:LibC T)(r:Rgs)(h:r.Fit)(id:Int):Den prog T 140 [.agg r.cs,vi id] (if askE r id=0 then .tup [.agg (filA r id).cs,vi 0] else .tup [.agg filZ,vi (askE r id)]):=by
 have hf:=h.fls.1;refine ab call140 func140 23 ?_;refine rc (juq L r h) ?_;by_cases h1:checkG r=0
 .refine rcW h1 (jlc r.fls id hf) ?_;by_cases h2:cv r.fls id<0
  .rw[quw h1 h2,ul dcq];refine runW (uo h2) ?_;exact fin rfl
  obtain⟨k,hk,hlt,hx,-,-⟩:=jhj h2;rw[qd2 h1 h2,um rfl];have h2':¬((k:Int)<0):=omq;rw[hk];refine runW (ai hx (un h2')) ?_;exact fin rfl
 rw[qux h1,ul dcq];refine runW h1 ?_;exact fin rfl
theorem jzo(e:Int):Wk (.tup [.agg (vcs 0 0 0 0 0 (.val (.slice none 0 0))),vi e]) (.tup [.agg vdtZ.cs,vi e]):=qrc (.cons (ee 0 0 0 0 0) (.cons (.refl _) .nil))
theorem qsk(L:LibC T)(r:Rgs)(f:Fil)(d:Int)(hr:r.Fit)(hf:f.Fit):Den prog T 143 [.agg (jaz r f d).cs] (.agg (vdt r f d).cs):=by
 rw[<- vdt_L];exact qiy L (jaz r f d) hr hf (xa (jd9 r f d) hr.rls.1)
theorem quk(L:LibC T)(r:Rgs)(h:r.Fit)(id d:Int):Den prog T 85 [.agg r.cs,vi id,vi d] (.tup [.agg (onV r id d).cs,vi (onE r id d)]):=by
 refine ab call85 func85 29 ?_;refine rc (qiv L r h id) ?_;unfold onV;by_cases h0:askE r id=0
 .rw[um h0];obtain⟨h1,h2⟩:=qd1 h0;have hfit:=qpo h h2;have hg:=(jpv h1).goodR;refine rc (jsy d) ?_;cases hd:dayG d
  .have he:onE r id d=2:=by unfold onE;rw[ul (fun e=>e h0),um hd]
   rw[he,ul dcq];refine run ?_;exact finW (jzo 2)
  have he:onE r id d=0:=by unfold onE;rw[ul (fun e=>e h0),ul (by rw[hd];decide)]
  rw[he,um rfl];refine rc (qgi L r (filA r id) d h hfit hg) ?_;refine rc (qsk L r (filA r id) d h hfit) ?_;exact za
 have he:onE r id d=askE r id:=by unfold onE;rw[um h0]
 rw[ul h0,he,ul h0];refine runW h0 ?_;exact finW (jzo _)
theorem jxr{f:Fil}{d:Int}(h0:state f d≠0)(h1:gone1 r f d=false)(h2:gone2 r f d=false)(hl:ao r f d≠[])(hs:state f d≠1)(hk:(ao r f d).find? gl=none):vdt r f d=timV r f d (ao r f d):=by
 unfold vdt timV;simp only[h0,h1,h2,hl,hs,va,vq,hk];cases (ao r f d).find? (ct f d)<;>rfl
theorem qep(L:LibC T)(r:Rgs)(f:Fil)(d:Int)(hr:r.Fit)(hok:OkG r)(hfm:f∈r.fls)(hd:d<=1048575):Den prog T 40 [.agg r.cs,.agg f.cs,vi d] (.agg (vdt r f d).cs):=by
 have hf:=hr.fls.2 f hfm;have hgo:=hok.gone f;have hc:=hr.crs.1;have hdp:=hr.dps;refine ab call40 func40 84 ?_;by_cases hop:d<f.opn
 .have hs0:state f d=0:=um hop;have hv:vdt r f d=⟨0,f.id,d,0,0,[]⟩:=by unfold vdt;simp only[hs0,uy]
  rw[hv];refine runW (uo hop) ?_;exact zbk
 have hs0:state f d≠0:=by
  unfold state;rw[ul hop];split<;>decide
 refine rcW (un hop) (je8 r hr f.id r.crs.length r.dps.length (uv _) (uv _)) ?_
 have key:∀(t by':Int),dm r f.id r.crs.length r.dps.length=(t,by')->(by'≠0/\t<=d->vdt r f d=⟨by',f.id,d,0,0,[]⟩)/\(¬(by'≠0/\t<=d)->gone1 r f d=false/\gone2 r f d=false):=fun t by' he=>by
  rcases hgo with⟨t1,e1,e2⟩|⟨t1,e1,e2⟩|⟨e1,e2⟩
  .rw[he] at e1;cases e1;obtain⟨a1,a2⟩:=e2 d;refine⟨fun h=>?_,fun h=>?_⟩
   .rw[ur h.2] at a1;unfold vdt;simp only[hs0,a1,uy,va]
   have:¬t<=d:=fun e=>h ⟨dcq,e⟩;rw[ux this] at a1;exact⟨a1,a2⟩
  .rw[he] at e1;cases e1;obtain⟨a1,a2⟩:=e2 d;refine⟨fun h=>?_,fun h=>?_⟩
   .rw[ur h.2] at a2;unfold vdt;simp only[hs0,a1,a2,uy,va,vq]
   have:¬t<=d:=fun e=>h ⟨dcq,e⟩;rw[ux this] at a2;exact⟨a1,a2⟩
  rw[he] at e1;cases e1;exact⟨fun h=>absurd rfl h.1,fun _=>e2 d⟩
 obtain⟨⟨t,by'⟩,he⟩:∃y,dm r f.id r.crs.length r.dps.length=y:=⟨_,rfl⟩;obtain⟨k1,k2⟩:=key t by' he
 rw[he];by_cases hb:by'=0
 .obtain⟨g1,g2⟩:=k2 fun e=>e.1 hb;refine runW hb ?_;refine uh (js6 L r f d hr hf hok.goodR hok.goodL) ?_;by_cases hnil:ao r f d=[]
  .have hv:vdt r f d=⟨0,f.id,d,0,0,[]⟩:=by unfold vdt;simp only[hs0,g1,g2,hnil,uy,va,vq]
   rw[hv,hnil];exact zd5
  have hlp:=xj.2 hnil;have hmem:∀q∈ao r f d,q∈r.rls:=fun q h=>jg3 h;have hlen:=jd9 r f d;have hrb:=hr.rls.1;by_cases hst:state f d=1
  .have hv:vdt r f d=⟨3,f.id,d,0,0,[]⟩:=by
    unfold vdt;simp only[g1,g2,hnil,va,vq];rw[ul hs0,um hst]
   rw[hv];have hz:¬((ao r f d).length:Int)=0:=omq;exact zb8
  have htv:=fun hk=>jxr (r:=r) (f:=f) (d:=d) hs0 g1 g2 hnil hst hk;have hkv:∀q,(ao r f d).find? gl=some q->vdt r f d=⟨4,f.id,d,q.id,0,[]⟩:=fun q hq=>by unfold vdt;simp only[hs0,g1,g2,hnil,hst,va,vq,hq]
  obtain⟨rs,hrs⟩:∃rs,ao r f d=rs:=⟨_,rfl⟩;rw[hrs] at hlp hmem hlen htv hkv hnil ⊢;have hz:¬(rs.length:Int)=0:=omq;refine rcW (un hz) (jfj f d) ?_;refine runW (un hst) ?_;refine aj ⟨[11,2,3,4,6,7,10],[3,4,6,7],[],[]⟩ rs.length (fun k=>∀q∈rs.take k,gl q=false) smq ?_;rintro k ⟨hk,hall⟩;by_cases hlt:k<rs.length
  .obtain⟨x,hx,-,hm⟩:=ac hlt;by_cases ha:x.act=3
   .exact zj
   exact zc3
  exact zc8
 by_cases ht:t<=d
 .rw[k1 ⟨hb,ht⟩];refine runW (ai hb (uo ht)) ?_;exact zbk
 obtain⟨g1,g2⟩:=k2 fun e=>ht e.2;refine runW (ai hb (un ht)) ?_;refine uh (js6 L r f d hr hf hok.goodR hok.goodL) ?_;by_cases hnil:ao r f d=[]
 .have hv:vdt r f d=⟨0,f.id,d,0,0,[]⟩:=by unfold vdt;simp only[hs0,g1,g2,hnil,uy,va,vq]
  rw[hv,hnil];exact zd5
 have hlp:=xj.2 hnil;have hmem:∀q∈ao r f d,q∈r.rls:=fun q h=>jg3 h;have hlen:=jd9 r f d;have hrb:=hr.rls.1;by_cases hst:state f d=1
 .have hv:vdt r f d=⟨3,f.id,d,0,0,[]⟩:=by
   unfold vdt;simp only[g1,g2,hnil,va,vq];rw[ul hs0,um hst]
  rw[hv];have hz:¬((ao r f d).length:Int)=0:=omq;exact zb8
 have htv:=fun hk=>jxr (r:=r) (f:=f) (d:=d) hs0 g1 g2 hnil hst hk;have hkv:∀q,(ao r f d).find? gl=some q->vdt r f d=⟨4,f.id,d,q.id,0,[]⟩:=fun q hq=>by unfold vdt;simp only[hs0,g1,g2,hnil,hst,va,vq,hq]
 obtain⟨rs,hrs⟩:∃rs,ao r f d=rs:=⟨_,rfl⟩;rw[hrs] at hlp hmem hlen htv hkv hnil ⊢;have hz:¬(rs.length:Int)=0:=omq;refine rcW (un hz) (jfj f d) ?_;refine runW (un hst) ?_;refine aj ⟨[11,2,3,4,6,7,10],[3,4,6,7],[],[]⟩ rs.length (fun k=>∀q∈rs.take k,gl q=false) smq ?_;rintro k ⟨hk,hall⟩;by_cases hlt:k<rs.length
 .obtain⟨x,hx,-,hm⟩:=ac hlt;by_cases ha:x.act=3
  .exact zj
  exact zc3
 exact zc8
inductive WkR (size:Nat):List (List V)->List (List V)->Prop
 |nil:WkR size [] []
 |cons {a b:List V} {l m:List (List V)} (h:Wks a b) (hs:b.length=size) (ho:(b.all fun v=>v.one)=true) (t:WkR size l m):WkR size (a::l) (b::m)
theorem WkR.wk{size:Nat}{l m:List (List V)}(h:WkR size l m):Wk (.slice size l) (.slice size m):=by
  have hl:l.length=m.length:=by induction h with|nil=>rfl|cons _ _ _ _ ih=>simp[ih]
  refine Wk.slice hl (fun e he=>?_) (fun e he c hc=>?_) ?_
  . clear hl
    induction h with
    |nil=>cases he
    | cons _ hs _ _ ih => rcases vg.1 he with rfl | he; · exact hs
                          . exact ih he
  . clear hl
    induction h with
    |nil=>cases he
    | cons _ _ ho _ ih => rcases vg.1 he with rfl | he; · exact vj.1 ho c hc
                          . exact ih he
  clear hl
  induction h with
  |nil=>intro i j e u v c h1;simp at h1
  | cons hw _ _ _ ih=>
    intro i j e u v c h1 h2 h3 h4;cases i with
    | zero=>
      simp only[List.getElem?_cons_zero,uu] at h1 h2;subst h1 h2;obtain⟨v',q1,q2⟩:=hw.get h4;rw[h3] at q1;cases q1;exact q2
    |succ i=>exact ih i j e u v c (by simpa using h1) (by simpa using h2) h3 h4
end Go.Arc
