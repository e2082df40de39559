/- A part of this claim. -/
import Derived.Test.YtfbbflhnhmphiaaGreatDoorBaM
set_option maxHeartbeats 16000000
set_option maxRecDepth 100000
namespace Go.Arc
open Go.Ab Go.RowKit Go.Proofs Tryz
variable {T : Lay}
theorem gRD {p q r:Prop} (hr:r) (h:q) (e:r->Hide q->p:=by
  intro hr z
  repeat (first
   |with_reducible refine jaw ?_
   |with_reducible refine jax ?_
   |refine runC ?_
   |refine qv rfl ?_
   |refine runG hr ?_)
  try simp only[xg,xa,vz,bn,bq,xaq]
  repeat (first
   |refine runC ?_
   |refine qv rfl ?_
   |refine runS hr ?_)
  exact z):p:=e hr h
def jjk(res:Rgs)(d e:Int)(ks:List (Nat×Blk))(_b:Blk)(v:V):Prop:=∃c0,ks=[(999000,.var c0),(999001,.var (rdC [] [] d))]/\v=vi e/\(e=0->c0=res.cs)
theorem jyo{res:Rgs}{d e:Int}{ks:List (Nat×Blk)}{b:Blk}{v:V}(h:jjk res d e ks b v):okZ ks=true/\Ab.look 999050 ks=none:=by
 obtain⟨c0,rfl,-,-⟩:=h;exact⟨rfl,rfl⟩
theorem jmg:∀(k:Nat) {l:List Str} {a b:Str} {r:List Str},l.drop (2*k)=a::b::r->clsT (k+1) l=clsT k l++[⟨a,b⟩]
 |0,l,a,b,r,h=>by
  have h:l=a::b::r:=h;subst h;rfl
 |k+1,l,a,b,r,h=>by
  match l,h with
  |[],h=>simp at h
  |[x],h=>simp[show 2*(k+1)=(2*k+1)+1 from rfl] at h
  |x::y::l,h=>
   have h:l.drop (2*k)=a::b::r:=h
   show (⟨x,y⟩:Cls)::clsT (k+1) l=⟨x,y⟩::(clsT k l++[⟨a,b⟩])
   rw[jmg k h]
theorem jlu:∀(k:Nat) {l:List Str} {a b:Str} {r:List Str},l.drop (2*k)=a::b::r->movT (k+1) l=movT k l++[⟨a,b⟩]
 |0,l,a,b,r,h=>by
  have h:l=a::b::r:=h;subst h;rfl
 |k+1,l,a,b,r,h=>by
  match l,h with
  |[],h=>simp at h
  |[x],h=>simp[show 2*(k+1)=(2*k+1)+1 from rfl] at h
  |x::y::l,h=>
   have h:l.drop (2*k)=a::b::r:=h
   show (⟨x,y⟩:Mov)::movT (k+1) l=⟨x,y⟩::(movT k l++[⟨a,b⟩])
   rw[jlu k h]
theorem ji9{l:List Str}{k:Nat}(h:2*k+1<l.length):∃a b,l.drop (2*k)=a::b::l.drop (2*(k+1)):=by
 obtain⟨a,-,h1,-⟩:=af (l:=l) (k:=2*k) omq;obtain⟨b,-,h2,-⟩:=af (l:=l) (k:=2*k+1) h;exact⟨a,b,by rw[h1,h2];rfl⟩
theorem jf8:∀(n:Nat) (l:List Str),(clsT n l).length<=n
 |0,_=>vo _
 |_+1,[]=>vj _
 |_+1,[_]=>vj _
 |n+1,_::_::l=>Nat.succ_le_succ (jf8 n l)
theorem jpf:∀(n:Nat) (l:List Str),(movT n l).length<=n
 |0,_=>vo _
 |_+1,[]=>vj _
 |_+1,[_]=>vj _
 |n+1,_::_::l=>Nat.succ_le_succ (jpf n l)
abbrev qdb:List Gent:=gd 11 [[0,0,0],[1,2,0],[5,4,0],[21,1,1,3,0],[29,1,2,5,1],[23,3,1,0,0,0],[61,1,1,6,2],[31,5,0,0,0,0],[63,6,2,0,0,0],[125,1,1,7,0],[253,1,1,0,0,0],[127,7,0,0,0,0],[255,8,0,0,0,0],[511,9,0],[1023,10,0,0,0,0],[2047]]
abbrev qda:List Gent:=gd 11 [[0,0,0],[1,2,0],[5,4,0],[21,1,1,3,0],[29,1,2,5,1],[23,3,1,0,0,0],[61,1,1,6,2],[31,5,0,0,0,0],[63,6,2,0,0,0],[125,1,1,7,0],[253,1,1,0,0,0],[127,7,0,0,0,0],[255,8,0,0,0,0],[511,9,0],[1023,10,0,0,0,0],[2047]]
abbrev jr8:List Gent:=gd 11 [[0,0,0],[1,1,0],[3,2,0],[7,3,0],[15,4,1,5,0],[47,4,1,6,2],[31,5,0,0,0,0],[63,6,1,0,0,0],[111,4,0,0,0,0],[127,7,0,0,0,0],[255,8,0],[511,9,0],[1023,10,0,0,0,0],[2047]]
abbrev jr7:List Gent:=gd 20 [[0,0,0],[1,1,0],[3,3,0],[11,4,0],[27,5,0],[59,6,0],[123,2,1,7,0],[251,2,1,0,0,0],[127,7,0,0,0,0],[255,8,0,0,0,0],[511,9,0],[1023,10,0,13,1],[2047,11,2,13,1],[9215,10,0,14,2],[10239,11,2,14,3],[4095,12,3,13,1],[25599,10,1,15,3],[12287,12,3,14,5],[26623,11,4,15,3],[8191,13,1,0,0,0],[58367,10,1,16,3],[16383,14,4,0,0,0],[59391,11,5,16,2],[28671,12,2,15,4],[123903,10,0,17,2],[124927,11,5,17,3],[32767,15,3,0,0,0],[254975,10,1,0,0,0],[61439,12,1,16,2],[255999,11,2,0,0,0],[65535,16,2,0,0,0],[126975,12,1,17,0],[258047,12,1,0,0,0],[131071,17,0,0,0,0],[262143,18,0,0,0,0],[524287,19,0,0,0,0],[1048575]]
abbrev qd9:List Gent:=gd 11 [[0,0,0],[1,1,0],[3,2,0],[7,6,0],[71,3,1,7,0,9,2],[199,3,4,9,2],[79,4,2,7,3,9,4],[583,3,3,7,0],[711,3,5,0,0,0],[95,5,3],[207,4,1,9,3],[591,4,3,7,2],[223,5,3],[127,7,2,9,4],[719,4,2,0,0,0],[607,5,2],[255,8,2,9,3],[735,5,2],[639,7,1,0,0,0],[511,9,1,0,0,0],[767,8,0,0,0,0],[1023,10,0,0,0,0],[2047]]
abbrev plnX(r:Rgs)(v:V):List V:=[ofcs r.ofs,v,fils r.fls,ruls r.rls,hlds r.hls,clks r.cks,sels r.sls,prps r.pps,apvs r.aps,crts r.crs,deps r.dps,vi r.chg]
abbrev plnP(r:Rgs)(f u:Int)(N M:Nat)(ts:List Str):Plan:=⟨(r.pls.length:Int)+1,f,u,clsT N ts,movT M (ts.drop (2*N))⟩
theorem jfv {p:Prop} {res:Rgs} {c0:List V} {e:Int} (hc:e=0->c0=res.cs) (h:(e=0->c0=res.cs)->p:=by
  intro hc;refine⟨_,_,_,⟨_,rfl,rfl,hc⟩,fun x hx=>?_,⟨5,_,rfl,WkB.self _ _ _,smq⟩,_,rfl,.refl _⟩;simp only[vt,yl,xx] at hx;rcases hx with rfl|rfl
  .exact⟨_,rfl,WkB.self _ _ _⟩
  .exact⟨_,rfl,WkB.self _ _ _⟩):p:=h hc
theorem qfo(r:Rgs)(h:r.Fit)(f u:Int)(N M:Nat)(ts:List Str)(d:Int)(hts:ts.length=2*N+2*M)(h20:ts.length<=60)(hz:r.pls=[]):
  DenV prog T 83 [(999000,.var (plnX r (.val (.slice none 0 0)))),(999001,.var (rdC [f,u,(N:Int),(M:Int)] ts d))] 999050 none rgA (jjk (if gapP r.pls f=true then r else { r with pls:=tilP r.pls f++[plnP r f u N M ts] }) d (if gapP r.pls f=true then 16 else 0)):=by
 have hpl:=h.pls.1;have hg:gapP r.pls f=false:=by unfold gapP;rw[hz];rfl
 have ht:tilP r.pls f=[]:=by unfold tilP;rw[hz];rfl
 rw[hg,vd dcq,vd dcq,ht];refine rk follows (fun args w=>call83 args w) func83 rfl 102 rfl rfl ?_ (fun _ _ _ h=>jyo h)
 show aw _ _ _ (St.mk 102 [(0,.p 999000 0),(1,.p 999001 0)] [(999000,.var (plnX r (.val (.slice none 0 0)))),(999001,.var (rdC [f,u,(N:Int),(M:Int)] ts d))] []) _
 refine runD (ai am (ai ao ac)) ?_;refine aq qd9 ?_;refine gR (ai am (ai ao ac)) ?_;refine gM (ai am (ai ao ac)) (jbt f u [(N:Int),(M:Int)] ts d smq) ?_;refine dx 999001 (bo (N:Int) [(M:Int)] ts d smq) ?_;refine runW (ai am (ai ao ac)) ?_;refine dx 999001 (bo (M:Int) [] ts d smq) ?_;refine runW (ai am (ai ao ac)) ?_;refine loop ⟨[24,7,23,0,1,5],[5,999000,999001],[6000000003],[(6000000003,142,2)]⟩ (fun k:Nat=>k<=N) (fun k=>N-k) (fun k=>⟨102,[(24,.v (vi k)),(7,.v (vi M)),(23,.v (vi N)),(0,.p 999000 0),(1,.p 999001 0),(5,.p 5 0)],[(5,.var [vi (((0:Nat):Int)+1),vi f,vi u,clss (clsT k ts),.val (.slice none 0 0)]),(999000,.var (plnX r (.val (.slice none 0 0)))),(999001,.var (rdC [] (ts.drop (2*k)) d))],[(142,[6000000003])]⟩) 0 (vj _) ?_;intro k hk;by_cases hkN:k<N
 .obtain⟨x,y,hd⟩:=ji9 (l:=ts) (k:=k) omq;have hcs:=jmg k hd;have hcl:=jf8 k ts;have hap:(clsT k ts).map Cls.cs++[[.str x,.str y]]=(clsT (k+1) ts).map Cls.cs:=by rw[hcs,xz];rfl
  have hrl:(ts.drop (2*(k+1))).length<=60:=by rw[xw];omega
  exact zk
 rw[show k=N by omega];refine runW (ai am (ai ao ac)) ?_;have hl2:(ts.drop (2*N)).length=2*M:=by rw[xw];omega
 have hC:(clsT N ts).length<=60:=xc (jf8 N ts) omq;obtain⟨C,hCe⟩:∃C,clsT N ts=C:=⟨_,rfl⟩;obtain⟨us,hue⟩:∃us,ts.drop (2*N)=us:=⟨_,rfl⟩;rw[hCe] at hC ⊢;rw[hue] at hl2 ⊢;refine loop ⟨[38,37,0,1,5],[5,999000,999001],[6000000004],[(6000000004,144,2)]⟩ (fun k:Nat=>k<=M) (fun k=>M-k) (fun k=>⟨102,[(38,.v (vi k)),(37,.v (vi M)),(0,.p 999000 0),(1,.p 999001 0),(5,.p 5 0)],[(5,.var [vi (((0:Nat):Int)+1),vi f,vi u,clss C,movs (movT k us)]),(999000,.var (plnX r (.val (.slice none 0 0)))),(999001,.var (rdC [] (us.drop (2*k)) d))],[(144,[6000000004])]⟩) 0 (vj _) ?_;intro k hk;by_cases hkN:k<M
 .obtain⟨x,y,hd⟩:=ji9 (l:=us) (k:=k) omq;have hcs:=jlu k hd;have hcl:=jpf k us;have hap:(movT k us).map Mov.cs++[[.str x,.str y]]=(movT (k+1) us).map Mov.cs:=by rw[hcs,xz];rfl
  have hrl:(us.drop (2*(k+1))).length<=60:=by rw[xw];omega
  exact zl
 have hdn:us.drop (2*M)=[]:=by rw[xdd];omega
 rw[show k=M by omega,hdn];obtain⟨Q,hQe⟩:∃Q,movT M us=Q:=⟨_,rfl⟩;have hpn:plnP r f u N M ts=⟨(r.pls.length:Int)+1,f,u,C,Q⟩:=by unfold plnP;rw[hCe,hue,hQe]
 rw[hQe,hpn];refine fj (st':=⟨102,[(38,.v (vi M)),(37,.v (vi M)),(0,.p 999000 0),(1,.p 999001 0),(5,.p 5 0)],[(5,.var [vi (((0:Nat):Int)+1),vi f,vi u,clss C,movs Q]),(999000,.var (plnX r (.val (.slice none 0 0)))),(999001,.var (rdC [] ([]) d))],[]⟩) ⟨[38,37,0,1,5],[5,999000,999001],[],[]⟩ rfl ?_;refine runD (ai am (ai ao ac)) ?_;refine fj (st':=⟨102,[(0,.p 999000 0),(1,.p 999001 0),(5,.p 5 0)],[(5,.var [vi (((0:Nat):Int)+1),vi f,vi u,clss C,movs Q]),(999000,.var (plnX r (.val (.slice none 0 0)))),(999001,.var (rdC [] [] d))],[]⟩) ⟨[0,1,5],[5,999000,999001],[],[]⟩ rfl ?_;refine qaa 999000 1 5 140 (plnX r (.val (.slice none 0 0))) none none rfl rfl dcq rfl ?_
 show aw _ _ _ (St.mk 102 [(0,.p 999000 0),(1,.p 999001 0),(5,.p 5 0)] [(5,.var [vi (((0:Nat):Int)+1),vi f,vi u,clss C,movs Q]),(999000,.var (plnX r (.slice 5 []))),(999001,.var (rdC [] [] d))] [(140,[999001000000001])]) _
 refine aq jr8 ?_;refine gR (ai am (ai ao ac)) ?_;refine jfv fun _=>?_;rw[hz];rfl
theorem qfn(r:Rgs)(h:r.Fit)(f u:Int)(N M:Nat)(ts:List Str)(d:Int)(hts:ts.length=2*N+2*M)(h20:ts.length<=60)(b c:Nat)(hc1:r.pls.length<=c)(_:c<=maxLen):
  DenV prog T 83 [(999000,.var (plnX r (.val (.slice (some ⟨b,0,none⟩) r.pls.length c)))),(999001,.var (rdC [f,u,(N:Int),(M:Int)] ts d))] 999050 (some (.var (r.pls.map Plan.cs).flatten (some b) (some (140,5,c)))) rgA (jjk (if gapP r.pls f=true then r else { r with pls:=tilP r.pls f++[plnP r f u N M ts] }) d (if gapP r.pls f=true then 16 else 0)):=by
 have hpl:=h.pls.1;refine rk follows (fun args w=>call83 args w) func83 rfl 102 rfl rfl ?_ (fun _ _ _ h=>jyo h)
 show aw _ _ _ (St.mk 102 [(0,.p 999000 0),(1,.p 999001 0)] [(999000,.var (plnX r (.val (.slice (some ⟨b,0,none⟩) r.pls.length c)))),(999001,.var (rdC [f,u,(N:Int),(M:Int)] ts d)),(999050,.var (r.pls.map Plan.cs).flatten (some b) (some (140,5,c)))] []) _
 refine runD (ai am (ai ao ac)) ?_;refine aq qd9 ?_;refine gR (ai am (ai ao ac)) ?_;refine gM (ai am (ai ao ac)) (jbt f u [(N:Int),(M:Int)] ts d smq) ?_;refine dx 999001 (bo (N:Int) [(M:Int)] ts d smq) ?_;refine runW (ai am (ai ao ac)) ?_;refine dx 999001 (bo (M:Int) [] ts d smq) ?_;refine runW (ai am (ai ao ac)) ?_;refine loop ⟨[24,7,23,0,1,5],[5,999000,999001,999050],[6000000003],[(6000000003,142,2)]⟩ (fun k:Nat=>k<=N) (fun k=>N-k) (fun k=>⟨102,[(24,.v (vi k)),(7,.v (vi M)),(23,.v (vi N)),(0,.p 999000 0),(1,.p 999001 0),(5,.p 5 0)],[(5,.var [vi ((r.pls.length:Int)+1),vi f,vi u,clss (clsT k ts),.val (.slice none 0 0)]),(999000,.var (plnX r (.val (.slice (some ⟨b,0,none⟩) r.pls.length c)))),(999001,.var (rdC [] (ts.drop (2*k)) d)),(999050,.var (r.pls.map Plan.cs).flatten (some b) (some (140,5,c)))],[(142,[6000000003])]⟩) 0 (vj _) ?_;intro k hk;by_cases hkN:k<N
 .obtain⟨x,y,hd⟩:=ji9 (l:=ts) (k:=k) omq;have hcs:=jmg k hd;have hcl:=jf8 k ts;have hap:(clsT k ts).map Cls.cs++[[.str x,.str y]]=(clsT (k+1) ts).map Cls.cs:=by rw[hcs,xz];rfl
  have hrl:(ts.drop (2*(k+1))).length<=60:=by rw[xw];omega
  exact zk
 rw[show k=N by omega];refine runW (ai am (ai ao ac)) ?_;have hl2:(ts.drop (2*N)).length=2*M:=by rw[xw];omega
 have hC:(clsT N ts).length<=60:=xc (jf8 N ts) omq;obtain⟨C,hCe⟩:∃C,clsT N ts=C:=⟨_,rfl⟩;obtain⟨us,hue⟩:∃us,ts.drop (2*N)=us:=⟨_,rfl⟩;rw[hCe] at hC ⊢;rw[hue] at hl2 ⊢;refine loop ⟨[38,37,0,1,5],[5,999000,999001,999050],[6000000004],[(6000000004,144,2)]⟩ (fun k:Nat=>k<=M) (fun k=>M-k) (fun k=>⟨102,[(38,.v (vi k)),(37,.v (vi M)),(0,.p 999000 0),(1,.p 999001 0),(5,.p 5 0)],[(5,.var [vi ((r.pls.length:Int)+1),vi f,vi u,clss C,movs (movT k us)]),(999000,.var (plnX r (.val (.slice (some ⟨b,0,none⟩) r.pls.length c)))),(999001,.var (rdC [] (us.drop (2*k)) d)),(999050,.var (r.pls.map Plan.cs).flatten (some b) (some (140,5,c)))],[(144,[6000000004])]⟩) 0 (vj _) ?_;intro k hk;by_cases hkN:k<M
 .obtain⟨x,y,hd⟩:=ji9 (l:=us) (k:=k) omq;have hcs:=jlu k hd;have hcl:=jpf k us;have hap:(movT k us).map Mov.cs++[[.str x,.str y]]=(movT (k+1) us).map Mov.cs:=by rw[hcs,xz];rfl
  have hrl:(us.drop (2*(k+1))).length<=60:=by rw[xw];omega
  exact zl
 have hdn:us.drop (2*M)=[]:=by rw[xdd];omega
 rw[show k=M by omega,hdn];obtain⟨Q,hQe⟩:∃Q,movT M us=Q:=⟨_,rfl⟩;have hpn:plnP r f u N M ts=⟨(r.pls.length:Int)+1,f,u,C,Q⟩:=by unfold plnP;rw[hCe,hue,hQe]
 rw[hQe,hpn];refine fj (st':=⟨102,[(38,.v (vi M)),(37,.v (vi M)),(0,.p 999000 0),(1,.p 999001 0),(5,.p 5 0)],[(5,.var [vi ((r.pls.length:Int)+1),vi f,vi u,clss C,movs Q]),(999000,.var (plnX r (.val (.slice (some ⟨b,0,none⟩) r.pls.length c)))),(999001,.var (rdC [] ([]) d)),(999050,.var (r.pls.map Plan.cs).flatten (some b) (some (140,5,c)))],[]⟩) ⟨[38,37,0,1,5],[5,999000,999001,999050],[],[]⟩ rfl ?_;obtain⟨X,hX⟩:∃X,tilP r.pls f=X:=⟨_,rfl⟩;rw[hX];have hap:X.map Plan.cs++[[vi ((r.pls.length:Int)+1),vi f,vi u,clss C,movs Q]]=(X++[(⟨(r.pls.length:Int)+1,f,u,C,Q⟩:Plan)]).map Plan.cs:=by rw[xz];rfl
 have hw:=ct (cs:=Plan.cs) (z:=5) (fun _=>rfl) r.pls;by_cases hk0:r.pls.length=0
 .have hz:r.pls=[]:=yg hk0;have hg:gapP r.pls f=false:=by unfold gapP;rw[hz];rfl
  have hXz:X=r.pls:=by rw[<- hX,hz];rfl
  have hXl:X.length=r.pls.length:=by rw[hXz]
  have hch:=il (cs:=Plan.cs) (z:=5) (fun _=>rfl) X;rw[hXl] at hch;rw[hg,vd dcq,vd dcq];rw[<- hXz] at hw;have hF:((0:Int)<(r.pls.length:Int))=False:=vf omq;rw[show (r.pls.map Plan.cs).flatten=(X.map Plan.cs).flatten by rw[hXz]];obtain⟨W,hW⟩:∃W,(X.map Plan.cs).flatten=W:=⟨_,rfl⟩;rw[hW] at hw hch ⊢;rw[hXl] at hw;refine runD (ai hF (ai am (ai ao ac))) ?_;refine fj (st':=⟨102,[(0,.p 999000 0),(1,.p 999001 0),(5,.p 5 0)],[(5,.var [vi ((r.pls.length:Int)+1),vi f,vi u,clss C,movs Q]),(999000,.var (plnX r (.val (.slice (some ⟨b,0,none⟩) r.pls.length c)))),(999001,.var (rdC [] [] d)),(999050,.var W (some b) (some (140,5,c)))],[]⟩) ⟨[0,1,5],[5,999000,999001,999050],[],[]⟩ rfl ?_;refine qcg 999050 999000 1 r.pls.length c 5 b 140 W (plnX r (.val (.slice (some ⟨b,0,none⟩) r.pls.length c))) none none rfl rfl dcq rfl hc1 hw krq dcq rfl (fun i tv e=>jcd (t:=[(0,.p 999000 0),(1,.p 999001 0),(5,.p 5 0)]) rfl e) ?_
  rw[show coSt ⟨102,[(0,.p 999000 0),(1,.p 999001 0),(5,.p 5 0)],[(5,.var [vi ((r.pls.length:Int)+1),vi f,vi u,clss C,movs Q]),(999000,.var (plnX r (.val (.slice (some ⟨b,0,none⟩) r.pls.length c)))),(999001,.var (rdC [] [] d)),(999050,.var W (some b) (some (140,5,c)))],[]⟩ 999050 999000 1 r.pls.length 5 140 W (plnX r (.val (.slice (some ⟨b,0,none⟩) r.pls.length c))) none none=
    ⟨102,[(0,.p 999000 0),(1,.p 999001 0),(5,.p 5 0)],[(5,.var [vi ((r.pls.length:Int)+1),vi f,vi u,clss C,movs Q]),(999000,.var (plnX r (bh X))),(999001,.var (rdC [] [] d))],[(140,[999001000000001])]⟩ by unfold coSt;rw[hch];rfl]
  exact zdu
 obtain⟨p,hx,-,hpm⟩:=af (l:=r.pls) (k:=r.pls.length-1) omq;have hgp:gapP r.pls f=(decide (f<=p.frm) || decide (p.til<f)):=by unfold gapP;rw[hx]
 have hXe:X=r.pls.set (r.pls.length-1) { p with til:=f } := by rw[<- hX];unfold tilP;rw[hx]
 have hXl:X.length=r.pls.length:=by rw[hXe,yc]
 have hch:=il (cs:=Plan.cs) (z:=5) (fun _=>rfl) X;have hw2:=ct (cs:=Plan.cs) (z:=5) (fun _=>rfl) X;rw[hXl] at hch hw2;have g1:=om (cs:=Plan.cs) (z:=5) (fun _=>rfl) hx (off:=1) rfl;have g2:=om (cs:=Plan.cs) (z:=5) (fun _=>rfl) hx (off:=2) rfl;have p2:=jf1 (cs:=Plan.cs) (z:=5) (fun _=>rfl) (off:=2) (v:=vi f) dcq (x:=p) (y:= { p with til:=f }) rfl hx;rw[<- hXe] at p2;obtain⟨W,hW⟩:∃W,(r.pls.map Plan.cs).flatten=W:=⟨_,rfl⟩;obtain⟨W2,hW2⟩:∃W2,(X.map Plan.cs).flatten=W2:=⟨_,rfl⟩;rw[hW] at hw g1 g2 p2 ⊢;rw[hW2] at p2 hch hw2;have p3:W.take ((r.pls.length-1)*5+1+1)++[vi f]++W.drop ((r.pls.length-1)*5+1+1+1)=W2:=p2;have hpos:((0:Int)<(r.pls.length:Int))=True:=vg omq;by_cases a1:f<=p.frm
 .rw[hgp,vl a1,xam,ve rfl,ve rfl];refine runD (ai (ai hpos (ai (vg a1) (ai g1 g2))) (ai am (ai ao ac))) ?_;refine aq jr7 ?_;refine gR (ai (ai hpos (ai (vg a1) (ai g1 g2))) (ai am (ai ao ac))) ?_;refine jfv fun h=>?_;cases h
 by_cases a2:p.til<f
 .rw[hgp,vl a2,xb8,ve rfl,ve rfl];refine runD (ai (ai hpos (ai (ai (vf a1) (vg a2)) (ai g1 g2))) (ai am (ai ao ac))) ?_;refine aq jr7 ?_;refine gR (ai (ai hpos (ai (ai (vf a1) (vg a2)) (ai g1 g2))) (ai am (ai ao ac))) ?_;refine jfv fun h=>?_;cases h
 have hg:gapP r.pls f=false:=by rw[hgp,vw a1,vw a2];rfl
 rw[hg,vd dcq,vd dcq];refine runD (ai (ai hpos (ai (ai (vf a1) (vf a2)) (ai g1 (ai g2 (ai p2 p3))))) (ai am (ai ao ac))) ?_;refine aq jr7 ?_;refine gRD (ai (ai hpos (ai (ai (vf a1) (vf a2)) (ai g1 (ai g2 (ai p2 p3))))) (ai am (ai ao ac))) ?_;have hF:=ai p2 p3;refine runD (ai hF (ai am (ai ao ac))) ?_;refine fj (st':=⟨102,[(0,.p 999000 0),(1,.p 999001 0),(5,.p 5 0)],[(5,.var [vi ((r.pls.length:Int)+1),vi f,vi u,clss C,movs Q]),(999000,.var (plnX r (.val (.slice (some ⟨b,0,none⟩) r.pls.length c)))),(999001,.var (rdC [] [] d)),(999050,.var W2 (some b) (some (140,5,c)))],[]⟩) ⟨[0,1,5],[5,999000,999001,999050],[],[]⟩ rfl ?_;refine qcg 999050 999000 1 r.pls.length c 5 b 140 W2 (plnX r (.val (.slice (some ⟨b,0,none⟩) r.pls.length c))) none none rfl rfl dcq rfl hc1 hw2 krq dcq rfl (fun i tv e=>jcd (t:=[(0,.p 999000 0),(1,.p 999001 0),(5,.p 5 0)]) rfl e) ?_
 rw[show coSt ⟨102,[(0,.p 999000 0),(1,.p 999001 0),(5,.p 5 0)],[(5,.var [vi ((r.pls.length:Int)+1),vi f,vi u,clss C,movs Q]),(999000,.var (plnX r (.val (.slice (some ⟨b,0,none⟩) r.pls.length c)))),(999001,.var (rdC [] [] d)),(999050,.var W2 (some b) (some (140,5,c)))],[]⟩ 999050 999000 1 r.pls.length 5 140 W2 (plnX r (.val (.slice (some ⟨b,0,none⟩) r.pls.length c))) none none=
   ⟨102,[(0,.p 999000 0),(1,.p 999001 0),(5,.p 5 0)],[(5,.var [vi ((r.pls.length:Int)+1),vi f,vi u,clss C,movs Q]),(999000,.var (plnX r (bh X))),(999001,.var (rdC [] [] d))],[(140,[999001000000001])]⟩ by unfold coSt;rw[hch];rfl]
 exact zdu
end Go.Arc
