/- A part of this claim. -/
import Derived.Test.YtpaallejmocmaaaGreatDoorBaL
set_option maxHeartbeats 2000000
set_option maxRecDepth 100000
namespace Go.Arc
open Go.Ab Go.RowKit Go.Proofs Tryz
variable {T : Lay}
variable {l:List Plan}{q:Option Plan}{p:Plan}{i:Nat}{s:Str}{f:Int}{t:Int}{old:Plan}{new:Plan}{n:Int}{k:Nat}{a:Str}{b:Str}{α:Type}{x:Str}
theorem qmi(l:List Mov)(f:FuncId)(cap:List V)(p:Mov->Bool)(hl:l.length<=1048576)(hp:∀e∈l,Den prog T f (.agg e.cs::cap) (vb (p e))):
   Den prog T 393 [movs l,.func f cap] (vi (ix p l)):=by
  refine ab call393 func393 19 ?_;exact ixPf
theorem qir(l:List Plan)(f:FuncId)(cap:List V)(p:Plan->Bool)(hl:l.length<=1048576)(hp:∀e∈l,Den prog T f (.agg e.cs::cap) (vb (p e))):
   Den prog T 328 [ay l,.func f cap] (vi (ix p l)):=by
  refine ab call328 func328 19 ?_;exact ixPf
theorem qn5(c:Mov)(s:Str):Den prog T 394 [.agg c.cs,.row [.str s]] (vb (c.frm == s)):=by
 refine ab call394 func394 8 ?_;exact za
abbrev jay(old new:Plan)(s:Str):V:=match next old new s with
 |some x=>.tup [.str x,vb true]
 |none=>.tup [.str [],vb false]
theorem ti(h:next old new s=some x):jay old new s=.tup [.str x,vb true]:=by simp[jay,h]
theorem jan(h:next old new s=none):jay old new s=.tup [.str [],vb false]:=by simp[jay,h]
theorem qas(p:α->Bool)(l:List α):(ix p l= -1/\l.find? p=none)\/∃k x,ix p l=(k:Nat)/\k<l.length/\l[k]?=some x/\l.find? p=some x/\p x=true:=by
 cases h:l.findIdx? p with
 |none=>
  exact zcn
 |some i=>
  obtain⟨hlt,hpi,hbef⟩:=qwb.1 h;refine .inr ⟨i,l[i],by simp[ix,h],hlt,gge hlt,?_,hpi⟩;exact zdf
theorem jyy(L:LibC T)(old new:Plan)(s:Str)(ho:old.Fit)(hn:new.Fit)(hs:s.length<=1048576):Den prog T 360 [.agg old.cs,.agg new.cs,.str s] (jay old new s):=by
 obtain⟨ho1,ho2,ho3,ho4⟩:=ho;obtain⟨hn1,hn2,hn3,hn4⟩:=hn;refine ab call360 func360 59 ?_;refine rc (jar old s ho1) ?_;cases h1:has old s
 .refine run ?_;exact fin (jan (by simp[next,h1])).symm
 refine rc (qmi new.mov _ _ (fun m=>m.frm == s) hn2 fun e _=>qn5 e s) ?_;rcases qas (fun m:Mov=>m.frm == s) new.mov with⟨hi,hf⟩|⟨k,x,hi,hlt,hx,hf,-⟩
 .rw[hi];refine rc (jar new s hn1) ?_;cases h2:has new s
  .refine run ?_;have hnext:next old new s=up new s:=by simp[next,h1,hf]
   refine loop ⟨[5,9,33,34,35],[5],[],[]⟩ (fun y:Nat×Nat=>y.1<=new.cls.length/\y.2<=lens s/\(0<y.2->has new (pre s y.2)=true)/\∀c∈new.cls.take y.1,bx s c.code=true->lens c.code<=y.2) (fun y=>new.cls.length-y.1)
    (fun y=>⟨59,[(5,.p 5 0),(9,.v (.str (pre s y.2))),(33,.v (clss new.cls)),(34,.v (vi new.cls.length)),(35,.v (vi y.1))],[(5,.con [.str s])],[]⟩) (0,0) ⟨smq,smq,smq,smq⟩ ?_ ?_
   .rintro⟨k,j⟩ ⟨hk,hj,hh,hall⟩;simp only at hk hj hh hall;by_cases hlt:k<new.cls.length
    .obtain⟨c,hc,hd,hm⟩:=ac hlt;have hcl:=(hn3 c hm).1;refine rcW hc (jkb L s c.code hs hcl) ?_;cases hw:bx s c.code
     .refine run ?_;refine round (k+1,j) ⟨by simp only;omega,hj,hh,?_⟩ zev;refine an (q:=fun c:Cls=>bx s c.code=true->lens c.code<=j) hall hc ?_;rw[hw];intro h;cases h
     refine rc (jj7 L c.code hcl) ?_;obtain⟨l,m,hps,hpm,hm1,hm2,hm3⟩:=jse hw;obtain⟨w1,w2,w3⟩:=qh8 hw;have hlm:=qt hpm;rw[ou hpm];refine run ?_
     have hpl:(pre s j).length<=1048576:=by
      by_cases hz:j=0
      .subst hz;rw[jh9];simp
      rw[jdy hps hz];have:=jdb (l.take j);obtain⟨-,h6,-⟩:=gc hps;simp at this;omega
     refine call (jj7 L (pre s j) hpl) ?_
     have hnb:∃nb,ud (pre s j)=nb/\((nb=.val (.slice none 0 0)/\j=0)\/∃q,nb=nats q/\q.length=j):=by
      by_cases hz:j=0
      .subst hz;exact⟨_,qm (by rw[jh9];exact ql4),.inl ⟨rfl,rfl⟩⟩
      rw[qt hps] at hj;have:=jg6 hps (j:=j) omq hj;rw[jdy hps hz];exact⟨_,ou this,.inr ⟨_,rfl,by simp;omega⟩⟩
     obtain⟨nb,e,hnb⟩:=hnb;rw[e]
     have hgo:∀j',j<=j'->m.length<=j'->∀c∈new.cls.take (k+1),bx s c.code=true->lens c.code<=j':=fun j' g1 g2=>
      an (q:=fun c:Cls=>bx s c.code=true->lens c.code<=j') (fun e he hw=>xa (hall e he hw) g1) hc (fun _=>by rw[hlm];exact g2)
     by_cases hgt:j<m.length
     .have hgt':¬m.length<=j:=omq;have hne:0<m.length:=omq;have hnew:c.code=pre s m.length:=by rw[<- hlm];exact w3
      have hhas:has new (pre s m.length)=true:=qau.2 ⟨c,hm,hnew⟩;rcases hnb with⟨rfl,rfl⟩|⟨q,rfl,rfl⟩
      .exact zbj
      exact zbj
     rcases hnb with⟨rfl,rfl⟩|⟨q,rfl,rfl⟩
     .omega
     refine run ?_;exact round (k+1,q.length) ⟨by simp only;omega,hj,hh,hgo _ omq omq⟩ zev
    have hall':∀c∈new.cls,bx s c.code=true->lens c.code<=j:=dh (q:=fun c:Cls=>bx s c.code=true->lens c.code<=j) hall hlt;have hu:=qrh h2 hj hh hall';by_cases hz:j=0
    .subst hz;rw[jh9];refine run ?_;refine fin (xq (jan ?_));rw[hnext,hu];rfl
    have hb:pre s j≠[]:=fun e=>by
     cases hps:ak s with
     |none=>rw[qcl hps] at hj;omega
     |some l=>
      obtain⟨h0,-,-⟩:=gc hps;rw[jdy hps hz] at e;refine quf (fun e'=>?_) e;have:=congrArg List.length e';rw[vz,List.length_nil] at this;have:=xj.2 h0;omega
    have hb':=sr hb;refine runW hb' ?_;refine fin (xq (ti ?_));rw[hnext,hu,ul hz]
   rw[jh9];rfl
  refine run ?_;refine fin (xq (ti ?_));simp[next,h1,hf,up,h2]
 rw[hi];refine runW hx ?_;refine fin (xq (ti ?_));simp[next,h1,hf]
theorem jt7(old new:Plan)(s:Str)(ho:old.Fit)(hn:new.Fit)(hs:s.length<=1048576):Den prog T 296 [.agg old.cs,.agg new.cs,.str s] (jay old new s):=by
 obtain⟨ho1,ho2,ho3,ho4⟩:=ho;obtain⟨hn1,hn2,hn3,hn4⟩:=hn;refine ab call296 func296 47 ?_;refine rc (ja7 old s ho1) ?_;cases h1:has old s
 .refine run ?_;exact fin (jan (by simp[next,h1])).symm
 refine run ?_;refine aj ⟨[8,2,4],[4],[],[]⟩ new.mov.length (fun k=>∀m∈new.mov.take k,(m.frm == s)=false) smq ?_;rintro k ⟨hk,hall⟩;by_cases hlt:k<new.mov.length
 .obtain⟨m,hm,hd,hmem⟩:=ac hlt;cases he:m.frm == s
  .refine runW (ai hm he) ?_;exact round (k+1) ⟨omq,an hall hm he⟩ omq
  refine runW (ai hm he) ?_;refine fin (xq (ti ?_))
  have hf:new.mov.find? (fun m=>m.frm == s)=some m:=by
   rw[List.find?_eq_some_iff_getElem];obtain⟨hlt',rfl⟩:=gsi.1 hm
   exact⟨he,k,hlt',rfl,fun j hj=>by
    have:=hall new.mov[j] (qw7.2 ⟨j,by rw[xt,um hj];exact gge _⟩)
    simp[this]⟩
  simp[next,h1,hf]
 have hf:new.mov.find? (fun m=>m.frm == s)=none:=by
  rw[xw];intro m hm;simp[dh hall hlt m hm]
 have hnext:next old new s=up new s:=by simp[next,h1,hf]
 refine run ?_;refine bp ⟨[9,10,4],[4],[],[]⟩ (fun y:Bool×Str=>y.2.length<=1048576/\up new s=if y.1=true then up new y.2 else none) (fun y=>if y.1=true then lens y.2+1 else 0) (fun y=>[(9,.v (.str y.2)),(10,.v (vb y.1))]) (true,s) ⟨hs,rfl⟩ ?_;rintro⟨b,a⟩ ⟨ha,hu⟩;simp only at ha hu;cases b
 .refine run ?_;refine fin (xq (jan ?_));rw[hnext,hu];rfl
 simp only[uy] at hu;refine rc (ja7 new a hn1) ?_;cases h2:has new a
 .refine rc (jrs a ha) ?_;cases hpa:ia a with
  |none=>
   rw[ja9 hpa];refine run ?_;refine round (false,[]) ⟨smq,?_⟩ smq;rw[hu,qtj hpa h2];rfl
  |some u=>
   obtain⟨l,hl,hl2,hue,hpu⟩:=jsm hpa;rw[jdp hpa];refine run ?_;refine round (true,u) ⟨?_,?_⟩ ?_
   .have:=jdb (l.take (l.length-1));obtain⟨-,h6,-⟩:=gc hl;rw[hue];simp at this;simp only;omega
   .simp only[uy];rw[hu,qk9 hpa h2]
   simp only[uy];rw[qt hl,qt hpu];simp;omega
 refine run ?_;refine fin (xq (ti ?_));rw[hnext,hu];simp[up,h2]
theorem qmu(p:Plan)(hl:p.cls.length<=1048576):DenO prog T 356 [.agg p.cs] 9 (strs (p.cls.map (·.code))):=by
 refine lf call356 func356 20 ?_;refine run ?_
 refine loop ⟨[3,7,8,9],[],[3],[(3,9,1)]⟩ (fun y:Nat×List Str=>y.1<=p.cls.length/\y.2=(p.cls.take y.1).map (·.code)) (fun y=>p.cls.length-y.1)
  (fun y=>⟨20,[(3,.v (strs y.2)),(7,.v (clss p.cls)),(8,.v (vi p.cls.length)),(9,.v (vi y.1))],[],[(9,[3])]⟩) (0,[]) ⟨smq,smq⟩ ?_
 rintro⟨k,out⟩ ⟨hk,hall⟩;simp only at hk hall;have hol:out.length=k:=by rw[hall];simp;omega
 by_cases hlt:k<p.cls.length
 .obtain⟨x,hx,hd,hm⟩:=ac hlt;have hap:out.map Cst++[[V.str x.code]]=(out++[x.code]).map Cst:=by simp
  refine runW (ai hx hap) ?_;refine round (k+1,out++[x.code]) ⟨by simp only;omega,?_⟩ zev;exact z6
 have ho:out=p.cls.map (·.code):=by rw[hall,xn omq]
 subst ho;exact zq
theorem jcn(h:cmp a b=some n):lt2 a b=decide (n<0):=by simp[lt2,h]
theorem jr3(h:cmp a b=none):lt2 a b=false:=by simp[lt2,h]
theorem qng(h:cmp a b=some n): -1<=n/\n<=1:=by
 unfold cmp at h;split at h
 .rename_i x y _ _;cases h
  have:∀x y:List Nat,-1<=cmpL x y/\cmpL x y<=1:=by
   intro x
   induction x with
   |nil=>intro y;cases y<;>simp[cmpL]
   |cons a r ih=>
    intro y;cases y with
    |nil=>simp[cmpL]
    |cons b q=>
     simp only[cmpL];split
     .simp
     split
     .simp
     exact ih q
  exact this x y
 cases h
theorem jui(L:LibC T)(l:List Str)(hl:l.length<=1048576)(hs:∀s∈l,s.length<=1048576):Den prog T 355 [strs l] (vb (ez l)):=by
 refine ab call355 func355 32 ?_;refine run ?_;refine aj ⟨[9,0,8],[],[],[]⟩ l.length (fun k=>ez l=ez (l.drop k)) smq ?_;rintro k ⟨hk,hall⟩;by_cases hlt:k+1<l.length
 .obtain⟨x,hx,hd,hm⟩:=ac (l:=l) (k:=k) omq;obtain⟨y,hy,he,hm'⟩:=ac hlt;have hr:=jj1 hd he;refine rcW (ai hx hy) (qgv L x y (hs x hm) (hs y hm')) ?_;cases hc:cmp x y with
  |none=>
   rw[tp hc];refine run ?_;refine fin (ae ?_);rw[hall,hr,jr3 hc];rfl
  |some n=>
   rw[jep hc];have hrn:=qng hc;by_cases h0:n<0
   .refine run ?_;refine round (k+1) ⟨omq,?_⟩ omq;rw[hall,hr,jcn hc];simp[h0]
   refine run ?_;refine fin (ae ?_);rw[hall,hr,jcn hc];simp[h0]
 refine run ?_;refine fin (ae ?_);rw[hall,jjo hlt]
theorem qq6(L:LibC T)(c:Cls)(hc:c.Fit):Den prog T 352 [.agg c.cs] (vb (!(ak c.code).isSome)):=by
 refine ab call352 func352 7 ?_;refine rc (jj7 L c.code hc.1) ?_;cases hp:ak c.code with
 |none=>rw[qm hp];refine run ?_;exact fin (ae rfl)
 |some l=>
  rw[ou hp];obtain⟨h0,-,-⟩:=gc hp;cases l with
  |nil=>exact absurd rfl h0
  |cons n r=>
   have e:nats (n::r)=.slice 1 (Cnat n::r.map Cnat):=rfl;refine runW e ?_;exact fin (ae rfl)
theorem qq5(L:LibC T)(c:Cls)(hc:c.Fit):Den prog T 354 [.agg c.cs] (vb (!name c.title)):=by
 refine ab call354 func354 7 ?_;refine rc (jah L c.title hc.2) ?_;exact za
theorem qq4(L:LibC T)(p:Plan)(hp:p.cls.length<=1048576)(c:Cls)(hc:c.Fit):Den prog T 357 [.agg c.cs,.row p.cs] (vb (lu p c)):=by
 refine ab call357 func357 19 ?_;refine rc (qj7 L c.code hc.1) ?_;cases h:ia c.code with
 |none=>rw[ja9 h];refine run ?_;refine fin (ae ?_);simp[lu,h]
 |some u=>
  rw[jdp h];refine rc (jar p u hp) ?_;refine run ?_;refine fin (ae ?_);simp[lu,h]
def sc(p:Plan):Int:=if 128<p.cls.length\/128<p.mov.length then 8 else fe p
theorem jt2(L:LibC T)(p:Plan)(hp:p.Fit):Den prog T 307 [.agg p.cs] (vi (sc p)):=by
 obtain⟨h1,h2,h3,h4⟩:=hp;refine ab call307 func307 33 ?_;have hcl:(p.cls.map (·.code)).length<=1048576:=by simpa using h1
 have hcs:∀s∈p.cls.map (·.code),s.length<=1048576:=by
  intro s hs;obtain⟨c,hc,rfl⟩:=xi.1 hs;exact(h3 c hc).1
 by_cases g1:128<p.cls.length
 .refine run ?_;refine fin (ah ?_);simp[sc,g1]
 by_cases g2:128<p.mov.length
 .refine run ?_;refine fin (ah ?_);simp[sc,g2]
 have hce:sc p=fe p:=by simp[sc,g1,g2]
 rw[hce];unfold fe;refine rc (jde p.cls _ _ _ h1 fun c hc=>qq6 L c (h3 c hc)) ?_;cases e1:p.cls.any fun c=> !(ak c.code).isSome
 .refine rc (jde p.cls _ _ _ h1 fun c hc=>qq5 L c (h3 c hc)) ?_;cases e2:p.cls.any fun c=> !name c.title
  .refine run ?_;refine uh (qmu p h1) ?_;refine rc (jui L _ hcl hcs) ?_;cases e3:ez (p.cls.map (·.code))
   .exact za
   refine rc (jde p.cls _ _ _ h1 fun c hc=>qq4 L p h1 c (h3 c hc)) ?_;cases e4:p.cls.any (lu p)
   .exact za
   exact za
  exact za
 exact za
theorem qpy(L:LibC T)(old new:Plan)(ho:old.Fit)(hn:new.Fit)(c:Cls)(hc:c.Fit):Den prog T 359 [.agg c.cs,.row old.cs,.row new.cs] (vb (next old new c.code).isNone):=by
 refine ab call359 func359 17 ?_;refine rc (jyy L old new c.code ho hn hc.1) ?_;cases h:next old new c.code with
 |none=>rw[jan h];refine run ?_;exact fin rfl
 |some x=>rw[ti h];refine run ?_;exact fin rfl
theorem qmb(L:LibC T)(old p:Plan)(ho:old.Fit)(hp:p.Fit):Den prog T 308 [.agg old.cs,.agg p.cs] (vi (lw old p)):=by
 have ho0:=ho;have hp0:=hp;obtain⟨o1,o2,o3,o4⟩:=ho;obtain⟨h1,h2,h3,h4⟩:=hp;refine ab call308 func308 42 ?_;refine run ?_
 refine loop ⟨[2,3,5,10,11,12],[2,3],[5],[(5,9,1)]⟩ (fun y:Nat×List Str=>y.1<=p.mov.length/\y.2=(p.mov.take y.1).map (·.frm)/\∀m∈p.mov.take y.1,(!has old m.frm || !has p m.to)=false) (fun y=>p.mov.length-y.1)
  (fun y=>⟨42,[(2,.p 2 0),(3,.p 3 0),(5,.v (strs y.2)),(10,.v (movs p.mov)),(11,.v (vi p.mov.length)),(12,.v (vi y.1))],[(2,.var old.cs),(3,.var p.cs)],[(9,[5])]⟩) (0,[]) ⟨smq,smq,smq⟩ ?_
 rintro⟨k,out⟩ ⟨hk,hall,hno⟩;simp only at hk hall hno;have hol:out.length=k:=by rw[hall];simp;omega
 by_cases hlt:k<p.mov.length
 .obtain⟨x,hx,hd,hm⟩:=ac hlt;refine rcW hx (jar old x.frm o1) ?_;cases e1:has old x.frm
  .refine run ?_;refine fin (ah ?_);have:p.mov.any (fun m=> !has old m.frm || !has p m.to)=true:=jj hx (by simp[e1]);simp[lw,this]
  refine rc (jar p x.to h1) ?_;cases e2:has p x.to
  .refine run ?_;refine fin (ah ?_);have:p.mov.any (fun m=> !has old m.frm || !has p m.to)=true:=jj hx (by simp[e2]);simp[lw,this]
  have hap:out.map Cst++[[V.str x.frm]]=(out++[x.frm]).map Cst:=by simp
  refine runW hap ?_;refine round (k+1,out++[x.frm]) ⟨by simp only;omega,?_,an (q:=fun m:Mov=>(!has old m.frm || !has p m.to)=false) hno hx (by simp[e1,e2])⟩ zev;exact z6
 have hany:p.mov.any (fun m=> !has old m.frm || !has p m.to)=false:=nh hno hlt;have hout:out=p.mov.map (·.frm):=by rw[hall,xn omq]
 subst hout;unfold lw;rw[hany];have hml:(p.mov.map (·.frm)).length<=1048576:=by simpa using h2
 have hms:∀s∈p.mov.map (·.frm),s.length<=1048576:=by
  intro s hs;obtain⟨m,hm,rfl⟩:=xi.1 hs;exact(h4 m hm).1
 refine rc (jui L _ hml hms) ?_;cases e3:ez (p.mov.map (·.frm))
 .exact za
 refine rc (jde old.cls _ _ _ o1 fun c hc=>qpy L old p ho0 hp0 c (o3 c hc)) ?_;cases e4:old.cls.any fun c=>(next old p c.code).isNone
 .exact za
 exact za
def dflt:Plan:=⟨0,0,0,[],[]⟩
def pl(l:List Plan)(i:Nat):Plan:=l.getD i dflt
theorem sg(h:l[i]?=some p):pl l i=p:=by simp[pl,h]
def Fits(l:List Plan):Prop:=l.length<=1048576/\∀p∈l,p.Fit
def nxt(old new:Plan)(s:Str):Str:=(next old new s).getD []
def nq(l:List Plan):Nat->Nat->Str->Str
 |_,0,s=>s
 |i,n+1,s=>nq l (i+1) n (nxt (pl l i) (pl l (i+1)) s)
def im(l:List Plan)(f t:Int):Int:=if goodL l=false then 1 else if f<1\/t<f\/l.length<t then 7 else 0
def ua(l:List Plan)(f t:Int)(s:Str):Str:=nq l (f-1).toNat (t-f).toNat s
def tk(l:List Plan)(f t:Int)(s:Str):Str×Int:=
 if im l f t≠0 then([],im l f t) else if has (pl l (f-1).toNat) s=false then([],7) else(ua l f t s,0)
theorem qp2(hn:new.Fit)(hs:s.length<=1048576)(h:next old new s=some x):x.length<=1048576:=by
 unfold next at h;split at h
 .split at h
  .rename_i m hm;cases h;exact(hn.2.2.2 m (qv5 hm)).2
  unfold up at h;split at h
  .cases h;exact hs
  split at h
  .cases h
  rename_i l hl;obtain⟨-,h6,-⟩:=gc hl
  have:∀n,np new l n=some x->x.length<=1048576:=by
   intro n
   induction n with
   |zero=>intro h;cases h
   |succ n ih=>
    intro h;simp only[np] at h;split at h
    .cases h;have:=jdb (l.take (n+1));simp at this;omega
    exact ih h
  exact this _ h
 cases h
theorem jof(hn:new.Fit)(hs:s.length<=1048576):(nxt old new s).length<=1048576:=by
 unfold nxt;cases h:next old new s with
 |none=>simp
 |some x=>exact qp2 hn hs h
theorem qah(old new:Plan)(s:Str):∃b,jay old new s=.tup [.str (nxt old new s),vb b]:=by
 cases h:next old new s with
 |none=>exact⟨false,by rw[jan h];simp[nxt,h]⟩
 |some x=>exact⟨true,by rw[ti h];simp[nxt,h]⟩
theorem jfr{β:Type}{l:List α}{x:α}(f:α->β)(h:l.drop k=x::l.drop (k+1)):(l.map f).drop k=f x::(l.map f).drop (k+1):=by
 rw[<- qvn,h,<- qvn];rfl
theorem jrj(p:Plan)(hp:p.Fit):Den prog T 289 [.agg p.cs] (vi (fe p)):=by
 obtain⟨h1,h2,h3,h4⟩:=hp;refine ab call289 func289 91 ?_;refine run ?_;refine aj ⟨[3,1],[1],[],[]⟩ p.cls.length (fun k=>∀c∈p.cls.take k,(!(ak c.code).isSome)=false) smq ?_;rintro k ⟨hk,hall⟩;by_cases hlt:k<p.cls.length
 .obtain⟨x,hx,hd,hm⟩:=ac hlt;refine rcW hx (jjc x.code (h3 x hm).1) ?_;cases e:(ak x.code).isSome
  .refine run ?_;refine fin (ah ?_);have:p.cls.any (fun c=> !(ak c.code).isSome)=true:=jj hx (by simp[e]);simp only[fe,this,↓reduceIte]
  refine run ?_;exact round (k+1) ⟨omq,an (q:=fun c:Cls=>(!(ak c.code).isSome)=false) hall hx (by simp[e])⟩ omq
 have e1:p.cls.any (fun c=> !(ak c.code).isSome)=false:=nh hall hlt;refine run ?_;refine aj ⟨[4,1],[1],[],[]⟩ p.cls.length (fun k=>∀c∈p.cls.take k,(!name c.title)=false) smq ?_;rintro k ⟨hk,hall⟩;by_cases hlt:k<p.cls.length
 .obtain⟨x,hx,hd,hm⟩:=ac hlt;refine rcW hx (sv x.title (h3 x hm).2) ?_;cases e:name x.title
  .refine run ?_;refine fin (ah ?_);have:p.cls.any (fun c=> !name c.title)=true:=jj hx (by simp[e]);simp only[fe,e1,this,vq,↓reduceIte]
  refine run ?_;exact round (k+1) ⟨omq,an (q:=fun c:Cls=>(!name c.title)=false) hall hx (by simp[e])⟩ omq
 have e2:p.cls.any (fun c=> !name c.title)=false:=nh hall hlt;refine run ?_;refine bp ⟨[5,1],[1],[],[]⟩ (fun k:Nat=>1<=k/\(k<=p.cls.length\/k=1)/\ez (p.cls.map (·.code))=ez ((p.cls.map (·.code)).drop (k-1))) (fun k=>p.cls.length+1-k) (fun k=>[(5,.v (vi k))]) 1 ⟨omq,omq,smq⟩ ?_;rintro k ⟨hk1,hk,hall⟩;by_cases hlt:k<p.cls.length
 .obtain⟨x,hx,hd,hm⟩:=ac (l:=p.cls) (k:=k-1) omq;obtain⟨y,hy,he,hm'⟩:=ac hlt;have hk':k-1+1=k:=omq;have hd':=jfr (·.code) hd;have he':=jfr (·.code) he;rw[<- hk'] at he';have hr:=jj1 hd' he';rw[hk'] at hr;refine rcW (ai hx hy) (jrl x.code y.code (h3 x hm).1 (h3 y hm').1) ?_;cases hc:cmp x.code y.code with
  |none=>
   rw[tp hc];refine run ?_;refine fin (ah ?_);have:ez (p.cls.map (·.code))=false:=by rw[hall,hr,jr3 hc];rfl
   simp only[fe,e1,e2,this,vq,↓reduceIte]
  |some n=>
   rw[jep hc];by_cases h0:n<0
   .exact zd8
   refine run ?_;refine fin (ah ?_);have:ez (p.cls.map (·.code))=false:=by rw[hall,hr,jcn hc];simp[h0]
   simp only[fe,e1,e2,this,vq,↓reduceIte]
 have e3:ez (p.cls.map (·.code))=true:=by rw[hall,jjo zew]
 refine run ?_;refine aj ⟨[8,1],[1],[],[]⟩ p.cls.length (fun k=>∀c∈p.cls.take k,lu p c=false) smq ?_;rintro k ⟨hk,hall⟩;by_cases hlt:k<p.cls.length
 .obtain⟨x,hx,hd,hm⟩:=ac hlt;refine rcW hx (jrs x.code (h3 x hm).1) ?_;cases hpa:ia x.code with
  |none=>
   rw[ja9 hpa];refine run ?_;exact round (k+1) ⟨omq,an (q:=fun c:Cls=>lu p c=false) hall hx (by simp[lu,hpa])⟩ omq
  |some u=>
   rw[jdp hpa];refine rc (ja7 p u h1) ?_;cases e:has p u
   .refine run ?_;refine fin (ah ?_);have:p.cls.any (lu p)=true:=jj hx (by simp[lu,hpa,e]);simp only[fe,e1,e2,e3,this,vq,↓reduceIte,reduceCtorEq]
   refine run ?_;exact round (k+1) ⟨omq,an (q:=fun c:Cls=>lu p c=false) hall hx (by simp[lu,hpa,e])⟩ omq
 have e4:p.cls.any (lu p)=false:=nh hall hlt;refine run ?_;refine fin (ah ?_);simp only[fe,e1,e2,e3,e4,vq,↓reduceIte,reduceCtorEq]
theorem qfk(old p:Plan)(ho:old.Fit)(hp:p.Fit):Den prog T 290 [.agg old.cs,.agg p.cs] (vi (lw old p)):=by
 have ho0:=ho;have hp0:=hp;obtain⟨o1,o2,o3,o4⟩:=ho;obtain⟨h1,h2,h3,h4⟩:=hp;refine ab call290 func290 86 ?_;refine run ?_;refine aj ⟨[5,2,3],[2,3],[],[]⟩ p.mov.length (fun k=>∀m∈p.mov.take k,(!has old m.frm || !has p m.to)=false) smq ?_;rintro k ⟨hk,hno⟩;by_cases hlt:k<p.mov.length
 .obtain⟨x,hx,hd,hm⟩:=ac hlt;refine rcW hx (ja7 old x.frm o1) ?_;cases e1:has old x.frm
  .refine run ?_;refine fin (ah ?_);have:p.mov.any (fun m=> !has old m.frm || !has p m.to)=true:=jj hx (by simp[e1]);simp only[lw,this,↓reduceIte]
  refine rcW hx (ja7 p x.to h1) ?_;cases e2:has p x.to
  .refine run ?_;refine fin (ah ?_);have:p.mov.any (fun m=> !has old m.frm || !has p m.to)=true:=jj hx (by simp[e2]);simp only[lw,this,↓reduceIte]
  refine run ?_;exact round (k+1) ⟨omq,an (q:=fun m:Mov=>(!has old m.frm || !has p m.to)=false) hno hx (by simp[e1,e2])⟩ omq
 have e1:p.mov.any (fun m=> !has old m.frm || !has p m.to)=false:=nh hno hlt;refine run ?_;refine bp ⟨[6,2,3],[2,3],[],[]⟩ (fun k:Nat=>1<=k/\(k<=p.mov.length\/k=1)/\ez (p.mov.map (·.frm))=ez ((p.mov.map (·.frm)).drop (k-1))) (fun k=>p.mov.length+1-k) (fun k=>[(6,.v (vi k))]) 1 ⟨omq,omq,smq⟩ ?_;rintro k ⟨hk1,hk,hall⟩;by_cases hlt:k<p.mov.length
 .obtain⟨x,hx,hd,hm⟩:=ac (l:=p.mov) (k:=k-1) omq;obtain⟨y,hy,he,hm'⟩:=ac hlt;have hk':k-1+1=k:=omq;have hd':=jfr (·.frm) hd;have he':=jfr (·.frm) he;rw[<- hk'] at he';have hr:=jj1 hd' he';rw[hk'] at hr;refine rcW (ai hx hy) (jrl x.frm y.frm (h4 x hm).1 (h4 y hm').1) ?_;cases hc:cmp x.frm y.frm with
  |none=>
   rw[tp hc];refine run ?_;refine fin (ah ?_);have:ez (p.mov.map (·.frm))=false:=by rw[hall,hr,jr3 hc];rfl
   simp only[lw,e1,this,vq,↓reduceIte]
  |some n=>
   rw[jep hc];by_cases h0:n<0
   .exact zd8
   refine run ?_;refine fin (ah ?_);have:ez (p.mov.map (·.frm))=false:=by rw[hall,hr,jcn hc];simp[h0]
   simp only[lw,e1,this,vq,↓reduceIte]
 have e3:ez (p.mov.map (·.frm))=true:=by rw[hall,jjo zew]
 refine run ?_;refine aj ⟨[9,2,3],[2,3],[],[]⟩ old.cls.length (fun k=>∀c∈old.cls.take k,(next old p c.code).isNone=false) smq ?_;rintro k ⟨hk,hall⟩;by_cases hlt:k<old.cls.length
 .obtain⟨x,hx,hd,hm⟩:=ac hlt;refine rcW hx (jt7 old p x.code ho0 hp0 (o3 x hm).1) ?_;cases hn:next old p x.code with
  |none=>
   rw[jan hn];refine run ?_;refine fin (ah ?_);have:old.cls.any (fun c=>(next old p c.code).isNone)=true:=jj hx (by simp[hn]);simp only[lw,e1,e3,this,vq,↓reduceIte,reduceCtorEq]
  |some u=>
   rw[ti hn];refine run ?_;exact round (k+1) ⟨omq,an (q:=fun c:Cls=>(next old p c.code).isNone=false) hall hx (by simp[hn])⟩ omq
 have e4:old.cls.any (fun c=>(next old p c.code).isNone)=false:=nh hall hlt;refine run ?_;refine fin (ah ?_);simp only[lw,e1,e3,e4,vq,↓reduceIte,reduceCtorEq]
theorem ji0(h:p.ver≠i+1\/bm p.frm p.til=false):jx q i p=2:=by simp only[jx];rw[um h]
theorem jym{q':Plan}(h1:p.ver=i+1)(h2:bm p.frm p.til=true)(hq:q=some q')(h3:p.frm≠q'.til):jx q i p=16:=by
 simp only[jx];rw[ul (by simp[h1,h2]),um ⟨q',hq,h3⟩]
theorem jc4(h1:p.ver=i+1)(h2:bm p.frm p.til=true)(h3:∀q',q=some q'->p.frm=q'.til)(h4:128<p.cls.length\/128<p.mov.length):jx q i p=8:=by
 simp only[jx];rw[ul (by simp[h1,h2]),ul (by rintro⟨q',e,h⟩;exact h (h3 q' e)),um h4]
theorem jhz(h1:p.ver=i+1)(h2:bm p.frm p.til=true)(h3:∀q',q=some q'->p.frm=q'.til)(h4:¬(128<p.cls.length\/128<p.mov.length))(h5:fe p≠0):jx q i p=fe p:=by
 simp only[jx];rw[ul (by simp[h1,h2]),ul (by rintro⟨q',e,h⟩;exact h (h3 q' e)),ul h4,um h5]
theorem qb6(h1:p.ver=i+1)(h2:bm p.frm p.til=true)(h4:¬(128<p.cls.length\/128<p.mov.length))(h5:fe p=0):jx none i p=if 0<p.mov.length then 1 else 0:=by
 simp only[jx];rw[ul (by simp[h1,h2]),ul (by rintro⟨q',e,h⟩;cases e),ul h4,ul (by simp[h5])]
theorem qb7{q:Plan}(h1:p.ver=i+1)(h2:bm p.frm p.til=true)(h3:p.frm=q.til)(h4:¬(128<p.cls.length\/128<p.mov.length))(h5:fe p=0):jx (some q) i p=lw q p:=by
 simp only[jx];rw[ul (by simp[h1,h2]),ul (by rintro⟨q',e,h⟩;cases e;exact h h3),ul h4,ul (by simp[h5])]
theorem qfl(l:List Plan)(i:Nat)(hl:Fits l)(hi:i<l.length):Den prog T 221 [ay l,vi i] (vi (gf l i)):=by
 obtain⟨hl0,hf⟩:=hl;obtain⟨p,hp,-,hm⟩:=ac hi;have hfp:=hf p hm;obtain⟨h1,h2,-,-⟩:=id hfp;have hfa:gf l i=jx (before l i) i p:=by simp[gf,hp]
 rw[hfa];refine ab call221 func221 65 ?_;by_cases hv:p.ver=i+1
 .refine rcW hp (jdf p.frm p.til) ?_;cases hg:bm p.frm p.til
  .refine run ?_;exact fin (ah (ji0 (.inr hg)).symm)
  by_cases h0:i=0
  .subst h0;have hb:before l 0=none:=rfl;rw[hb];have h3:∀q':Plan,none=some q'->p.frm=q'.til:=fun _ h=>by cases h
   by_cases g1:128<p.cls.length
   .refine run ?_;exact fin (ah (jc4 hv hg h3 (.inl g1)).symm)
   by_cases g2:128<p.mov.length
   .refine run ?_;exact fin (ah (jc4 hv hg h3 (.inr g2)).symm)
   have h4:¬(128<p.cls.length\/128<p.mov.length):=omq;refine rc (jrj p hfp) ?_;by_cases hc:fe p=0
   .rw[qb6 hv hg h4 hc,hc];by_cases hz:0<p.mov.length
    .rw[um hz];exact za
    rw[ul hz];exact za
   exact zby
  obtain⟨q,hq,-,hmq⟩:=ac (l:=l) (k:=i-1) omq;have hb:before l i=some q:=by unfold before;rw[ul h0,hq]
  rw[hb];by_cases hgap:p.frm=q.til
  .have h3:∀q':Plan,some q=some q'->p.frm=q'.til:=fun _ h=>by cases h;exact hgap
   by_cases g1:128<p.cls.length
   .refine runW hq ?_;exact fin (ah (jc4 hv hg h3 (.inl g1)).symm)
   by_cases g2:128<p.mov.length
   .refine runW hq ?_;exact fin (ah (jc4 hv hg h3 (.inr g2)).symm)
   have h4:¬(128<p.cls.length\/128<p.mov.length):=omq;refine rcW hq (jrj p hfp) ?_;by_cases hc:fe p=0
   .rw[qb7 hv hg hgap h4 hc,hc];refine rcW hq (qfk q p (hf q hmq) hfp) ?_;exact za
   exact zby
  refine runW hq ?_;exact fin (ah (jym hv hg rfl hgap).symm)
 refine runW hp ?_;exact fin (ah (ji0 (.inl hv)).symm)
theorem jux(h:16<l.length):check l=(-1,8):=by simp[check,h]
theorem jx9(h:¬ 16<l.length)(hk:k<l.length)(ha:∀i,i<k->gf l i=0)(hf:gf l k≠0):check l=((k:Int),gf l k):=by
 simp[check,h,qun hk ha hf]
theorem jz9(h:¬ 16<l.length)(ha:∀i,i<l.length->gf l i=0):check l=(-1,0):=by
 simp[check,h,qqs ha]
theorem jsa(l:List Plan)(hl:Fits l):Den prog T 145 [ay l] (tq l):=by
 have hl0:=hl.1;refine ab call145 func145 22 ?_;by_cases h16:16<l.length
 .refine run ?_;refine fin ?_;simp only[tq,jux h16]
 refine run ?_;refine aj ⟨[4,0],[],[],[]⟩ l.length (fun k=>∀i,i<k->gf l i=0) omq ?_;rintro k ⟨hk,hall⟩;by_cases hlt:k<l.length
 .refine rc (qfl l k hl hlt) ?_;by_cases hz:gf l k=0
  .refine run ?_;refine round (k+1) ⟨omq,fun i hi=>?_⟩ omq;by_cases e:i=k
   .exact zc6
   exact zb3
  refine run ?_;refine fin ?_;simp only[tq,jx9 h16 hlt hall hz]
 refine run ?_;refine fin ?_;simp only[tq,jz9 h16 fun i hi=>hall i omq]
theorem jx1(l:List Plan)(hl:Fits l):Den prog T 223 [ay l] (vb (goodL l)):=by
 refine ab call223 func223 12 ?_;refine rc (jsa l hl) ?_;refine run ?_;exact fin (ae rfl)
theorem jix(l:List Plan)(d:Int)(hl:l.length<=1048576):Den prog T 231 [ay l,vi d] (vi (idx l d)):=by
 refine ab call231 func231 20 ?_;refine run ?_;refine aj ⟨[5,0,1],[],[],[]⟩ l.length (fun k=>∀p∈l.take k,inS p.frm p.til d=false) smq ?_;rintro k ⟨hk,hall⟩;by_cases hlt:k<l.length
 .obtain⟨x,hx,-,hm⟩:=ac hlt;refine rcW hx (rz x.frm x.til d) ?_;cases hpc:inS x.frm x.til d
  .refine run ?_;exact round (k+1) ⟨omq,an (q:=fun p:Plan=>inS p.frm p.til d=false) hall hx hpc⟩ omq
  refine run ?_;exact fin (ah (nv (p:=fun p:Plan=>inS p.frm p.til d) hall hx hpc))
 refine run ?_;exact fin (ah (ov (p:=fun p:Plan=>inS p.frm p.til d) hall hlt))
theorem qq8(l:List Plan)(f t:Nat)(s:Str)(hl:Fits l)(hft:f<=t)(ht:t<l.length)(hs:s.length<=1048576):
  Den prog T 233 [ay l,vi f,vi t,.str s] (.str (nq l f (t-f) s)):=by
 obtain⟨hl0,hf⟩:=hl;refine ab call233 func233 31 ?_;refine run ?_;refine bp ⟨[3,9,0,2],[],[],[]⟩ (fun y:Nat×Str=>y.1<=t/\y.2.length<=1048576/\nq l f (t-f) s=nq l y.1 (t-y.1) y.2) (fun y=>t-y.1) (fun y=>[(3,.v (.str y.2)),(9,.v (vi y.1))]) (f,s) ⟨hft,hs,rfl⟩ ?_;rintro⟨k,a⟩ ⟨hk,ha,hall⟩;simp only at hk ha hall;by_cases hlt:k<t
 .obtain⟨x,hx,-,hm⟩:=ac (l:=l) (k:=k) omq;obtain⟨y,hy,-,hm'⟩:=ac (l:=l) (k:=k+1) omq;refine rcW (ai hx hy) (jt7 x y a (hf x hm) (hf y hm') ha) ?_;obtain⟨b,e⟩:=qah x y a;rw[e];refine run ?_;refine round (k+1,nxt x y a) ⟨by simp only;omega,jof (hf y hm') ha,?_⟩ zev;simp only;rw[hall,show t-k=(t-(k+1))+1 by omega];simp only[nq];rw[sg hx,sg hy]
 refine run ?_;refine fin ?_;rw[hall,show t-k=0 by omega];rfl
theorem qk8(h:goodL l=false):im l f t=1:=by simp[im,h]
theorem jkj(h:goodL l=true)(h':f<1\/t<f\/l.length<t):im l f t=7:=by simp[im,h,h']
theorem jvb(h:goodL l=true)(h':¬(f<1\/t<f\/l.length<t)):im l f t=0:=by simp[im,h,h']
theorem qk7(h:im l f t=0):goodL l=true/\1<=f/\f<=t/\t<=l.length:=by
 unfold im at h;split at h
 .cases h
 split at h
 .cases h
 rename_i h1 h2;exact⟨by simpa using h1,omq,omq,omq⟩
abbrev tj(l:List Plan)(f t:Int)(s:Str):V:=.tup [.str (tk l f t s).1,vi (tk l f t s).2]
theorem qlr(h:im l f t≠0):tk l f t s=([],im l f t):=by simp[tk,h]
theorem jw8(h:im l f t=0)(h':has (pl l (f-1).toNat) s=false):tk l f t s=([],7):=by unfold tk;rw[ul (fun e=>e h),um h']
theorem jw9(h:im l f t=0)(h':has (pl l (f-1).toNat) s=true):tk l f t s=(ua l f t s,0):=by unfold tk;rw[ul (fun e=>e h),ul (by rw[h'];exact Bool.noConfusion)]
theorem qcj(h:1<=n):∃k:Nat,n=k+1:=⟨(n-1).toNat,omq⟩
end Go.Arc
namespace Go.Arc
open Go.Ab
variable {i:Nat}{lim:Nat}{n:Nat}{d:Int}{x:Int}{j:Nat}
theorem qrt{l:List Plan}(h:i<l.length):l[i]?=some (pl l i):=by
 rw[gge h];simp[pl,h]
theorem qlm(l:List Plan)(d:Int):(idx l d= -1/\∀i,i<l.length->inS (pl l i).frm (pl l i).til d=false)\/∃i:Nat,idx l d=i/\i<l.length/\inS (pl l i).frm (pl l i).til d=true:=by
 rcases qas (fun p:Plan=>inS p.frm p.til d) l with⟨h1,h2⟩|⟨k,x,h1,h2,h3,-,h5⟩
 .refine .inl ⟨h1,fun i hi=>?_⟩;rw[xw] at h2;have:=h2 (pl l i) (vc (qrt hi));exact zdb
 exact .inr ⟨k,h1,h2,by rw[sg h3];exact h5⟩
structure Note where
 name:Str
 fst:Int
 lst:Int
 rcd:Int
 deriving DecidableEq
structure Fil where
 id:Int
 ofc:Int
 opn:Int
 cld:Int
 cls:Str
 title:Str
 pts:Int
 nts:List Note
abbrev Note.cs(n:Note):List V:=[.str n.name,vi n.fst,vi n.lst,vi n.rcd]
abbrev ntss(l:List Note):V:=.slice 4 (l.map Note.cs)
abbrev Fil.cs(f:Fil):List V:=[vi f.id,vi f.ofc,vi f.opn,vi f.cld,.str f.cls,.str f.title,vi f.pts,ntss f.nts]
abbrev fils(l:List Fil):V:=.slice 8 (l.map Fil.cs)
abbrev datg(a b:Int):V:=.agg [vi a,vi b]
def Note.Fit(n:Note):Prop:=n.name.length<=1048576
def Fil.Fit(f:Fil):Prop:=f.cls.length<=1048576/\f.title.length<=1048576/\f.nts.length<=1048576/\∀n∈f.nts,n.Fit
def jb9(l:List Fil):Prop:=l.length<=1048576/\∀f∈l,f.Fit
def ke(d:Int)(n:Note):Bool:=decide (n.rcd<=d)
def ii(f:Fil)(d:Int):List Note:=f.nts.filter (ke d)
def gtN(a b:Note):Bool:=decide (b.lst<a.lst) || (decide (a.lst=b.lst) && decide (b.fst<a.fst))
def iz:Option Note->List Note->Option Note
 |o,[]=>o
 |none,n::l=>iz (some n) l
 |some m,n::l=>iz (some (if gtN n m=true then n else m)) l
def ot:Str:=[111,112,101,110,101,100]
def jzx:Str:=[99,108,111,115,101,100]
def onD(d day:Int):Option (Int×Int):=if day<d then none else some (d,d)
def named(s:Str)(n:Note):Bool:=n.name == s
def own(f:Fil)(s:Str)(d:Int):List Note:=(ii f d).filter (named s)
def best(f:Fil)(s:Str)(d:Int):Option Note:=iz none (own f s d)
def trig(f:Fil)(s:Str)(d:Int):Option (Int×Int):=
 if s=ot then onD f.opn d else if s=jzx then onD f.cld d else(best f s d).map fun n=>(n.fst,n.lst)
abbrev jin(r:Option (Int×Int)):V:=match r with
 |some x=>.tup [datg x.1 x.2,vb true]
 |none=>.tup [datg 0 0,vb false]
abbrev jk(f:Fil)(s:Str)(d:Int):V:=jin (trig f s d)
def state(f:Fil)(d:Int):Int:=if d<f.opn then 0 else if d<f.cld then 1 else 2
def bu(l:List Plan)(f:Fil)(d:Int):Str×Int:=
 if goodL l=false then([],1)
 else if idx l f.opn<0\/idx l d<idx l f.opn then([],24)
 else if has (pl l (idx l f.opn).toNat) f.cls=false then([],24)
 else(ua l (idx l f.opn+1) (idx l d+1) f.cls,0)
abbrev pc(l:List Plan)(f:Fil)(d:Int):V:=.tup [.str (bu l f d).1,vi (bu l f d).2]
theorem jlk:∀ {l:List Note} {o:Option Note} {m:Note},iz o l=some m->o=some m\/m∈l
 |[],o,m,h=>.inl (by simpa [iz] using h)
 |n::l,none,m,h=>by
  rcases jlk (l:=l) (by simpa [iz] using h) with h|h
  .cases h;exact .inr smq
  exact .inr (by simp[h])
 |n::l,some k,m,h=>by
  rcases jlk (l:=l) (by simpa only[iz] using h) with h|h
  .split at h
   .cases h;exact .inr smq
   exact .inl h
  exact .inr (by simp[h])
theorem qoh{f:Fil}{s:Str}(h1:s≠ot)(h2:s≠jzx):trig f s d=(best f s d).map fun n=>(n.fst,n.lst):=by
 unfold trig;rw[ul h1,ul h2]
def jbu(n:Nat)(f:Nat->Int):Option Nat:=(List.range n).find? fun i=>f i != 0
def chk(lim n:Nat)(f:Nat->Int):Int×Int:=if lim<n then(-1,8) else match jbu n f with
 |some i=>(i,f i)
 |none=>(-1,0)
abbrev chkV(c:Int×Int):V:=.tup [vi c.1,vi c.2]
theorem jn{f:Nat->Int}(h:lim<n):chk lim n f=(-1,8):=by simp[chk,h]
theorem kf{f:Nat->Int}(h:¬lim<n){k:Nat}(hk:k<n)(ha:∀i,i<k->f i=0)(hf:f k≠0):chk lim n f=((k:Int),f k):=by
 have:jbu n f=some k:=by
  unfold jbu;rw[List.find?_range_eq_some];exact⟨by simpa using hf,by simpa using hk,fun i hi=>by simp[ha i hi]⟩
 simp[chk,h,this]
theorem ir{f:Nat->Int}(h:¬lim<n)(ha:∀i,i<n->f i=0):chk lim n f=(-1,0):=by
 have:jbu n f=none:=by
  unfold jbu;rw[xw];intro i hi;simp[ha i zfe]
 simp[chk,h,this]
theorem om{f:Nat->Int}(h:(chk lim n f).2=0):¬lim<n/\∀i,i<n->f i=0:=by
 by_cases hl:lim<n
 .rw[jn hl] at h;cases h
 refine⟨hl,fun i hi=>?_⟩;unfold chk at h;rw[ul hl] at h;cases hb:jbu n f with
 |some k=>
  rw[hb] at h;have:=qvs hb;simp only at h;rw[h] at this;simp at this
 |none=>
  have:=xw.1 hb i zfe;exact zdb
abbrev ints(l:List Int):V:=.slice 1 (l.map Cint)
structure Ofc where
 id:Int
 name:Str
 frm:Int
 til:Int
 nxt:List Int
abbrev Ofc.cs(o:Ofc):List V:=[vi o.id,.str o.name,vi o.frm,vi o.til,ints o.nxt]
abbrev ofcs(l:List Ofc):V:=.slice 5 (l.map Ofc.cs)
def Ofc.Fit(o:Ofc):Prop:=o.name.length<=1048576/\o.nxt.length<=1048576
def gq(l:List Ofc):Prop:=l.length<=1048576/\∀o∈l,o.Fit
def isId(n:Int)(o:Ofc):Bool:=decide (o.id=n)
def jf4(l:List Ofc)(n:Int):Int:=ix (isId n) l
def ar(l:List Ofc)(n:Int):Option Ofc:=l.find? (isId n)
def frmO(l:List Ofc)(n:Int):Int:=match ar l n with|some x=>x.frm|none=>0
def jb3(l:List Int)(i:Nat):Bool:=match l[i]? with|some x=>(l.take i).any (fun y=>decide (x=y))|none=>false
def dups(l:List Int):Bool:=(List.range l.length).any (jb3 l)
def dw(l:List Ofc)(o:Ofc):Int:=
 if dups o.nxt=true then 6 else if(o.nxt.any fun n=>(ar l n).isNone)=true then 7 else if(o.nxt.any fun n=> !decide (frmO l n=o.til))=true then 10 else 0
def badO(o:Ofc):Prop:=o.id<1\/1073741824<o.id\/bm o.frm o.til=false\/8<o.nxt.length
instance (o:Ofc):Decidable (badO o):=inferInstanceAs (Decidable (_\/_))
def fv(l:List Ofc)(i:Nat):Int:=match l[i]? with
 |none=>0
 |some o=>if badO o then 2 else if name o.name=false then 4 else
  if(match (if i=0 then none else l[i-1]?) with|some q=>decide (o.id<=q.id)|none=>false)=true then 5 else dw l o
def fy(l:List Ofc):Int×Int:=chk 32 l.length (fv l)
def dy(l:List Ofc):Bool:=(fy l).2 == 0
theorem qbe{l:List Int}(hx:l[i]?=some x)(h:(l.take i).any (fun y=>decide (x=y))=true):dups l=true:=by
 unfold dups;rw[vp];exact⟨i,by simpa using(gsi.1 hx).1,by simp only[jb3,hx];exact h⟩
theorem jyr{l:List Int}(h:∀i,i<l.length->jb3 l i=false):dups l=false:=by
 unfold dups;rw[vn];intro i hi;simp[h i zfe]
theorem qbf{l:List Int}(hx:l[i]?=some x)(h:(l.take i).any (fun y=>decide (x=y))=false):jb3 l i=false:=by
 simp only[jb3,hx];exact h
def addO(es:List Ofc)(o:Ofc):List Ofc:=if(ar es o.id).isSome=true then es else es++[o]
def idxO(l:List Ofc):List Ofc:=l.foldl addO []
def mj(es:List Ofc):List (V×V):=es.map fun o=>(vi o.id,.agg o.cs)
abbrev mapO(es:List Ofc):V:=.map ((mj es).map (·.1)) ((mj es).map (·.2))
theorem jfn{α β:Type}: ∀l:List (α×β),(l.map (·.1)).zip (l.map (·.2))=l
 |[]=>rfl
 |_::r=>by simp only[vl,List.zip_cons_cons,jfn r]
theorem jbi(n:Int):∀es:List Ofc,rh (vi n) (mj es)=some ((ar es n).map fun o=>.agg o.cs)
 |[]=>rfl
 |o::r=>by
  have ih:=jbi n r;unfold mj at ih;simp only[mj,vl,rh,kw,uy,ar,List.find?_cons,isId];by_cases h:n=o.id
  .subst h;simp
  have h':¬o.id=n:=fun e=>h e.symm;simp only[h,h',qw3];exact ih
theorem jrx{o:Ofc}: ∀ {es:List Ofc},ar es o.id=none->nj (vi o.id) (.agg o.cs) (mj es)=some (mj (es++[o]))
 |[],_=>rfl
 |e::r,h=>by
  simp only[ar,List.find?_cons,isId] at h;by_cases hk:e.id=o.id
  .simp[hk] at h
  have hk':¬o.id=e.id:=fun x=>hk x.symm;simp only[hk,qw3] at h;have ih:=jrx (o:=o) (es:=r) h;unfold mj at ih;simp only[mj,vl,List.cons_append,nj,kw,uy,hk',qw3,ih,Option.map_some]
theorem qle(es:List Ofc)(o:Ofc)(n:Int):ar (addO es o) n=match ar es n with|some x=>some x|none=>if isId n o=true then some o else none:=by
 unfold addO;split
 .rename_i h;cases e:ar es n with
  |some x=>rfl
  |none=>
   by_cases hn:isId n o=true
   .have:o.id=n:=by simpa [isId] using hn
    rw[this,e] at h;cases h
   rw[ul hn]
 unfold ar;rw[List.find?_append];cases e:List.find? (isId n) es with
 |some x=>rfl
 |none=>
  simp only[Option.none_or,List.find?_cons,List.find?_nil];cases isId n o<;>rfl
theorem jvv(n:Int):∀(l es:List Ofc),ar (l.foldl addO es) n=match ar es n with|some x=>some x|none=>ar l n
 |[],es=>by
  show ar es n=_
  cases ar es n<;>rfl
 |o::r,es=>by
  rw[List.foldl_cons,jvv n r,qle];cases e:ar es n with
  |some x=>rfl
  |none=>
   simp only;by_cases h:isId n o=true
   .simp[ar,h]
   simp[ar,h]
theorem jhc(l:List Ofc)(n:Int):ar (idxO l) n=ar l n:=by
 unfold idxO;rw[jvv];rfl
theorem ja5(l:List Ofc)(n:Int):(jf4 l n<0/\ar l n=none)\/∃(i:Nat) (o:Ofc),jf4 l n=i/\l[i]?=some o/\ar l n=some o:=by
 unfold jf4 ar;cases h:l.findIdx? (isId n) with
 |none=>
  exact zcn
 |some i=>
  obtain⟨hlt,hpi,hbef⟩:=qwb.1 h;refine .inr ⟨i,l[i],by simp[ix,h],gge hlt,?_⟩;exact zdf
theorem qoi(l:List Ofc)(o:Ofc):dw (idxO l) o=dw l o:=by
 have e:∀n,frmO (idxO l) n=frmO l n:=fun n=>by unfold frmO;rw[jhc]
 have h:(fun n=> !decide (frmO (idxO l) n=o.til))=fun n=> !decide (frmO l n=o.til):=by funext n;rw[e]
 unfold dw;rw[h];simp only[jhc]
theorem ry{l:List Ofc}{o:Ofc}(ho:l[i]?=some o)(h:badO o):fv l i=2:=by simp only[fv,ho];rw[um h]
theorem jmo{l:List Ofc}{o:Ofc}(ho:l[i]?=some o)(h:¬badO o)(hn:name o.name=false):fv l i=4:=by simp only[fv,ho];rw[ul h,um hn]
theorem jmn{l:List Ofc}{o q:Ofc}(ho:l[i]?=some o)(h:¬badO o)(hn:name o.name=true)(h0:i≠0)(hq:l[i-1]?=some q)(hle:o.id<=q.id):fv l i=5:=by
 exact zel
theorem jmm{l:List Ofc}{o q:Ofc}(ho:l[i]?=some o)(h:¬badO o)(hn:name o.name=true)(h0:i≠0)(hq:l[i-1]?=some q)(hle:¬o.id<=q.id):fv l i=dw l o:=by
 exact zel
theorem jl5{l:List Ofc}{o:Ofc}(ho:l[0]?=some o)(h:¬badO o)(hn:name o.name=true):fv l 0=dw l o:=by
 simp only[fv,ho];rw[ul h,ul (by simp[hn])];simp
def fk(s:Str):Bool:=name s && (!(s == [111,112,101,110,101,100]) && !(s == [99,108,111,115,101,100]))
def dz(a b:Int):Bool:=decide (0<=a/\a<=b/\b<=1048575)
def dayB(d f:Int):Bool:=decide (f<=d/\d<=1048575)
def ip(f:Fil)(n:Note):Bool:=dz n.fst n.lst && dayB n.rcd f.opn
def so(l:List Note)(j:Nat):Bool:=match (if j=0 then none else l[j-1]?),l[j]? with
 |some x,some y=>decide (y.rcd<x.rcd)
 |_,_=>false
def qg(l:List Note):Bool:=(List.range l.length).any (so l)
def jf(f:Fil):Int:=
 if 16<f.nts.length then 8 else if(f.nts.any fun n=> !fk n.name)=true then 4 else if(f.nts.any fun n=> !ip f n)=true then 2 else if qg f.nts=true then 5 else 0
def badF(f:Fil):Prop:=f.id<1\/1073741824<f.id\/dayB f.opn 0=false\/(dayB f.cld f.opn=false/\f.cld≠1048576)\/f.pts<0\/100<f.pts
instance (f:Fil):Decidable (badF f):=inferInstanceAs (Decidable (_\/_))
def nk(os:List Ofc)(id d:Int):Bool:=match ar os id with|some o=>inS o.frm o.til d|none=>false
def qo(ps:List Plan)(f:Fil):Bool:=decide (idx ps f.opn<0) || !has (pl ps (idx ps f.opn).toNat) f.cls
def ku(l:List Fil)(i:Nat)(f:Fil):Bool:=match (if i=0 then none else l[i-1]?) with|some q=>decide (f.id<=q.id)|none=>false
def iq(os:List Ofc)(ps:List Plan)(l:List Fil)(i:Nat):Int:=match l[i]? with
 |none=>0
 |some f=>if badF f then 2 else if ku l i f=true then 5 else if name f.title=false then 4 else if nk os f.ofc f.opn=false then 7 else if qo ps f=true then 24 else jf f
def jr(os:List Ofc)(ps:List Plan)(l:List Fil):Int×Int:=if dy os=false\/goodL ps=false then(-1,1) else chk 256 l.length (iq os ps l)
def iw(n:Int)(f:Fil):Bool:=decide (f.id=n)
def cv(l:List Fil)(n:Int):Int:=ix (iw n) l
theorem qbc{l:List Note}{x y:Note}(h0:j≠0)(hx:l[j-1]?=some x)(hy:l[j]?=some y):so l j=decide (y.rcd<x.rcd):=by
 unfold so;rw[ul h0,hx,hy]
theorem qbd(l:List Note):so l 0=false:=by unfold so;rw[um rfl]
theorem jsg{l:List Note}(hj:j<l.length)(h:so l j=true):qg l=true:=by
 unfold qg;rw[vp];exact⟨j,by simpa using hj,h⟩
theorem jry{l:List Note}(h:∀j,j<l.length->so l j=false):qg l=false:=by
 unfold qg;rw[vn];intro j hj;simp[h j zfd]
theorem jjw{f:Fil}(h:16<f.nts.length):jf f=8:=by unfold jf;rw[um h]
theorem jjx{f:Fil}(h:¬ 16<f.nts.length)(h4:(f.nts.any fun n=> !fk n.name)=true):jf f=4:=by unfold jf;rw[ul h,um h4]
theorem jg7{f:Fil}(h:¬ 16<f.nts.length)(h4:(f.nts.any fun n=> !fk n.name)=false)(h2:(f.nts.any fun n=> !ip f n)=true):jf f=2:=by unfold jf;rw[ul h,ul (by simp only[h4];exact Bool.noConfusion),um h2]
theorem jjv{f:Fil}(h:¬ 16<f.nts.length)(h4:(f.nts.any fun n=> !fk n.name)=false)(h2:(f.nts.any fun n=> !ip f n)=false):jf f=if qg f.nts=true then 5 else 0:=by
 unfold jf;rw[ul h,ul (by simp only[h4];exact Bool.noConfusion),ul (by simp only[h2];exact Bool.noConfusion)]
theorem ol{os:List Ofc}{ps:List Plan}{l:List Fil}{f:Fil}(hf:l[i]?=some f)(h:badF f):iq os ps l i=2:=by simp only[iq,hf];rw[um h]
theorem jmp{os:List Ofc}{ps:List Plan}{l:List Fil}{f:Fil}(hf:l[i]?=some f)(h:¬badF f):
  iq os ps l i=if ku l i f=true then 5 else if name f.title=false then 4 else if nk os f.ofc f.opn=false then 7 else if qo ps f=true then 24 else jf f:=by simp only[iq,hf];rw[ul h]
theorem qa3(l:List Fil)(f:Fil):ku l 0 f=false:=by unfold ku;rw[um rfl]
theorem jhv{l:List Fil}{f q:Fil}(h0:i≠0)(hq:l[i-1]?=some q):ku l i f=decide (f.id<=q.id):=by unfold ku;rw[ul h0,hq]
theorem jxt{os:List Ofc}{id:Int}(h:ar os id=none):nk os id d=false:=by unfold nk;rw[h]
theorem jxs{os:List Ofc}{id:Int}{o:Ofc}(h:ar os id=some o):nk os id d=inS o.frm o.til d:=by unfold nk;rw[h]
end Go.Arc
set_option maxRecDepth 100000
namespace Go.Arc
open Go.Ab Go.RowKit Go.Proofs Tryz
variable {T : Lay}
variable {l:List Plan}{α:Type}{q:α->Bool}{k:Nat}
theorem qmv(L:LibC T)(l:List Plan)(i:Nat)(hl:Fits l)(hi:i<l.length):Den prog T 249 [ay l,vi i] (vi (gf l i)):=by
 obtain⟨hl0,hf⟩:=hl;obtain⟨p,hp,-,hm⟩:=ac hi;have hfp:=hf p hm;obtain⟨h1,h2,-,-⟩:=id hfp;have hfa:gf l i=jx (before l i) i p:=by simp[gf,hp]
 rw[hfa];have hc8:(128<p.cls.length\/128<p.mov.length)->sc p=8:=fun h=>by simp[sc,h]
 have hcn:¬(128<p.cls.length\/128<p.mov.length)->sc p=fe p:=fun h=>by simp only[sc];rw[ul h]
 refine ab call249 func249 55 ?_;by_cases hv:p.ver=i+1
 .refine rcW hp (qlz p.frm p.til) ?_;cases hg:bm p.frm p.til
  .refine run ?_;exact fin (ah (ji0 (.inr hg)).symm)
  by_cases h0:i=0
  .subst h0;have hb:before l 0=none:=rfl;rw[hb];have h3:∀q':Plan,none=some q'->p.frm=q'.til:=fun _ h=>by cases h
   refine rc (jt2 L p hfp) ?_;by_cases h4:128<p.cls.length\/128<p.mov.length
   .rw[hc8 h4];refine run ?_;exact fin (ah (jc4 hv hg h3 h4).symm)
   rw[hcn h4];by_cases hc:fe p=0
   .rw[qb6 hv hg h4 hc,hc];by_cases hz:0<p.mov.length
    .rw[um hz];exact za
    rw[ul hz];exact za
   exact zby
  obtain⟨q,hq,-,hmq⟩:=ac (l:=l) (k:=i-1) omq;have hb:before l i=some q:=by unfold before;rw[ul h0,hq]
  rw[hb];by_cases hgap:p.frm=q.til
  .have h3:∀q':Plan,some q=some q'->p.frm=q'.til:=fun _ h=>by cases h;exact hgap
   refine rcW hq (jt2 L p hfp) ?_;by_cases h4:128<p.cls.length\/128<p.mov.length
   .rw[hc8 h4];refine run ?_;exact fin (ah (jc4 hv hg h3 h4).symm)
   rw[hcn h4];by_cases hc:fe p=0
   .rw[qb7 hv hg hgap h4 hc,hc];refine rcW hq (qmb L q p (hf q hmq) hfp) ?_;exact za
   exact zby
  refine runW hq ?_;exact fin (ah (jym hv hg rfl hgap).symm)
 refine runW hp ?_;exact fin (ah (ji0 (.inl hv)).symm)
theorem jdg(L:LibC T)(l:List Plan)(hl:Fits l):Den prog T 167 [ay l] (tq l):=by
 have hl0:=hl.1;refine ab call167 func167 22 ?_;by_cases h16:16<l.length
 .refine run ?_;refine fin ?_;simp only[tq,jux h16]
 refine run ?_;refine aj ⟨[11,0,10],[],[],[]⟩ l.length (fun k=>∀i,i<k->gf l i=0) omq ?_;rintro k ⟨hk,hall⟩;by_cases hlt:k<l.length
 .refine rc (qmv L l k hl hlt) ?_;by_cases hz:gf l k=0
  .refine run ?_;refine round (k+1) ⟨omq,fun i hi=>?_⟩ omq;by_cases e:i=k
   .exact zc6
   exact zb3
  refine run ?_;refine fin ?_;simp only[tq,jx9 h16 hlt hall hz]
 refine run ?_;refine fin ?_;simp only[tq,jz9 h16 fun i hi=>hall i omq]
theorem qsp(p:Plan)(d:Int):Den prog T 329 [.agg p.cs,.row [vi d]] (vb (inS p.frm p.til d)):=by
 refine ab call329 func329 16 ?_;unfold inS;by_cases h1:p.frm<=d<;>by_cases h2:d<p.til<;>(refine run ?_;refine fin (ae ?_);simp;try omega)
theorem jos(L:LibC T)(l:List Plan)(d:Int)(hl:Fits l):Den prog T 265 [ay l,vi d] (vi (atL l d)):=by
 refine ab call265 func265 17 ?_;refine rc (jdg L l hl) ?_;by_cases hg:(check l).2=0
 .refine rc (qir l _ _ (fun p=>inS p.frm p.til d) hl.1 fun p _=>qsp p d) ?_;refine run ?_;refine fin (ah ?_);simp[atL,goodL,hg,idx]
 refine run ?_;refine fin (ah ?_);simp[atL,goodL,hg]
theorem qit(L:LibC T)(l:List Plan)(f t:Nat)(s:Str)(hl:Fits l)(hft:f<=t)(ht:t<l.length)(hs:s.length<=1048576):
  Den prog T 331 [ay l,vi f,vi t,.str s] (.str (nq l f (t-f) s)):=by
 obtain⟨hl0,hf⟩:=hl;refine ab call331 func331 36 ?_;refine run ?_;refine bp ⟨[3,13,0,1,12],[],[],[]⟩ (fun y:Nat×Str=>y.1<=t-f/\y.2.length<=1048576/\nq l f (t-f) s=nq l (f+y.1) (t-f-y.1) y.2) (fun y=>t-f-y.1) (fun y=>[(3,.v (.str y.2)),(13,.v (vi y.1))]) (0,s) ⟨smq,hs,smq⟩ ?_;rintro⟨k,a⟩ ⟨hk,ha,hall⟩;simp only at hk ha hall;by_cases hlt:k<t-f
 .obtain⟨x,hx,-,hm⟩:=ac (l:=l) (k:=f+k) omq;obtain⟨y,hy,-,hm'⟩:=ac (l:=l) (k:=f+k+1) omq;have e1:((f:Int)+k).toNat=f+k:=omq;have e2:((f:Int)+k+1).toNat=f+k+1:=omq;refine rcW (ai hx (ai hy (ai e1 e2))) (jyy L x y a (hf x hm) (hf y hm') ha) ?_;obtain⟨b,e⟩:=qah x y a;rw[e];refine run ?_;refine round (k+1,nxt x y a) ⟨by simp only;omega,jof (hf y hm') ha,?_⟩ zev;simp only;rw[hall,show t-f-k=(t-f-(k+1))+1 by omega];simp only[nq];rw[sg hx,sg hy,qve]
 refine run ?_;refine fin ?_;rw[hall,show t-f-k=0 by omega];rfl
theorem jky(l:List Plan):goodL l=true↔(check l).2=0:=by simp[goodL]
theorem qm1(L:LibC T)(l:List Plan)(f t:Int)(hl:Fits l):Den prog T 330 [ay l,vi f,vi t] (vi (im l f t)):=by
 have hl0:=hl.1;refine ab call330 func330 29 ?_;refine rc (jdg L l hl) ?_;by_cases hc:(check l).2=0
 .have hg:=(jky l).2 hc;by_cases h1:f<1
  .refine run ?_;exact fin (ah (jkj hg (.inl h1)).symm)
  by_cases h2:t<f
  .refine run ?_;exact fin (ah (jkj hg (.inr (.inl h2))).symm)
  by_cases h3:l.length<t
  .refine run ?_;exact fin (ah (jkj hg (.inr (.inr h3))).symm)
  refine run ?_;exact fin (ah (jvb hg omq).symm)
 have hg:goodL l=false:=by simp[goodL,hc]
 refine run ?_;exact fin (ah (qk8 hg).symm)
theorem qgt(L:LibC T)(l:List Plan)(f t:Int)(s:Str)(hl:Fits l)(hs:s.length<=1048576):Den prog T 266 [ay l,vi f,vi t,.str s] (tj l f t s):=by
 have hl0:=hl.1;refine ab call266 func266 33 ?_;refine rc (qm1 L l f t hl) ?_;by_cases hv:im l f t=0
 .obtain⟨-,h1,h2,h3⟩:=qk7 hv;obtain⟨f,rfl⟩:=qcj h1;obtain⟨t,rfl⟩:=qcj (show 1<=t by omega);rw[hv];obtain⟨p,hp,-,hm⟩:=ac (l:=l) (k:=f) omq;have hpl:pl l ((f:Int)+1-1).toNat=p:=by rw[Int.add_sub_cancel,Int.toNat_natCast,sg hp]
  have ef:(f:Int)+1-1=f:=Int.add_sub_cancel _ _;have et:(t:Int)+1-1=t:=Int.add_sub_cancel _ _;refine rcW (ai hp (ai ef et)) (jar p s (hl.2 p hm).1) ?_;cases hh:has p s
  .refine run ?_;refine fin ?_;simp only[tj,jw8 hv (by rw[hpl];exact hh)]
  refine rcW (ai ef et) (qit L l f t s hl omq omq hs) ?_;refine run ?_;refine fin ?_;simp only[tj,jw9 hv (by rw[hpl];exact hh)];rw[ua,ef,Int.toNat_natCast,show ((t:Int)+1-(f+1)).toNat=t-f by omega]
 refine run ?_;refine fin ?_;simp only[tj,qlr hv]
theorem qk6(l:List Plan)(f t:Nat)(s:Str):ua l ((f:Int)+1) ((t:Int)+1) s=nq l f (t-f) s:=by
 unfold ua;rw[show ((f:Int)+1-1).toNat=f by omega,show ((t:Int)+1-(f+1)).toNat=t-f by omega]
def fewP(p:Plan):Bool:= !((decide (16<p.cls.length) && !decide (p.cls.length=129)) || decide (16<p.mov.length)) && p.cls.all (fun c=> !(decide (100<c.code.length) || decide (100<c.title.length))) &&
 p.mov.all fun m=> !(decide (100<m.frm.length) || decide (100<m.to.length))
def few(l:List Plan):Bool:= !((decide (5<l.length) && decide (l.length<=16)) || decide (21<l.length)) && l.all fewP
theorem kr{l:List α}{x:α}(hx:l[k]?=some x)(hq:q x=false):l.all q=false:=
 List.all_eq_false.2 ⟨x,vc hx,by simp[hq]⟩
theorem jat{l:List α}(h:∀e∈l.take k,q e=true)(hk:¬k<l.length):l.all q=true:=
 vj.2 (dh h hk)
theorem qgu(p:Plan)(hp:p.Fit):Den prog T 111 [.agg p.cs] (vb (fewP p)):=by
 obtain⟨h1,h2,h3,h4⟩:=hp;refine ab call111 func111 71 ?_;by_cases g:(16<p.cls.length/\p.cls.length≠129)\/16<p.mov.length
 .have hf:fewP p=false:=by
   rcases g with⟨g1,g2⟩|g
   .simp[fewP,g1,g2]
   simp[fewP,g]
  rw[hf];by_cases a1:16<p.cls.length
  .by_cases a2:p.cls.length=129
   .have a3:16<p.mov.length:=omq;exact za
   exact za
  have a3:16<p.mov.length:=omq;exact za
 have hq:fewP p=(p.cls.all (fun c=> !(decide (100<c.code.length) || decide (100<c.title.length))) && p.mov.all fun m=> !(decide (100<m.frm.length) || decide (100<m.to.length))):=by
  have e1:(decide (16<p.cls.length) && !decide (p.cls.length=129))=false:=by
   cases e:decide (16<p.cls.length)
   .rfl
   have:16<p.cls.length:=by simpa using e
   have:p.cls.length=129:=omq;simp[this]
  have e2:decide (16<p.mov.length)=false:=by simp;omega
  simp only[fewP,e1,e2,xx,qvl,yc]
 have go:∀Q:Prop,(16<p.cls.length->p.cls.length=129->Q)->(¬ 16<p.cls.length->Q)->Q:=fun Q a b=>by
  by_cases a1:16<p.cls.length
  .exact a a1 omq
  exact b a1
 rw[hq];have a3:¬ 16<p.mov.length:=omq;refine go _ (fun a1 a2=>?_) (fun a1=>?_) <;>
 .refine run ?_;refine aj ⟨[3,1],[1],[],[]⟩ p.cls.length (fun k=>∀c∈p.cls.take k,(!(decide (100<c.code.length) || decide (100<c.title.length)))=true) smq ?_;rintro k ⟨hk,hall⟩;by_cases hlt:k<p.cls.length
  .obtain⟨x,hx,hd,hm⟩:=ac hlt;obtain⟨hx1,hx2⟩:=h3 x hm;by_cases g1:100<x.code.length
   .refine runW hx ?_;refine fin (ae ?_);rw[kr (q:=fun c:Cls=> !(decide (100<c.code.length) || decide (100<c.title.length))) hx (by simp[g1])];rfl
   by_cases g2:100<x.title.length
   .refine runW hx ?_;refine fin (ae ?_);rw[kr (q:=fun c:Cls=> !(decide (100<c.code.length) || decide (100<c.title.length))) hx (by simp[g2])];rfl
   refine runW hx ?_;exact round (k+1) ⟨omq,an (q:=fun c:Cls=>(!(decide (100<c.code.length) || decide (100<c.title.length)))=true) hall hx (by simp[g1,g2])⟩ omq
  rw[jat (q:=fun c:Cls=> !(decide (100<c.code.length) || decide (100<c.title.length))) hall hlt,yc];refine run ?_;refine aj ⟨[4,1],[1],[],[]⟩ p.mov.length (fun k=>∀m∈p.mov.take k,(!(decide (100<m.frm.length) || decide (100<m.to.length)))=true) smq ?_;rintro k ⟨hk,hall⟩;by_cases hlt:k<p.mov.length
  .obtain⟨x,hx,hd,hm⟩:=ac hlt;obtain⟨hx1,hx2⟩:=h4 x hm;by_cases g1:100<x.frm.length
   .refine runW hx ?_;refine fin (ae ?_);rw[kr (q:=fun m:Mov=> !(decide (100<m.frm.length) || decide (100<m.to.length))) hx (by simp[g1])]
   by_cases g2:100<x.to.length
   .refine runW hx ?_;refine fin (ae ?_);rw[kr (q:=fun m:Mov=> !(decide (100<m.frm.length) || decide (100<m.to.length))) hx (by simp[g2])]
   refine runW hx ?_;exact round (k+1) ⟨omq,an (q:=fun m:Mov=>(!(decide (100<m.frm.length) || decide (100<m.to.length)))=true) hall hx (by simp[g1,g2])⟩ omq
  refine run ?_;refine fin (ae ?_);rw[jat (q:=fun m:Mov=> !(decide (100<m.frm.length) || decide (100<m.to.length))) hall hlt]
theorem qsn(l:List Plan)(hl:Fits l):Den prog T 60 [ay l] (vb (few l)):=by
 have hl0:=hl.1;refine ab call60 func60 29 ?_;by_cases g:(5<l.length/\l.length<=16)\/21<l.length
 .have hf:few l=false:=by
   rcases g with⟨g1,g2⟩|g
   .simp[few,g1,g2]
   simp[few,g]
  rw[hf];by_cases a1:l.length<=16
  .have a2:5<l.length:=omq;exact za
  have a2:5<l.length:=omq;have a3:21<l.length:=omq;exact za
 have hq:few l=l.all fewP:=by
  have e1:(decide (5<l.length) && decide (l.length<=16))=false:=by
   cases e:decide (5<l.length)
   .rfl
   have:5<l.length:=by simpa using e
   simp;omega
  have e2:decide (21<l.length)=false:=by simp;omega
  simp only[few,e1,e2,xx,qvl,yc]
 have go:∀Q:Prop,(5<l.length->¬l.length<=16->Q)->(¬ 5<l.length->Q)->Q:=fun Q a b=>by
  by_cases a1:5<l.length
  .exact a a1 omq
  exact b a1
 rw[hq];have a3:¬ 21<l.length:=omq;refine go _ (fun a1 a2=>?_) (fun a1=>?_) <;>
 .refine run ?_;refine aj ⟨[3,0],[],[],[]⟩ l.length (fun k=>∀p∈l.take k,fewP p=true) smq ?_;rintro k ⟨hk,hall⟩;by_cases hlt:k<l.length
  .obtain⟨x,hx,hd,hm⟩:=ac hlt;refine rcW hx (qgu x (hl.2 x hm)) ?_;cases e:fewP x
   .refine run ?_;refine fin (ae ?_);rw[kr hx e]
   refine run ?_;exact round (k+1) ⟨omq,an (q:=fun p:Plan=>fewP p=true) hall hx e⟩ omq
  refine run ?_;refine fin (ae ?_);rw[jat hall hlt]
theorem qtp(hl:Fits l)(i:Nat):(pl l i).Fit:=by
 unfold pl;rw[qvd];cases h:l[i]? with
 |none=>exact⟨dcq,dcq,by simp[dflt],by simp[dflt]⟩
 |some p=>exact hl.2 p (vc h)
theorem jv9{l:List Plan}(hl:Fits l):∀(n i:Nat) (s:Str),s.length<=1048576->(nq l i n s).length<=1048576
 |0,_,_,hs=>hs
 |n+1,i,_,hs=>jv9 hl n (i+1) _ (jof (qtp hl _) hs)
theorem jnh(h:goodL l=true)(d:Int):atL l d=idx l d:=by simp[atL,h]
end Go.Arc
