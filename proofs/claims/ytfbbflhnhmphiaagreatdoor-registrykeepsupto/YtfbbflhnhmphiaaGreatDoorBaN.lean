/- A part of this claim. -/
import Derived.Test.YtfbbflhnhmphiaaGreatDoorBaL
set_option maxRecDepth 100000
namespace Go.Arc
open Go.Ab Go.RowKit Go.Proofs Tryz
variable {T : Lay}
variable {l:List Plan}{q:Option Plan}{p:Plan}{i:Nat}{s:Str}{f:Int}{t:Int}{old:Plan}{new:Plan}{n:Int}{a:Str}{b:Str}{x:Str}
theorem qog(l:List Mov)(f:FuncId)(cap:List V)(p:Mov->Bool)(hl:l.length<=1048576)(hp:∀e∈l,Den prog T f (.agg e.cs::cap) (vb (p e))):
   Den prog T 328 [movs l,.func f cap] (vi (ix p l)):=by
  refine ab call328 func328 19 ?_;exact ixPf
theorem qkg(l:List Plan)(f:FuncId)(cap:List V)(p:Plan->Bool)(hl:l.length<=1048576)(hp:∀e∈l,Den prog T f (.agg e.cs::cap) (vb (p e))):
   Den prog T 199 [bh l,.func f cap] (vi (ix p l)):=by
  refine ab call199 func199 19 ?_;exact ixPf
theorem qp6(c:Mov)(s:Str):Den prog T 329 [.agg c.cs,.row [.str s]] (vb (c.frm == s)):=by
 refine ab call329 func329 8 ?_;exact za
abbrev jcx(old new:Plan)(s:Str):V:=match next old new s with
 |some x=>.tup [.str x,vb true]
 |none=>.tup [.str [],vb false]
theorem jf3(h:next old new s=some x):jcx old new s=.tup [.str x,vb true]:=by simp[jcx,h]
theorem jik(h:next old new s=none):jcx old new s=.tup [.str [],vb false]:=by simp[jcx,h]
theorem jf4{α:Type}(p:α->Bool)(l:List α):(ix p l= -1/\l.find? p=none)\/∃k x,ix p l=(k:Nat)/\k<l.length/\l[k]?=some x/\l.find? p=some x/\p x=true:=by
 cases h:l.findIdx? p with
 |none=>
  exact zci
 |some i=>
  obtain⟨hlt,hpi,hbef⟩:=xbb.1 h;refine .inr ⟨i,l[i],by simp[ix,h],hlt,gge hlt,?_,hpi⟩;exact zc8
theorem jzs(L:LibC T)(old new:Plan)(s:Str)(ho:old.Fit)(hn:new.Fit)(hs:s.length<=1048576):Den prog T 263 [.agg old.cs,.agg new.cs,.str s] (jcx old new s):=by
 obtain⟨ho1,ho2,ho3,ho4⟩:=ho;obtain⟨hn1,hn2,hn3,hn4⟩:=hn;refine ab call263 func263 59 ?_;refine rc (jap old s ho1) ?_;cases h1:has old s
 .refine run ?_;exact fin (jik (by simp[next,h1])).symm
 refine rc (qog new.mov _ _ (fun m=>m.frm == s) hn2 fun e _=>qp6 e s) ?_;rcases jf4 (fun m:Mov=>m.frm == s) new.mov with⟨hi,hf⟩|⟨k,x,hi,hlt,hx,hf,-⟩
 .rw[hi];refine rc (jap new s hn1) ?_;cases h2:has new s
  .refine run ?_;have hnext:next old new s=up new s:=by simp[next,h1,hf]
   refine loop ⟨[5,9,33,34,35],[5],[],[]⟩ (fun y:Nat×Nat=>y.1<=new.cls.length/\y.2<=lens s/\(0<y.2->has new (pre s y.2)=true)/\∀c∈new.cls.take y.1,db s c.code=true->lens c.code<=y.2) (fun y=>new.cls.length-y.1)
    (fun y=>⟨59,[(5,.p 5 0),(9,.v (.str (pre s y.2))),(33,.v (clss new.cls)),(34,.v (vi new.cls.length)),(35,.v (vi y.1))],[(5,.con [.str s])],[]⟩) (0,0) ⟨smq,smq,smq,smq⟩ ?_ ?_
   .rintro⟨k,j⟩ ⟨hk,hj,hh,hall⟩;simp only at hk hj hh hall;by_cases hlt:k<new.cls.length
    .obtain⟨c,hc,hd,hm⟩:=af hlt;have hcl:=(hn3 c hm).1;refine rcW hc (jh1 L s c.code hs hcl) ?_;cases hw:db s c.code
     .refine run ?_;refine round (k+1,j) ⟨by simp only;omega,hj,hh,?_⟩ zeo;refine jc (q:=fun c:Cls=>db s c.code=true->lens c.code<=j) hall hc ?_;rw[hw];intro h;cases h
     refine rc (jk1 L c.code hcl) ?_;obtain⟨l,m,hps,hpm,hm1,hm2,hm3⟩:=jtb hw;obtain⟨w1,w2,w3⟩:=qio hw;have hlm:=uj hpm;rw[oq hpm];refine run ?_
     have hpl:(pre s j).length<=1048576:=by
      by_cases hz:j=0
      .subst hz;rw[jhy];simp
      rw[jej hps hz];have:=jgy (l.take j);obtain⟨-,h6,-⟩:=me hps;simp at this;omega
     refine call (jk1 L (pre s j) hpl) ?_
     have hnb:∃nb,uq (pre s j)=nb/\((nb=.val (.slice none 0 0)/\j=0)\/∃q,nb=nats q/\q.length=j):=by
      by_cases hz:j=0
      .subst hz;exact⟨_,qk (by rw[jhy];exact qmo),.inl ⟨rfl,rfl⟩⟩
      rw[uj hps] at hj;have:=jkk hps (j:=j) omq hj;rw[jej hps hz];exact⟨_,oq this,.inr ⟨_,rfl,by simp;omega⟩⟩
     obtain⟨nb,e,hnb⟩:=hnb;rw[e]
     have hgo:∀j',j<=j'->m.length<=j'->∀c∈new.cls.take (k+1),db s c.code=true->lens c.code<=j':=fun j' g1 g2=>
      jc (q:=fun c:Cls=>db s c.code=true->lens c.code<=j') (fun e he hw=>xc (hall e he hw) g1) hc (fun _=>by rw[hlm];exact g2)
     by_cases hgt:j<m.length
     .have hgt':¬m.length<=j:=omq;have hne:0<m.length:=omq;have hnew:c.code=pre s m.length:=by rw[<- hlm];exact w3
      have hhas:has new (pre s m.length)=true:=qbf.2 ⟨c,hm,hnew⟩;rcases hnb with⟨rfl,rfl⟩|⟨q,rfl,rfl⟩
      .exact zbe
      exact zbe
     rcases hnb with⟨rfl,rfl⟩|⟨q,rfl,rfl⟩
     .omega
     refine run ?_;exact round (k+1,q.length) ⟨by simp only;omega,hj,hh,hgo _ omq omq⟩ zeo
    have hall':∀c∈new.cls,db s c.code=true->lens c.code<=j:=jht (q:=fun c:Cls=>db s c.code=true->lens c.code<=j) hall hlt;have hu:=qv8 h2 hj hh hall';by_cases hz:j=0
    .subst hz;rw[jhy];refine run ?_;refine fin (xbd (jik ?_));rw[hnext,hu];rfl
    have hb:pre s j≠[]:=fun e=>by
     cases hps:ak s with
     |none=>rw[qd3 hps] at hj;omega
     |some l=>
      obtain⟨h0,-,-⟩:=me hps;rw[jej hps hz] at e;refine qzr (fun e'=>?_) e;have:=congrArg List.length e';rw[xq,List.length_nil] at this;have:=yn.2 h0;omega
    have hb':=jji hb;refine runW hb' ?_;refine fin (xbd (jf3 ?_));rw[hnext,hu,vd hz]
   rw[jhy];rfl
  refine run ?_;refine fin (xbd (jf3 ?_));simp[next,h1,hf,up,h2]
 rw[hi];refine runW hx ?_;refine fin (xbd (jf3 ?_));simp[next,h1,hf]
theorem qou(p:Plan)(hl:p.cls.length<=1048576):DenO prog T 323 [.agg p.cs] 9 (strs (p.cls.map (·.code))):=by
 refine pz call323 func323 20 ?_;refine run ?_
 refine loop ⟨[3,7,8,9],[],[3],[(3,9,1)]⟩ (fun y:Nat×List Str=>y.1<=p.cls.length/\y.2=(p.cls.take y.1).map (·.code)) (fun y=>p.cls.length-y.1)
  (fun y=>⟨20,[(3,.v (strs y.2)),(7,.v (clss p.cls)),(8,.v (vi p.cls.length)),(9,.v (vi y.1))],[],[(9,[3])]⟩) (0,[]) ⟨smq,smq⟩ ?_
 rintro⟨k,out⟩ ⟨hk,hall⟩;simp only at hk hall;have hol:out.length=k:=by rw[hall];simp;omega
 by_cases hlt:k<p.cls.length
 .obtain⟨x,hx,hd,hm⟩:=af hlt;have hap:out.map Cst++[[V.str x.code]]=(out++[x.code]).map Cst:=by simp
  refine runW (ai hx hap) ?_;refine round (k+1,out++[x.code]) ⟨by simp only;omega,?_⟩ zeo;exact zw
 have ho:out=p.cls.map (·.code):=by rw[hall,ye omq]
 subst ho;exact zu
theorem qe6(h:cmp a b=some n):lt2 a b=decide (n<0):=by simp[lt2,h]
theorem lt2_n(h:cmp a b=none):lt2 a b=false:=by simp[lt2,h]
theorem qpj(h:cmp a b=some n): -1<=n/\n<=1:=by
 unfold cmp at h;split at h
 .rename_i x y _ _;cases h
  have:∀x y:List Nat,-1<=cmpL x y/\cmpL x y<=1:=by
   intro x
   induction x with
   |nil=>intro y;cases y<;>simp[cmpL]
   |cons a r ih=>
    intro y;cases y with
    |nil=>simp[cmpL]
    |cons b q=>
     simp only[cmpL];split
     .simp
     split
     .simp
     exact ih q
  exact this x y
 cases h
theorem jvb(L:LibC T)(l:List Str)(hl:l.length<=1048576)(hs:∀s∈l,s.length<=1048576):Den prog T 322 [strs l] (vb (ou l)):=by
 refine ab call322 func322 32 ?_;refine run ?_;refine dq ⟨[9,0,8],[],[],[]⟩ l.length (fun k=>ou l=ou (l.drop k)) smq ?_;rintro k ⟨hk,hall⟩;by_cases hlt:k+1<l.length
 .obtain⟨x,hx,hd,hm⟩:=af (l:=l) (k:=k) omq;obtain⟨y,hy,he,hm'⟩:=af hlt;have hr:=qhf hd he;refine rcW (ai hx hy) (qic L x y (hs x hm) (hs y hm')) ?_;cases hc:cmp x y with
  |none=>
   rw[jri hc];refine run ?_;refine fin (ah ?_);rw[hall,hr,lt2_n hc];rfl
  |some n=>
   rw[qdk hc];have hrn:=qpj hc;by_cases h0:n<0
   .refine run ?_;refine round (k+1) ⟨omq,?_⟩ omq;rw[hall,hr,qe6 hc];simp[h0]
   refine run ?_;refine fin (ah ?_);rw[hall,hr,qe6 hc];simp[h0]
 refine run ?_;refine fin (ah ?_);rw[hall,qj2 hlt]
theorem qsz(L:LibC T)(c:Cls)(hc:c.Fit):Den prog T 319 [.agg c.cs] (vb (!(ak c.code).isSome)):=by
 refine ab call319 func319 7 ?_;refine rc (jk1 L c.code hc.1) ?_;cases hp:ak c.code with
 |none=>rw[qk hp];refine run ?_;exact fin (ah rfl)
 |some l=>
  rw[oq hp];obtain⟨h0,-,-⟩:=me hp;cases l with
  |nil=>exact absurd rfl h0
  |cons n r=>
   have e:nats (n::r)=.slice 1 (Cnat n::r.map Cnat):=rfl;refine runW e ?_;exact fin (ah rfl)
theorem qsy(L:LibC T)(c:Cls)(hc:c.Fit):Den prog T 321 [.agg c.cs] (vb (!name c.title)):=by
 refine ab call321 func321 7 ?_;refine rc (ua L c.title hc.2) ?_;exact za
theorem qsx(L:LibC T)(p:Plan)(hp:p.cls.length<=1048576)(c:Cls)(hc:c.Fit):Den prog T 324 [.agg c.cs,.row p.cs] (vb (jfc p c)):=by
 refine ab call324 func324 19 ?_;refine rc (qkx L c.code hc.1) ?_;cases h:ui c.code with
 |none=>rw[jlq h];refine run ?_;refine fin (ah ?_);simp[jfc,h]
 |some u=>
  rw[jwj h];refine rc (jap p u hp) ?_;refine run ?_;refine fin (ah ?_);simp[jfc,h]
def sl(p:Plan):Int:=if 128<p.cls.length\/128<p.mov.length then 8 else mw p
theorem jtu(L:LibC T)(p:Plan)(hp:p.Fit):Den prog T 259 [.agg p.cs] (vi (sl p)):=by
 obtain⟨h1,h2,h3,h4⟩:=hp;refine ab call259 func259 33 ?_;have hcl:(p.cls.map (·.code)).length<=1048576:=by simpa using h1
 have hcs:∀s∈p.cls.map (·.code),s.length<=1048576:=by
  intro s hs;obtain⟨c,hc,rfl⟩:=ya.1 hs;exact(h3 c hc).1
 by_cases g1:128<p.cls.length
 .refine run ?_;refine fin (bc ?_);simp[sl,g1]
 by_cases g2:128<p.mov.length
 .refine run ?_;refine fin (bc ?_);simp[sl,g2]
 have hce:sl p=mw p:=by simp[sl,g1,g2]
 rw[hce];unfold mw;refine rc (jdv p.cls _ _ _ h1 fun c hc=>qsz L c (h3 c hc)) ?_;cases e1:p.cls.any fun c=> !(ak c.code).isSome
 .refine rc (jdv p.cls _ _ _ h1 fun c hc=>qsy L c (h3 c hc)) ?_;cases e2:p.cls.any fun c=> !name c.title
  .refine run ?_;refine jsj (qou p h1) ?_;refine rc (jvb L _ hcl hcs) ?_;cases e3:ou (p.cls.map (·.code))
   .exact za
   refine rc (jdv p.cls _ _ _ h1 fun c hc=>qsx L p h1 c (h3 c hc)) ?_;cases e4:p.cls.any (jfc p)
   .exact za
   exact za
  exact za
 exact za
theorem qsn(L:LibC T)(old new:Plan)(ho:old.Fit)(hn:new.Fit)(c:Cls)(hc:c.Fit):Den prog T 326 [.agg c.cs,.row old.cs,.row new.cs] (vb (next old new c.code).isNone):=by
 refine ab call326 func326 17 ?_;refine rc (jzs L old new c.code ho hn hc.1) ?_;cases h:next old new c.code with
 |none=>rw[jik h];refine run ?_;exact fin rfl
 |some x=>rw[jf3 h];refine run ?_;exact fin rfl
theorem qo6(L:LibC T)(old p:Plan)(ho:old.Fit)(hp:p.Fit):Den prog T 260 [.agg old.cs,.agg p.cs] (vi (jce old p)):=by
 have ho0:=ho;have hp0:=hp;obtain⟨o1,o2,o3,o4⟩:=ho;obtain⟨h1,h2,h3,h4⟩:=hp;refine ab call260 func260 42 ?_;refine run ?_
 refine loop ⟨[2,3,5,10,11,12],[2,3],[5],[(5,9,1)]⟩ (fun y:Nat×List Str=>y.1<=p.mov.length/\y.2=(p.mov.take y.1).map (·.frm)/\∀m∈p.mov.take y.1,(!has old m.frm || !has p m.to)=false) (fun y=>p.mov.length-y.1)
  (fun y=>⟨42,[(2,.p 2 0),(3,.p 3 0),(5,.v (strs y.2)),(10,.v (movs p.mov)),(11,.v (vi p.mov.length)),(12,.v (vi y.1))],[(2,.var old.cs),(3,.var p.cs)],[(9,[5])]⟩) (0,[]) ⟨smq,smq,smq⟩ ?_
 rintro⟨k,out⟩ ⟨hk,hall,hno⟩;simp only at hk hall hno;have hol:out.length=k:=by rw[hall];simp;omega
 by_cases hlt:k<p.mov.length
 .obtain⟨x,hx,hd,hm⟩:=af hlt;refine rcW hx (jap old x.frm o1) ?_;cases e1:has old x.frm
  .refine run ?_;refine fin (bc ?_);have:p.mov.any (fun m=> !has old m.frm || !has p m.to)=true:=jrq hx (by simp[e1]);simp[jce,this]
  refine rc (jap p x.to h1) ?_;cases e2:has p x.to
  .refine run ?_;refine fin (bc ?_);have:p.mov.any (fun m=> !has old m.frm || !has p m.to)=true:=jrq hx (by simp[e2]);simp[jce,this]
  have hap:out.map Cst++[[V.str x.frm]]=(out++[x.frm]).map Cst:=by simp
  refine runW hap ?_;refine round (k+1,out++[x.frm]) ⟨by simp only;omega,?_,jc (q:=fun m:Mov=>(!has old m.frm || !has p m.to)=false) hno hx (by simp[e1,e2])⟩ zeo;exact zw
 have hany:p.mov.any (fun m=> !has old m.frm || !has p m.to)=false:=qck hno hlt;have hout:out=p.mov.map (·.frm):=by rw[hall,ye omq]
 subst hout;unfold jce;rw[hany];have hml:(p.mov.map (·.frm)).length<=1048576:=by simpa using h2
 have hms:∀s∈p.mov.map (·.frm),s.length<=1048576:=by
  intro s hs;obtain⟨m,hm,rfl⟩:=ya.1 hs;exact(h4 m hm).1
 refine rc (jvb L _ hml hms) ?_;cases e3:ou (p.mov.map (·.frm))
 .exact za
 refine rc (jdv old.cls _ _ _ o1 fun c hc=>qsn L old p ho0 hp0 c (o3 c hc)) ?_;cases e4:old.cls.any fun c=>(next old p c.code).isNone
 .exact za
 exact za
def dflt:Plan:=⟨0,0,0,[],[]⟩
def pl(l:List Plan)(i:Nat):Plan:=l.getD i dflt
theorem jb0(h:l[i]?=some p):pl l i=p:=by simp[pl,h]
def Fits(l:List Plan):Prop:=l.length<=1048576/\∀p∈l,p.Fit
def nxt(old new:Plan)(s:Str):Str:=(next old new s).getD []
def pd(l:List Plan):Nat->Nat->Str->Str
 |_,0,s=>s
 |i,n+1,s=>pd l (i+1) n (nxt (pl l i) (pl l (i+1)) s)
def gv(l:List Plan)(f t:Int):Int:=if goodL l=false then 1 else if f<1\/t<f\/l.length<t then 7 else 0
def jay(l:List Plan)(f t:Int)(s:Str):Str:=pd l (f-1).toNat (t-f).toNat s
def ue(l:List Plan)(f t:Int)(s:Str):Str×Int:=
 if gv l f t≠0 then([],gv l f t) else if has (pl l (f-1).toNat) s=false then([],7) else(jay l f t s,0)
theorem qrm(hn:new.Fit)(hs:s.length<=1048576)(h:next old new s=some x):x.length<=1048576:=by
 unfold next at h;split at h
 .split at h
  .rename_i m hm;cases h;exact(hn.2.2.2 m (xb0 hm)).2
  unfold up at h;split at h
  .cases h;exact hs
  split at h
  .cases h
  rename_i l hl;obtain⟨-,h6,-⟩:=me hl
  have:∀n,pb new l n=some x->x.length<=1048576:=by
   intro n
   induction n with
   |zero=>intro h;cases h
   |succ n ih=>
    intro h;simp only[pb] at h;split at h
    .cases h;have:=jgy (l.take (n+1));simp at this;omega
    exact ih h
  exact this _ h
 cases h
theorem qb7(hn:new.Fit)(hs:s.length<=1048576):(nxt old new s).length<=1048576:=by
 unfold nxt;cases h:next old new s with
 |none=>simp
 |some x=>exact qrm hn hs h
theorem qw4(old new:Plan)(s:Str):∃b,jcx old new s=.tup [.str (nxt old new s),vb b]:=by
 cases h:next old new s with
 |none=>exact⟨false,by rw[jik h];simp[nxt,h]⟩
 |some x=>exact⟨true,by rw[jf3 h];simp[nxt,h]⟩
theorem qbv(h:p.ver≠i+1\/cd p.frm p.til=false):jn q i p=2:=by simp only[jn];rw[ve h]
theorem qs8{q':Plan}(h1:p.ver=i+1)(h2:cd p.frm p.til=true)(hq:q=some q')(h3:p.frm≠q'.til):jn q i p=16:=by
 simp only[jn];rw[vd (by simp[h1,h2]),ve ⟨q',hq,h3⟩]
theorem qbu(h1:p.ver=i+1)(h2:cd p.frm p.til=true)(h3:∀q',q=some q'->p.frm=q'.til)(h4:128<p.cls.length\/128<p.mov.length):jn q i p=8:=by
 simp only[jn];rw[vd (by simp[h1,h2]),vd (by rintro⟨q',e,h⟩;exact h (h3 q' e)),ve h4]
theorem qbt(h1:p.ver=i+1)(h2:cd p.frm p.til=true)(h3:∀q',q=some q'->p.frm=q'.til)(h4:¬(128<p.cls.length\/128<p.mov.length))(h5:mw p≠0):jn q i p=mw p:=by
 simp only[jn];rw[vd (by simp[h1,h2]),vd (by rintro⟨q',e,h⟩;exact h (h3 q' e)),vd h4,ve h5]
theorem qwu(h1:p.ver=i+1)(h2:cd p.frm p.til=true)(h4:¬(128<p.cls.length\/128<p.mov.length))(h5:mw p=0):jn none i p=if 0<p.mov.length then 1 else 0:=by
 simp only[jn];rw[vd (by simp[h1,h2]),vd (by rintro⟨q',e,h⟩;cases e),vd h4,vd (by simp[h5])]
theorem qwv{q:Plan}(h1:p.ver=i+1)(h2:cd p.frm p.til=true)(h3:p.frm=q.til)(h4:¬(128<p.cls.length\/128<p.mov.length))(h5:mw p=0):jn (some q) i p=jce q p:=by
 simp only[jn];rw[vd (by simp[h1,h2]),vd (by rintro⟨q',e,h⟩;cases e;exact h h3),vd h4,vd (by simp[h5])]
theorem qlf(h:16<l.length):check l=(-1,8):=by simp[check,h]
theorem qpm(h:¬ 16<l.length){k:Nat}(hk:k<l.length)(ha:∀i,i<k->jt l i=0)(hf:jt l k≠0):check l=((k:Int),jt l k):=by
 simp[check,h,xa5 hk ha hf]
theorem qu0(h:¬ 16<l.length)(ha:∀i,i<l.length->jt l i=0):check l=(-1,0):=by
 simp[check,h,qu9 ha]
theorem qm1(h:goodL l=false):gv l f t=1:=by simp[gv,h]
theorem jle(h:goodL l=true)(h':f<1\/t<f\/l.length<t):gv l f t=7:=by simp[gv,h,h']
theorem jw2(h:goodL l=true)(h':¬(f<1\/t<f\/l.length<t)):gv l f t=0:=by simp[gv,h,h']
theorem qm0(h:gv l f t=0):goodL l=true/\1<=f/\f<=t/\t<=l.length:=by
 unfold gv at h;split at h
 .cases h
 split at h
 .cases h
 rename_i h1 h2;exact⟨by simpa using h1,omq,omq,omq⟩
abbrev ud(l:List Plan)(f t:Int)(s:Str):V:=.tup [.str (ue l f t s).1,vi (ue l f t s).2]
theorem qni(h:gv l f t≠0):ue l f t s=([],gv l f t):=by simp[ue,h]
theorem jx0(h:gv l f t=0)(h':has (pl l (f-1).toNat) s=false):ue l f t s=([],7):=by unfold ue;rw[vd (fun e=>e h),ve h']
theorem jx1(h:gv l f t=0)(h':has (pl l (f-1).toNat) s=true):ue l f t s=(jay l f t s,0):=by unfold ue;rw[vd (fun e=>e h),vd (by rw[h'];exact Bool.noConfusion)]
theorem qd1(h:1<=n):∃k:Nat,n=k+1:=⟨(n-1).toNat,omq⟩
end Go.Arc
namespace Go.Arc
open Go.Ab
variable {i:Nat}{lim:Nat}{n:Nat}{d:Int}{x:Int}{j:Nat}
theorem qvn{l:List Plan}(h:i<l.length):l[i]?=some (pl l i):=by
 rw[gge h];simp[pl,h]
theorem qn9(l:List Plan)(d:Int):(idx l d= -1/\∀i,i<l.length->inS (pl l i).frm (pl l i).til d=false)\/∃i:Nat,idx l d=i/\i<l.length/\inS (pl l i).frm (pl l i).til d=true:=by
 rcases jf4 (fun p:Plan=>inS p.frm p.til d) l with⟨h1,h2⟩|⟨k,x,h1,h2,h3,-,h5⟩
 .refine .inl ⟨h1,fun i hi=>?_⟩;rw[yq] at h2;have:=h2 (pl l i) (vp (qvn hi));exact zb4
 exact .inr ⟨k,h1,h2,by rw[jb0 h3];exact h5⟩
structure Note where
 name:Str
 fst:Int
 lst:Int
 rcd:Int
 deriving DecidableEq
structure Fil where
 id:Int
 ofc:Int
 opn:Int
 cld:Int
 cls:Str
 title:Str
 pts:Int
 nts:List Note
abbrev Note.cs(n:Note):List V:=[.str n.name,vi n.fst,vi n.lst,vi n.rcd]
abbrev ntss(l:List Note):V:=.slice 4 (l.map Note.cs)
abbrev Fil.cs(f:Fil):List V:=[vi f.id,vi f.ofc,vi f.opn,vi f.cld,.str f.cls,.str f.title,vi f.pts,ntss f.nts]
abbrev fils(l:List Fil):V:=.slice 8 (l.map Fil.cs)
abbrev datg(a b:Int):V:=.agg [vi a,vi b]
def Note.Fit(n:Note):Prop:=n.name.length<=1048576
def Fil.Fit(f:Fil):Prop:=f.cls.length<=1048576/\f.title.length<=1048576/\f.nts.length<=1048576/\∀n∈f.nts,n.Fit
def ri(l:List Fil):Prop:=l.length<=1048576/\∀f∈l,f.Fit
def qm(d:Int)(n:Note):Bool:=decide (n.rcd<=d)
def jj(f:Fil)(d:Int):List Note:=f.nts.filter (qm d)
def gtN(a b:Note):Bool:=decide (b.lst<a.lst) || (decide (a.lst=b.lst) && decide (b.fst<a.fst))
def jg2:Option Note->List Note->Option Note
 |o,[]=>o
 |none,n::l=>jg2 (some n) l
 |some m,n::l=>jg2 (some (if gtN n m=true then n else m)) l
def mj:Str:=[111,112,101,110,101,100]
def jox:Str:=[99,108,111,115,101,100]
def onD(d day:Int):Option (Int×Int):=if day<d then none else some (d,d)
def named(s:Str)(n:Note):Bool:=n.name == s
def own(f:Fil)(s:Str)(d:Int):List Note:=(jj f d).filter (named s)
def best(f:Fil)(s:Str)(d:Int):Option Note:=jg2 none (own f s d)
def trig(f:Fil)(s:Str)(d:Int):Option (Int×Int):=
 if s=mj then onD f.opn d else if s=jox then onD f.cld d else(best f s d).map fun n=>(n.fst,n.lst)
abbrev jsi(r:Option (Int×Int)):V:=match r with
 |some x=>.tup [datg x.1 x.2,vb true]
 |none=>.tup [datg 0 0,vb false]
abbrev qy(f:Fil)(s:Str)(d:Int):V:=jsi (trig f s d)
def state(f:Fil)(d:Int):Int:=if d<f.opn then 0 else if d<f.cld then 1 else 2
def bd(l:List Plan)(f:Fil)(d:Int):Str×Int:=
 if goodL l=false then([],1)
 else if idx l f.opn<0\/idx l d<idx l f.opn then([],24)
 else if has (pl l (idx l f.opn).toNat) f.cls=false then([],24)
 else(jay l (idx l f.opn+1) (idx l d+1) f.cls,0)
abbrev jcm(l:List Plan)(f:Fil)(d:Int):V:=.tup [.str (bd l f d).1,vi (bd l f d).2]
theorem qqo{f:Fil}{s:Str}(h1:s≠mj)(h2:s≠jox):trig f s d=(best f s d).map fun n=>(n.fst,n.lst):=by
 unfold trig;rw[vd h1,vd h2]
def jc3(n:Nat)(f:Nat->Int):Option Nat:=(List.range n).find? fun i=>f i != 0
def chk(lim n:Nat)(f:Nat->Int):Int×Int:=if lim<n then(-1,8) else match jc3 n f with
 |some i=>(i,f i)
 |none=>(-1,0)
abbrev chkV(c:Int×Int):V:=.tup [vi c.1,vi c.2]
theorem ub{f:Nat->Int}(h:lim<n):chk lim n f=(-1,8):=by simp[chk,h]
theorem jf9{f:Nat->Int}(h:¬lim<n){k:Nat}(hk:k<n)(ha:∀i,i<k->f i=0)(hf:f k≠0):chk lim n f=((k:Int),f k):=by
 have:jc3 n f=some k:=by
  unfold jc3;rw[List.find?_range_eq_some];exact⟨by simpa using hf,by simpa using hk,fun i hi=>by simp[ha i hi]⟩
 simp[chk,h,this]
theorem jav{f:Nat->Int}(h:¬lim<n)(ha:∀i,i<n->f i=0):chk lim n f=(-1,0):=by
 have:jc3 n f=none:=by
  unfold jc3;rw[yq];intro i hi;simp[ha i zfb]
 simp[chk,h,this]
theorem ky{f:Nat->Int}(h:(chk lim n f).2=0):¬lim<n/\∀i,i<n->f i=0:=by
 by_cases hl:lim<n
 .rw[ub hl] at h;cases h
 refine⟨hl,fun i hi=>?_⟩;unfold chk at h;rw[vd hl] at h;cases hb:jc3 n f with
 |some k=>
  rw[hb] at h;have:=yu hb;simp only at h;rw[h] at this;simp at this
 |none=>
  have:=yq.1 hb i zfb;exact zb4
abbrev ints(l:List Int):V:=.slice 1 (l.map Cint)
structure Ofc where
 id:Int
 name:Str
 frm:Int
 til:Int
 nxt:List Int
abbrev Ofc.cs(o:Ofc):List V:=[vi o.id,.str o.name,vi o.frm,vi o.til,ints o.nxt]
abbrev ofcs(l:List Ofc):V:=.slice 5 (l.map Ofc.cs)
def Ofc.Fit(o:Ofc):Prop:=o.name.length<=1048576/\o.nxt.length<=1048576
def nw(l:List Ofc):Prop:=l.length<=1048576/\∀o∈l,o.Fit
def isId(n:Int)(o:Ofc):Bool:=decide (o.id=n)
def ii(l:List Ofc)(n:Int):Int:=ix (isId n) l
def av(l:List Ofc)(n:Int):Option Ofc:=l.find? (isId n)
def frmO(l:List Ofc)(n:Int):Int:=match av l n with|some x=>x.frm|none=>0
def jd5(l:List Int)(i:Nat):Bool:=match l[i]? with|some x=>(l.take i).any (fun y=>decide (x=y))|none=>false
def dups(l:List Int):Bool:=(List.range l.length).any (jd5 l)
def iq(l:List Ofc)(o:Ofc):Int:=
 if dups o.nxt=true then 6 else if(o.nxt.any fun n=>(av l n).isNone)=true then 7 else if(o.nxt.any fun n=> !decide (frmO l n=o.til))=true then 10 else 0
def badO(o:Ofc):Prop:=o.id<1\/1073741824<o.id\/cd o.frm o.til=false\/8<o.nxt.length
instance (o:Ofc):Decidable (badO o):=inferInstanceAs (Decidable (_\/_))
def gz(l:List Ofc)(i:Nat):Int:=match l[i]? with
 |none=>0
 |some o=>if badO o then 2 else if name o.name=false then 4 else
  if(match (if i=0 then none else l[i-1]?) with|some q=>decide (o.id<=q.id)|none=>false)=true then 5 else iq l o
def fm(l:List Ofc):Int×Int:=chk 32 l.length (gz l)
def goodO(l:List Ofc):Bool:=(fm l).2 == 0
theorem qx3{l:List Int}(hx:l[i]?=some x)(h:(l.take i).any (fun y=>decide (x=y))=true):dups l=true:=by
 unfold dups;rw[yd];exact⟨i,by simpa using(gsi.1 hx).1,by simp only[jd5,hx];exact h⟩
theorem qse{l:List Int}(h:∀i,i<l.length->jd5 l i=false):dups l=false:=by
 unfold dups;rw[yf];intro i hi;simp[h i zfb]
theorem qx4{l:List Int}(hx:l[i]?=some x)(h:(l.take i).any (fun y=>decide (x=y))=false):jd5 l i=false:=by
 simp only[jd5,hx];exact h
def addO(es:List Ofc)(o:Ofc):List Ofc:=if(av es o.id).isSome=true then es else es++[o]
def idxO(l:List Ofc):List Ofc:=l.foldl addO []
def mb(es:List Ofc):List (V×V):=es.map fun o=>(vi o.id,.agg o.cs)
abbrev mapO(es:List Ofc):V:=.map ((mb es).map (·.1)) ((mb es).map (·.2))
theorem jdi{α β:Type}: ∀l:List (α×β),(l.map (·.1)).zip (l.map (·.2))=l
 |[]=>rfl
 |_::r=>by simp only[vy,List.zip_cons_cons,jdi r]
theorem jbj(n:Int):∀es:List Ofc,ma (vi n) (mb es)=some ((av es n).map fun o=>.agg o.cs)
 |[]=>rfl
 |o::r=>by
  have ih:=jbj n r;unfold mb at ih;simp only[mb,vy,ma,jk,xf,av,List.find?_cons,isId];by_cases h:n=o.id
  .subst h;simp
  have h':¬o.id=n:=fun e=>h e.symm;simp only[h,h',xc8];exact ih
theorem jt0{o:Ofc}: ∀ {es:List Ofc},av es o.id=none->mq (vi o.id) (.agg o.cs) (mb es)=some (mb (es++[o]))
 |[],_=>rfl
 |e::r,h=>by
  simp only[av,List.find?_cons,isId] at h;by_cases hk:e.id=o.id
  .simp[hk] at h
  have hk':¬o.id=e.id:=fun x=>hk x.symm;simp only[hk,xc8] at h;have ih:=jt0 (o:=o) (es:=r) h;unfold mb at ih;simp only[mb,vy,List.cons_append,mq,jk,xf,hk',xc8,ih,Option.map_some]
theorem qn0(es:List Ofc)(o:Ofc)(n:Int):av (addO es o) n=match av es n with|some x=>some x|none=>if isId n o=true then some o else none:=by
 unfold addO;split
 .rename_i h;cases e:av es n with
  |some x=>rfl
  |none=>
   by_cases hn:isId n o=true
   .have:o.id=n:=by simpa [isId] using hn
    rw[this,e] at h;cases h
   rw[vd hn]
 unfold av;rw[xcq];cases e:List.find? (isId n) es with
 |some x=>rfl
 |none=>
  simp only[Option.none_or,List.find?_cons,List.find?_nil];cases isId n o<;>rfl
theorem jwo(n:Int):∀(l es:List Ofc),av (l.foldl addO es) n=match av es n with|some x=>some x|none=>av l n
 |[],es=>by
  show av es n=_
  cases av es n<;>rfl
 |o::r,es=>by
  rw[List.foldl_cons,jwo n r,qn0];cases e:av es n with
  |some x=>rfl
  |none=>
   simp only;by_cases h:isId n o=true
   .simp[av,h]
   simp[av,h]
theorem ji1(l:List Ofc)(n:Int):av (idxO l) n=av l n:=by
 unfold idxO;rw[jwo];rfl
theorem jv2(l:List Ofc)(n:Int):(ii l n<0/\av l n=none)\/∃(i:Nat) (o:Ofc),ii l n=i/\l[i]?=some o/\av l n=some o:=by
 unfold ii av;cases h:l.findIdx? (isId n) with
 |none=>
  exact zci
 |some i=>
  obtain⟨hlt,hpi,hbef⟩:=xbb.1 h;refine .inr ⟨i,l[i],by simp[ix,h],gge hlt,?_⟩;exact zc8
theorem qqs(l:List Ofc)(o:Ofc):iq (idxO l) o=iq l o:=by
 have e:∀n,frmO (idxO l) n=frmO l n:=fun n=>by unfold frmO;rw[ji1]
 have h:(fun n=> !decide (frmO (idxO l) n=o.til))=fun n=> !decide (frmO l n=o.til):=by funext n;rw[e]
 unfold iq;rw[h];simp only[ji1]
theorem jeq{l:List Ofc}{o:Ofc}(ho:l[i]?=some o)(h:badO o):gz l i=2:=by simp only[gz,ho];rw[ve h]
theorem jzf{l:List Ofc}{o:Ofc}(ho:l[i]?=some o)(h:¬badO o)(hn:name o.name=false):gz l i=4:=by simp only[gz,ho];rw[vd h,ve hn]
theorem jze{l:List Ofc}{o q:Ofc}(ho:l[i]?=some o)(h:¬badO o)(hn:name o.name=true)(h0:i≠0)(hq:l[i-1]?=some q)(hle:o.id<=q.id):gz l i=5:=by
 exact zd8
theorem jzd{l:List Ofc}{o q:Ofc}(ho:l[i]?=some o)(h:¬badO o)(hn:name o.name=true)(h0:i≠0)(hq:l[i-1]?=some q)(hle:¬o.id<=q.id):gz l i=iq l o:=by
 exact zd8
theorem jx9{l:List Ofc}{o:Ofc}(ho:l[0]?=some o)(h:¬badO o)(hn:name o.name=true):gz l 0=iq l o:=by
 simp only[gz,ho];rw[vd h,vd (by simp[hn])];simp
def lz(s:Str):Bool:=name s && (!(s == [111,112,101,110,101,100]) && !(s == [99,108,111,115,101,100]))
def jl(a b:Int):Bool:=decide (0<=a/\a<=b/\b<=1048575)
def dayB(d f:Int):Bool:=decide (f<=d/\d<=1048575)
def qq(f:Fil)(n:Note):Bool:=jl n.fst n.lst && dayB n.rcd f.opn
def uy(l:List Note)(j:Nat):Bool:=match (if j=0 then none else l[j-1]?),l[j]? with
 |some x,some y=>decide (y.rcd<x.rcd)
 |_,_=>false
def tw(l:List Note):Bool:=(List.range l.length).any (uy l)
def ku(f:Fil):Int:=
 if 16<f.nts.length then 8 else if(f.nts.any fun n=> !lz n.name)=true then 4 else if(f.nts.any fun n=> !qq f n)=true then 2 else if tw f.nts=true then 5 else 0
def badF(f:Fil):Prop:=f.id<1\/1073741824<f.id\/dayB f.opn 0=false\/(dayB f.cld f.opn=false/\f.cld≠1048576)\/f.pts<0\/100<f.pts
instance (f:Fil):Decidable (badF f):=inferInstanceAs (Decidable (_\/_))
def mr(os:List Ofc)(id d:Int):Bool:=match av os id with|some o=>inS o.frm o.til d|none=>false
def sj(ps:List Plan)(f:Fil):Bool:=decide (idx ps f.opn<0) || !has (pl ps (idx ps f.opn).toNat) f.cls
def pg(l:List Fil)(i:Nat)(f:Fil):Bool:=match (if i=0 then none else l[i-1]?) with|some q=>decide (f.id<=q.id)|none=>false
def lh(os:List Ofc)(ps:List Plan)(l:List Fil)(i:Nat):Int:=match l[i]? with
 |none=>0
 |some f=>if badF f then 2 else if pg l i f=true then 5 else if name f.title=false then 4 else if mr os f.ofc f.opn=false then 7 else if sj ps f=true then 24 else ku f
def jv(os:List Ofc)(ps:List Plan)(l:List Fil):Int×Int:=if goodO os=false\/goodL ps=false then(-1,1) else chk 256 l.length (lh os ps l)
def ci(n:Int)(f:Fil):Bool:=decide (f.id=n)
def az(l:List Fil)(n:Int):Int:=ix (ci n) l
theorem qx1{l:List Note}{x y:Note}(h0:j≠0)(hx:l[j-1]?=some x)(hy:l[j]?=some y):uy l j=decide (y.rcd<x.rcd):=by
 unfold uy;rw[vd h0,hx,hy]
theorem qx2(l:List Note):uy l 0=false:=by unfold uy;rw[ve rfl]
theorem qha{l:List Note}(hj:j<l.length)(h:uy l j=true):tw l=true:=by
 unfold tw;rw[yd];exact⟨j,by simpa using hj,h⟩
theorem qg8{l:List Note}(h:∀j,j<l.length->uy l j=false):tw l=false:=by
 unfold tw;rw[yf];intro j hj;simp[h j zfa]
theorem qj9{f:Fil}(h:16<f.nts.length):ku f=8:=by unfold ku;rw[ve h]
theorem qja{f:Fil}(h:¬ 16<f.nts.length)(h4:(f.nts.any fun n=> !lz n.name)=true):ku f=4:=by unfold ku;rw[vd h,ve h4]
theorem qjb{f:Fil}(h:¬ 16<f.nts.length)(h4:(f.nts.any fun n=> !lz n.name)=false)(h2:(f.nts.any fun n=> !qq f n)=true):ku f=2:=by unfold ku;rw[vd h,vd (by simp only[h4];exact Bool.noConfusion),ve h2]
theorem qj8{f:Fil}(h:¬ 16<f.nts.length)(h4:(f.nts.any fun n=> !lz n.name)=false)(h2:(f.nts.any fun n=> !qq f n)=false):ku f=if tw f.nts=true then 5 else 0:=by
 unfold ku;rw[vd h,vd (by simp only[h4];exact Bool.noConfusion),vd (by simp only[h2];exact Bool.noConfusion)]
theorem jc4{os:List Ofc}{ps:List Plan}{l:List Fil}{f:Fil}(hf:l[i]?=some f)(h:badF f):lh os ps l i=2:=by simp only[lh,hf];rw[ve h]
theorem jzg{os:List Ofc}{ps:List Plan}{l:List Fil}{f:Fil}(hf:l[i]?=some f)(h:¬badF f):
  lh os ps l i=if pg l i f=true then 5 else if name f.title=false then 4 else if mr os f.ofc f.opn=false then 7 else if sj ps f=true then 24 else ku f:=by simp only[lh,hf];rw[vd h]
theorem qvk(l:List Fil)(f:Fil):pg l 0 f=false:=by unfold pg;rw[ve rfl]
theorem qaz{l:List Fil}{f q:Fil}(h0:i≠0)(hq:l[i-1]?=some q):pg l i f=decide (f.id<=q.id):=by unfold pg;rw[vd h0,hq]
theorem qqr{os:List Ofc}{id:Int}(h:av os id=none):mr os id d=false:=by unfold mr;rw[h]
theorem qqq{os:List Ofc}{id:Int}{o:Ofc}(h:av os id=some o):mr os id d=inS o.frm o.til d:=by unfold mr;rw[h]
end Go.Arc
set_option maxRecDepth 100000
namespace Go.Arc
open Go.Ab Go.RowKit Go.Proofs Tryz
variable {T : Lay}
variable {l:List Plan}
theorem qov(L:LibC T)(l:List Plan)(i:Nat)(hl:Fits l)(hi:i<l.length):Den prog T 198 [bh l,vi i] (vi (jt l i)):=by
 obtain⟨hl0,hf⟩:=hl;obtain⟨p,hp,-,hm⟩:=af hi;have hfp:=hf p hm;obtain⟨h1,h2,-,-⟩:=id hfp;have hfa:jt l i=jn (before l i) i p:=by simp[jt,hp]
 rw[hfa];have hc8:(128<p.cls.length\/128<p.mov.length)->sl p=8:=fun h=>by simp[sl,h]
 have hcn:¬(128<p.cls.length\/128<p.mov.length)->sl p=mw p:=fun h=>by simp only[sl];rw[vd h]
 refine ab call198 func198 55 ?_;by_cases hv:p.ver=i+1
 .refine rcW hp (qnv p.frm p.til) ?_;cases hg:cd p.frm p.til
  .refine run ?_;exact fin (bc (qbv (.inr hg)).symm)
  by_cases h0:i=0
  .subst h0;have hb:before l 0=none:=rfl;rw[hb];have h3:∀q':Plan,none=some q'->p.frm=q'.til:=fun _ h=>by cases h
   refine rc (jtu L p hfp) ?_;by_cases h4:128<p.cls.length\/128<p.mov.length
   .rw[hc8 h4];refine run ?_;exact fin (bc (qbu hv hg h3 h4).symm)
   rw[hcn h4];by_cases hc:mw p=0
   .rw[qwu hv hg h4 hc,hc];by_cases hz:0<p.mov.length
    .rw[ve hz];exact za
    rw[vd hz];exact za
   refine run ?_;exact fin (bc (qbt hv hg h3 h4 hc).symm)
  obtain⟨q,hq,-,hmq⟩:=af (l:=l) (k:=i-1) omq;have hb:before l i=some q:=by unfold before;rw[vd h0,hq]
  rw[hb];by_cases hgap:p.frm=q.til
  .have h3:∀q':Plan,some q=some q'->p.frm=q'.til:=fun _ h=>by cases h;exact hgap
   refine rcW hq (jtu L p hfp) ?_;by_cases h4:128<p.cls.length\/128<p.mov.length
   .rw[hc8 h4];refine run ?_;exact fin (bc (qbu hv hg h3 h4).symm)
   rw[hcn h4];by_cases hc:mw p=0
   .rw[qwv hv hg hgap h4 hc,hc];refine rcW hq (qo6 L q p (hf q hmq) hfp) ?_;exact za
   refine run ?_;exact fin (bc (qbt hv hg h3 h4 hc).symm)
  refine runW hq ?_;exact fin (bc (qs8 hv hg rfl hgap).symm)
 refine runW hp ?_;exact fin (bc (qbv (.inl hv)).symm)
theorem jdx(L:LibC T)(l:List Plan)(hl:Fits l):Den prog T 134 [bh l] (jj4 l):=by
 have hl0:=hl.1;refine ab call134 func134 22 ?_;by_cases h16:16<l.length
 .refine run ?_;refine fin ?_;simp only[jj4,qlf h16]
 refine run ?_;refine dq ⟨[11,0,10],[],[],[]⟩ l.length (fun k=>∀i,i<k->jt l i=0) omq ?_;rintro k ⟨hk,hall⟩;by_cases hlt:k<l.length
 .refine rc (qov L l k hl hlt) ?_;by_cases hz:jt l k=0
  .refine run ?_;refine round (k+1) ⟨omq,fun i hi=>?_⟩ omq;by_cases e:i=k
   .rw[e];exact hz
   exact hall i omq
  refine run ?_;refine fin ?_;simp only[jj4,qpm h16 hlt hall hz]
 refine run ?_;refine fin ?_;simp only[jj4,qu0 h16 fun i hi=>hall i omq]
theorem qxo(p:Plan)(d:Int):Den prog T 200 [.agg p.cs,.row [vi d]] (vb (inS p.frm p.til d)):=by
 refine ab call200 func200 16 ?_;unfold inS;by_cases h1:p.frm<=d<;>by_cases h2:d<p.til<;>(refine run ?_;refine fin (ah ?_);simp;try omega)
theorem jpp(L:LibC T)(l:List Plan)(d:Int)(hl:Fits l):Den prog T 135 [bh l,vi d] (vi (atL l d)):=by
 refine ab call135 func135 17 ?_;refine rc (jdx L l hl) ?_;by_cases hg:(check l).2=0
 .refine rc (qkg l _ _ (fun p=>inS p.frm p.til d) hl.1 fun p _=>qxo p d) ?_;refine run ?_;refine fin (bc ?_);simp[atL,goodL,hg,idx]
 refine run ?_;refine fin (bc ?_);simp[atL,goodL,hg]
theorem qkj(L:LibC T)(l:List Plan)(f t:Nat)(s:Str)(hl:Fits l)(hft:f<=t)(ht:t<l.length)(hs:s.length<=1048576):
  Den prog T 203 [bh l,vi f,vi t,.str s] (.str (pd l f (t-f) s)):=by
 obtain⟨hl0,hf⟩:=hl;refine ab call203 func203 36 ?_;refine run ?_;refine dl ⟨[3,13,0,1,12],[],[],[]⟩ (fun y:Nat×Str=>y.1<=t-f/\y.2.length<=1048576/\pd l f (t-f) s=pd l (f+y.1) (t-f-y.1) y.2) (fun y=>t-f-y.1) (fun y=>[(3,.v (.str y.2)),(13,.v (vi y.1))]) (0,s) ⟨smq,hs,smq⟩ ?_;rintro⟨k,a⟩ ⟨hk,ha,hall⟩;simp only at hk ha hall;by_cases hlt:k<t-f
 .obtain⟨x,hx,-,hm⟩:=af (l:=l) (k:=f+k) omq;obtain⟨y,hy,-,hm'⟩:=af (l:=l) (k:=f+k+1) omq;have e1:((f:Int)+k).toNat=f+k:=omq;have e2:((f:Int)+k+1).toNat=f+k+1:=omq;refine rcW (ai hx (ai hy (ai e1 e2))) (jzs L x y a (hf x hm) (hf y hm') ha) ?_;obtain⟨b,e⟩:=qw4 x y a;rw[e];refine run ?_;refine round (k+1,nxt x y a) ⟨by simp only;omega,qb7 (hf y hm') ha,?_⟩ zeo;simp only;rw[hall,show t-f-k=(t-f-(k+1))+1 by omega];simp only[pd];rw[jb0 hx,jb0 hy,xbf]
 refine run ?_;refine fin ?_;rw[hall,show t-f-k=0 by omega];rfl
theorem jlz(l:List Plan):goodL l=true↔(check l).2=0:=by simp[goodL]
theorem qnx(L:LibC T)(l:List Plan)(f t:Int)(hl:Fits l):Den prog T 201 [bh l,vi f,vi t] (vi (gv l f t)):=by
 have hl0:=hl.1;refine ab call201 func201 29 ?_;refine rc (jdx L l hl) ?_;by_cases hc:(check l).2=0
 .have hg:=(jlz l).2 hc;by_cases h1:f<1
  .refine run ?_;exact fin (bc (jle hg (.inl h1)).symm)
  by_cases h2:t<f
  .refine run ?_;exact fin (bc (jle hg (.inr (.inl h2))).symm)
  by_cases h3:l.length<t
  .refine run ?_;exact fin (bc (jle hg (.inr (.inr h3))).symm)
  refine run ?_;exact fin (bc (jw2 hg omq).symm)
 have hg:goodL l=false:=by simp[goodL,hc]
 refine run ?_;exact fin (bc (qm1 hg).symm)
theorem qia(L:LibC T)(l:List Plan)(f t:Int)(s:Str)(hl:Fits l)(hs:s.length<=1048576):Den prog T 136 [bh l,vi f,vi t,.str s] (ud l f t s):=by
 have hl0:=hl.1;refine ab call136 func136 33 ?_;refine rc (qnx L l f t hl) ?_;by_cases hv:gv l f t=0
 .obtain⟨-,h1,h2,h3⟩:=qm0 hv;obtain⟨f,rfl⟩:=qd1 h1;obtain⟨t,rfl⟩:=qd1 (show 1<=t by omega);rw[hv];obtain⟨p,hp,-,hm⟩:=af (l:=l) (k:=f) omq;have hpl:pl l ((f:Int)+1-1).toNat=p:=by rw[Int.add_sub_cancel,Int.toNat_natCast,jb0 hp]
  have ef:(f:Int)+1-1=f:=Int.add_sub_cancel _ _;have et:(t:Int)+1-1=t:=Int.add_sub_cancel _ _;refine rcW (ai hp (ai ef et)) (jap p s (hl.2 p hm).1) ?_;cases hh:has p s
  .refine run ?_;refine fin ?_;simp only[ud,jx0 hv (by rw[hpl];exact hh)]
  refine rcW (ai ef et) (qkj L l f t s hl omq omq hs) ?_;refine run ?_;refine fin ?_;simp only[ud,jx1 hv (by rw[hpl];exact hh)];rw[jay,ef,Int.toNat_natCast,show ((t:Int)+1-(f+1)).toNat=t-f by omega]
 refine run ?_;refine fin ?_;simp only[ud,qni hv]
theorem qz1(hl:Fits l)(i:Nat):(pl l i).Fit:=by
 unfold pl;rw[xcy];cases h:l[i]? with
 |none=>exact⟨dcq,dcq,by simp[dflt],by simp[dflt]⟩
 |some p=>exact hl.2 p (vp h)
theorem jw0{l:List Plan}(hl:Fits l):∀(n i:Nat) (s:Str),s.length<=1048576->(pd l i n s).length<=1048576
 |0,_,_,hs=>hs
 |n+1,i,_,hs=>jw0 hl n (i+1) _ (qb7 (qz1 hl _) hs)
theorem jod(h:goodL l=true)(d:Int):atL l d=idx l d:=by simp[atL,h]
end Go.Arc
