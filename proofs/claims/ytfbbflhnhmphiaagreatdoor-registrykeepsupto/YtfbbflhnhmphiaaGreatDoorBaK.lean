/- A part of this claim. -/
import Derived.Test.YtfbbflhnhmphiaaGreatDoorBaU
namespace Go.Arc
open Go.Ab
variable {d:Int}{α:Type}{D:Int}{a:List Fil}{p:α->Bool}{z:Plan}{k:Nat}{g:Fil}{l':List α}
structure Evt where
 id:Int
 day:Int
 kind:Int
 num:List Int
 txt:List Str
abbrev Evt.cs(e:Evt):List V:=[vi e.id,vi e.day,vi e.kind,ints e.num,strs e.txt]
abbrev evts(l:List Evt):V:=.slice 5 (l.map Evt.cs)
def cutO(l:List Ofc)(i:Nat)(d:Int)(nx:List Int):List Ofc:=match l[i]? with
 |some o=>l.set i { o with til:=d,nxt:=nx }
 |none=>l
def kg(l:List Ofc)(n d:Int)(nx:List Int):Int:=if goodO l=false then 1 else if ii l n<0 then 7 else match l[(ii l n).toNat]? with
 |some o=>if d<=o.frm\/o.til<d then 2 else(fm (cutO l (ii l n).toNat d nx)).2
 |none=>0
def endO(l:List Ofc)(n d:Int)(nx:List Int):List Ofc:=if kg l n d nx=0 then cutO l (ii l n).toNat d nx else []
def cutR(l:List Rul)(i:Nat)(d:Int):List Rul:=match l[i]? with
 |some o=>l.set i { o with til:=d }
 |none=>l
def iw(l:List Rul)(n d:Int):Int:=if goodR l=false then 1 else if gt l n<0 then 7 else match l[(gt l n).toNat]? with
 |some o=>if d<=o.frm\/o.til<d then 2 else 0
 |none=>0
def nr(l:List Rul)(n d:Int):List Rul:=if iw l n d=0 then cutR l (gt l n).toNat d else []
def nh(l:List Fil)(id:Int)(n:Note):Int:=if az l id<0 then 7 else match l[(az l id).toNat]? with
 |some f=>addE f n
 |none=>0
def gq(l:List Fil)(id:Int)(n:Note):List Fil:=if nh l id n=0 then(match l[(az l id).toNat]? with
 |some f=>l.set (az l id).toNat { f with nts:=f.nts++[n] }
 |none=>l) else []
def clsE(l:List Fil)(id d:Int):Int:=if az l id<0 then 7 else match l[(az l id).toNat]? with
 |some f=>lw f d
 |none=>0
def clsL(l:List Fil)(id d:Int):List Fil:=if clsE l id d=0 then(match l[(az l id).toNat]? with
 |some f=>l.set (az l id).toNat (pe f d)
 |none=>l) else []
structure Knd where
 nums:Nat
 txts:Nat
 more:Bool
 day:Int
def kndT:List (Int×Knd):=[(1,⟨3,1,false,1⟩),(2,⟨2,0,true,1⟩),(3,⟨4,0,false,0⟩),(4,⟨3,2,false,-1⟩),(5,⟨3,1,false,-1⟩),(6,⟨1,0,false,-1⟩),(7,⟨6,2,false,4⟩),(8,⟨2,0,false,1⟩),
 (9,⟨5,2,false,3⟩),(10,⟨2,0,false,1⟩),(11,⟨4,1,false,2⟩),(12,⟨4,2,false,-1⟩),(13,⟨2,0,true,-1⟩),(14,⟨2,0,false,-1⟩),(15,⟨1,0,false,-1⟩),(16,⟨1,0,false,-1⟩),(17,⟨1,0,false,-1⟩)]
def knd(k:Int):Option Knd:=(kndT.find? fun x=>decide (x.1=k)).map (·.2)
def nth(e:Evt)(i:Nat):Int:=(e.num[i]?).getD 0
def tth(e:Evt)(i:Nat):Str:=(e.txt[i]?).getD []
def br(e:Evt):Bool:=match knd e.kind with
  |none=>false
  | some k=>idB e.id && dayG e.day && decide (k.nums<=e.num.length) && (k.more || decide (e.num.length<=k.nums)) &&
    (if e.kind=3 then decide (0<=nth e 2) && decide (0<=nth e 3) && decide (nth e 2<=e.txt.length) && decide (nth e 3<=e.txt.length) && decide ((e.txt.length:Int)=2*nth e 2+2*nth e 3)
     else(!decide (e.kind=7) || (decide (0<=nth e 2) && decide (nth e 2<=1))) && decide (e.txt.length=k.txts))
def bt(e:Evt):Bool:=match knd e.kind with
 |none=>false
 |some k=>decide (0<=k.day) && decide (nth e k.day.toNat<e.day)
def clsT:Nat->List Str->List Cls
 |0,_=>[]
 |n+1,a::b::r=>⟨a,b⟩::clsT n r
 |_+1,_=>[]
def movT:Nat->List Str->List Mov
 |0,_=>[]
 |n+1,a::b::r=>⟨a,b⟩::movT n r
 |_+1,_=>[]
def jjc(l:List Plan)(e:Evt):Plan:=⟨(l.length:Int)+1,nth e 0,nth e 1,clsT (nth e 2).toNat e.txt,movT (nth e 3).toNat (e.txt.drop (2*(nth e 2).toNat))⟩
def tilP(l:List Plan)(d:Int):List Plan:=match l[l.length-1]? with
 |some p=>l.set (l.length-1) { p with til:=d }
 |none=>l
def gapP(l:List Plan)(d:Int):Bool:=match l[l.length-1]? with
 |some p=>decide (d<=p.frm) || decide (p.til<d)
 |none=>false
def actK(r:Rgs)(e:Evt):Rgs×Int:=
 if e.kind=1 then({ r with ofs:=r.ofs++[⟨nth e 0,tth e 0,nth e 1,nth e 2,[]⟩] },0) else
 if e.kind=2 then({ r with ofs:=endO r.ofs (nth e 0) (nth e 1) (e.num.drop 2) },kg r.ofs (nth e 0) (nth e 1) (e.num.drop 2)) else
 if e.kind=3 then(if gapP r.pls (nth e 0)=true then(r,16) else({ r with pls:=tilP r.pls (nth e 0)++[jjc r.pls e] },0)) else
 if e.kind=4 then({ r with fls:=r.fls++[⟨nth e 0,nth e 1,e.day,1048576,tth e 0,tth e 1,nth e 2,[]⟩] },0) else
 if e.kind=5 then({ r with fls:=gq r.fls (nth e 0) ⟨tth e 0,nth e 1,nth e 2,e.day⟩ },nh r.fls (nth e 0) ⟨tth e 0,nth e 1,nth e 2,e.day⟩) else
 if e.kind=6 then({ r with fls:=clsL r.fls (nth e 0) e.day },clsE r.fls (nth e 0) e.day) else
 if e.kind=7 then({ r with rls:=r.rls++[⟨nth e 0,tth e 0,tth e 1,nth e 1,decide (nth e 2=1),nth e 3,nth e 4,nth e 5⟩] },0) else
 if e.kind=8 then({ r with rls:=nr r.rls (nth e 0) (nth e 1) },iw r.rls (nth e 0) (nth e 1)) else
 if e.kind=9 then({ r with hls:=r.hls++[⟨nth e 0,nth e 1,nth e 2,tth e 0,tth e 1,nth e 3,nth e 4⟩] },0) else
 if e.kind=10 then({ r with hls:=relL r.hls (nth e 0) (nth e 1) },relE r.hls (nth e 0) (nth e 1)) else
 if e.kind=11 then({ r with cks:=r.cks++[⟨nth e 0,nth e 1,tth e 0,nth e 2,nth e 3⟩] },0) else
 if e.kind=12 then({ r with sls:=r.sls++[⟨nth e 0,e.day,slcR r ⟨nth e 0,nth e 1,nth e 2,nth e 3,tth e 0,tth e 1⟩ e.day⟩] },slcE r ⟨nth e 0,nth e 1,nth e 2,nth e 3,tth e 0,tth e 1⟩ e.day) else
 if e.kind=13 then nc r ⟨nth e 0,e.day,nth e 1,e.num.drop 2,1048576⟩ else
 if e.kind=14 then nv r ⟨nth e 0,e.day,nth e 1⟩ else
 if e.kind=15 then wdrR r (nth e 0) e.day else
 if e.kind=16 then((desP r (nth e 0) e.day).1,(desP r (nth e 0) e.day).2.2) else
 ({ r with dps:=r.dps++[⟨nth e 0,e.day⟩] },if onE r (nth e 0) e.day≠0 then onE r (nth e 0) e.day else if(onV r (nth e 0) e.day).kind≠9 then 21 else 0)
def da(r:Rgs):Int:=if ce r≠0 then ce r else if dayG r.chg=true then 0 else 2
def di(r:Rgs)(d:Int):Rgs:= { r with chg:=d }
def appl(r:Rgs)(e:Evt):Rgs×Int:=if br e=false then(aj,1) else if e.day<r.chg\/bt e=true then(aj,5) else
 if(actK r e).2≠0 then(aj,(actK r e).2) else if da (di (actK r e).1 e.day)≠0 then(aj,da (di (actK r e).1 e.day)) else(di (actK r e).1 e.day,0)
def uh(r:Rgs)(e:Evt):Rgs×Int:=if da r≠0 then(aj,1) else appl r e
def ji:Option Int->Evt->Bool
 |some n,e=>decide (e.id<=n)
 |none,_=>false
def jw(d:Int):Option Int->Int->Rgs->List Evt->Rgs×Int×Int
 |_,_,r,[]=>(r,-1,0)
 |q,i,r,e::l=>if d<e.day then(r,-1,0) else if ji q e=true then(aj,i,5) else
  if(appl r e).2≠0 then(aj,i,(appl r e).2) else jw d (some e.id) (i+1) (appl r e).1 l
def fv(l:List Evt)(d:Int):Rgs×Int×Int:=if 1024<l.length then(aj,-1,8) else jw d none 0 aj l
def jff(l:List Evt):Rgs×Int×Int:=fv l 9223372036854775807
theorem jaq{r:Rgs}{e:Evt}(h:(appl r e).2=0):br e=true/\¬e.day<r.chg/\bt e=false/\(actK r e).2=0/\da (di (actK r e).1 e.day)=0/\(appl r e).1=di (actK r e).1 e.day:=by
 unfold appl at h ⊢;split at h
 .cases h
 rename_i h1;rw[vd h1];split at h
 .cases h
 rename_i h2;rw[vd h2];split at h
 .rename_i h3;exact absurd h h3
 rename_i h3;rw[vd h3];split at h
 .rename_i h4;exact absurd h h4
 rename_i h4;rw[vd h4];refine⟨by simpa using h1,fun e1=>h2 (.inl e1),?_,yt.1 h3,yt.1 h4,rfl⟩;cases hl:bt e
 .rfl
 exact absurd (.inr hl) h2
theorem qus{r:Rgs}{e:Evt}(h:(appl r e).2≠0):(appl r e).1=aj:=by
 unfold appl at h ⊢;split
 .rfl
 rename_i h1;rw[vd h1] at h;split
 .rfl
 rename_i h2;rw[vd h2] at h;split
 .rfl
 rename_i h3;rw[vd h3] at h;split
 .rfl
 rename_i h4;rw[vd h4] at h;exact absurd rfl h
theorem jew{r:Rgs}{e:Evt}(h:(appl r e).2=0):(appl r e).1.chg=e.day/\da (appl r e).1=0/\r.chg<=e.day:=by
 obtain⟨-,h2,-,-,h5,h6⟩:=jaq h;rw[h6];exact⟨rfl,h5,omq⟩
def samF(f g:Fil):Prop:=g.id=f.id/\g.ofc=f.ofc/\g.opn=f.opn/\g.cls=f.cls
structure Keeps (r x:Rgs):Prop where
 fls:r.fls.length<=x.fls.length/\∀(i:Nat) (f:Fil),r.fls[i]?=some f->∃g,x.fls[i]?=some g/\samF f g
 cks:r.cks.length<=x.cks.length
 dps:r.dps.length<=x.dps.length
 crs:∃c,x.crs=r.crs++c
theorem samF.refl(f:Fil):samF f f:=⟨rfl,rfl,rfl,rfl⟩
theorem jcg{b:List Fil}(h:a=b):a.length<=b.length/\∀(i:Nat) (f:Fil),a[i]?=some f->∃g,b[i]?=some g/\samF f g:=by
 subst h;exact⟨vo _,fun i f h=>⟨f,h,.refl f⟩⟩
theorem qjn{c:List Fil}: a.length<=(a++c).length/\∀(i:Nat) (f:Fil),a[i]?=some f->∃g,(a++c)[i]?=some g/\samF f g:=
 ⟨smq,fun i f h=>⟨f,by rw[xp (gsi.1 h).1];exact h,.refl f⟩⟩
theorem jux{x y:Fil}(hx:a[k]?=some x)(hs:samF x y):a.length<=(a.set k y).length/\∀(i:Nat) (f:Fil),a[i]?=some f->∃g,(a.set k y)[i]?=some g/\samF f g:=by
 refine⟨smq,fun i f h=>?_⟩;by_cases e:k=i
 .subst e;rw[hx] at h;cases h;exact⟨y,by rw[xdc (gsi.1 hx).1],hs⟩
 exact⟨f,by rw[List.getElem?_set_ne e];exact h,.refl f⟩
theorem mf{r x:Rgs}(h1:x.fls=r.fls)(h2:x.cks=r.cks)(h3:x.dps=r.dps)(h4:x.crs=r.crs):Keeps r x:=
 ⟨jcg h1.symm,by rw[h2];exact vo _,by rw[h3];exact vo _,[],by rw[h4,xd]⟩
theorem qhk{l:List Fil}{id:Int}{n:Note}(h:nh l id n=0):l.length<=(gq l id n).length/\∀(i:Nat) (f:Fil),l[i]?=some f->∃g,(gq l id n)[i]?=some g/\samF f g:=by
 unfold gq;rw[ve h];cases hx:l[(az l id).toNat]? with
 |none=>exact jcg rfl
 |some f=>exact jux hx ⟨rfl,rfl,rfl,rfl⟩
theorem qld{l:List Fil}{id:Int}(h:clsE l id d=0):l.length<=(clsL l id d).length/\∀(i:Nat) (f:Fil),l[i]?=some f->∃g,(clsL l id d)[i]?=some g/\samF f g:=by
 unfold clsL;rw[ve h];cases hx:l[(az l id).toNat]? with
 |none=>exact jcg rfl
 |some f=>exact jux hx ⟨rfl,rfl,rfl,rfl⟩
theorem qc7{x:Rgs}(h:(chgd x).2=0):(chgd x).1=x:=by
 unfold chgd at h ⊢;split at h
 .exact zc4
 rename_i h1;rw[vd h1]
theorem jmy{r:Rgs}{p:Prp}(h:(nc r p).2=0):(nc r p).1=morP r p:=by
 unfold nc at h ⊢;split at h
 .cases h
 rename_i h1;rw[vd h1];split at h
 .cases h
 rename_i h2;rw[vd h2];exact qc7 h
theorem joe{r:Rgs}{a:Apv}(h:(nv r a).2=0):(nv r a).1=morA r a:=by
 unfold nv at h ⊢;split at h
 .cases h
 rename_i h1;rw[vd h1];exact qc7 h
theorem jmo{r:Rgs}{n:Int}(h:(wdrR r n d).2=0):(wdrR r n d).1=wdrG r (jm r.pps n).toNat d:=by
 unfold wdrR at h ⊢;split at h
 .exact zc4
 rename_i h1;rw[vd h1]
theorem jpo{r:Rgs}{n:Int}(h:(desP r n d).2.2=0):(desP r n d).1=morC r (newD r n d (flsP r n)):=by
 unfold desP at h ⊢;split at h
 .exact zc4
 rename_i h1;rw[vd h1];split at h
 .cases h
 rename_i h2;rw[vd h2];split at h
 .rename_i h3;exact absurd h h3
 rename_i h3;rw[vd h3]
theorem qqa{r:Rgs}{e:Evt}(h:(actK r e).2=0):Keeps r (actK r e).1:=by
 unfold actK at h ⊢;by_cases h1:e.kind=1
 .rw[ve h1] at h ⊢;exact zbb
 rw[vd h1] at h ⊢;by_cases h2:e.kind=2
 .rw[ve h2] at h ⊢;exact zbb
 rw[vd h2] at h ⊢;by_cases h3:e.kind=3
 .rw[ve h3] at h ⊢;by_cases g:gapP r.pls (nth e 0)=true
  .rw[ve g] at h ⊢;exact zbb
  rw[vd g] at h ⊢;exact zbb
 rw[vd h3] at h ⊢;by_cases h4:e.kind=4
 .rw[ve h4] at h ⊢;exact⟨qjn,vo _,vo _,[],(xd _).symm⟩
 rw[vd h4] at h ⊢;by_cases h5:e.kind=5
 .rw[ve h5] at h ⊢;exact⟨qhk h,vo _,vo _,[],(xd _).symm⟩
 rw[vd h5] at h ⊢;by_cases h6:e.kind=6
 .rw[ve h6] at h ⊢;exact⟨qld h,vo _,vo _,[],(xd _).symm⟩
 rw[vd h6] at h ⊢;by_cases h7:e.kind=7
 .rw[ve h7] at h ⊢;exact zbb
 rw[vd h7] at h ⊢;by_cases h8:e.kind=8
 .rw[ve h8] at h ⊢;exact zbb
 rw[vd h8] at h ⊢;by_cases h9:e.kind=9
 .rw[ve h9] at h ⊢;exact zbb
 rw[vd h9] at h ⊢;by_cases h10:e.kind=10
 .rw[ve h10] at h ⊢;exact zbb
 rw[vd h10] at h ⊢;by_cases h11:e.kind=11
 .rw[ve h11] at h ⊢;exact⟨jcg rfl,smq,vo _,[],(xd _).symm⟩
 rw[vd h11] at h ⊢;by_cases h12:e.kind=12
 .rw[ve h12] at h ⊢;exact zbb
 rw[vd h12] at h ⊢;by_cases h13:e.kind=13
 .rw[ve h13] at h ⊢;rw[jmy h];exact zbb
 rw[vd h13] at h ⊢;by_cases h14:e.kind=14
 .rw[ve h14] at h ⊢;rw[joe h];exact zbb
 rw[vd h14] at h ⊢;by_cases h15:e.kind=15
 .rw[ve h15] at h ⊢;rw[jmo h];exact zbb
 rw[vd h15] at h ⊢;by_cases h16:e.kind=16
 .rw[ve h16] at h ⊢;refine⟨jcg ?_,?_,?_,[newD r (nth e 0) e.day (flsP r (nth e 0))],?_⟩<;>rw[show ((desP r (nth e 0) e.day).1,(desP r (nth e 0) e.day).2.2).1=_ from jpo h]
  .rfl
  .exact zej
  .exact zej
  rfl
 rw[vd h16] at h ⊢;exact⟨jcg rfl,vo _,smq,[],(xd _).symm⟩
theorem qlq{r:Rgs}{e:Evt}(h:(appl r e).2=0):Keeps r (appl r e).1:=by
 obtain⟨-,-,-,h4,-,h6⟩:=jaq h;have:=qqa h4;rw[h6];exact⟨this.fls,this.cks,this.dps,this.crs⟩
structure SmE (e:Evt):Prop where
 num:e.num.length<=20
 txt:e.txt.length<=20
 str:∀s∈e.txt,s.length<=100
def clsd(l:List Fil):Nat:=l.countP fun f=>decide (f.cld≠1048576)
structure Low (r:Rgs) (n:Nat):Prop where
 ofs:r.ofs.length<=n/\∀o∈r.ofs,o.name.length<=100/\o.nxt.length<=20
 pls:r.pls.length<=n/\∀p∈r.pls,p.cls.length<=20/\p.mov.length<=20/\(∀c∈p.cls,c.code.length<=100/\c.title.length<=100)/\∀m∈p.mov,m.frm.length<=100/\m.to.length<=100
 fls:r.fls.length+clsd r.fls<=n/\∀f∈r.fls,f.cls.length<=100/\f.title.length<=100/\f.nts.length<=n/\∀x∈f.nts,x.name.length<=100
 rls:r.rls.length<=n/\∀q∈r.rls,q.cls.length<=100/\q.trg.length<=100
 hls:r.hls.length<=n/\∀q∈r.hls,q.cls.length<=100/\q.why.length<=100
 cks:r.cks.length<=n/\∀c∈r.cks,c.name.length<=100
 sls:r.sls.length<=n/\∀s∈r.sls,s.fls.length<=n
 pps:r.pps.length<=n/\∀p∈r.pps,p.fls.length<=20
 aps:r.aps.length<=n
 crs:r.crs.length<=n/\∀c∈r.crs,c.fls.length<=20/\c.bef.length<=100/\c.dig.length<=100
 dps:r.dps.length<=n
theorem Low.mono{r:Rgs}{n m:Nat}(h:Low r n)(hm:n<=m):Low r m where
 ofs:=⟨xc h.ofs.1 hm,h.ofs.2⟩
 pls:=⟨xc h.pls.1 hm,h.pls.2⟩
 fls:=⟨xc h.fls.1 hm,fun f hf=>⟨(h.fls.2 f hf).1,(h.fls.2 f hf).2.1,xc (h.fls.2 f hf).2.2.1 hm,(h.fls.2 f hf).2.2.2⟩⟩
 rls:=⟨xc h.rls.1 hm,h.rls.2⟩
 hls:=⟨xc h.hls.1 hm,h.hls.2⟩
 cks:=⟨xc h.cks.1 hm,h.cks.2⟩
 sls:=⟨xc h.sls.1 hm,fun s hs=>xc (h.sls.2 s hs) hm⟩
 pps:=⟨xc h.pps.1 hm,h.pps.2⟩
 aps:=xc h.aps hm
 crs:=⟨xc h.crs.1 hm,h.crs.2⟩
 dps:=xc h.dps hm
theorem gj(n:Nat):Low aj n where
 ofs:=⟨vj _,fun _ h=>nomatch h⟩
 pls:=⟨vj _,fun _ h=>nomatch h⟩
 fls:=⟨vj _,fun _ h=>nomatch h⟩
 rls:=⟨vj _,fun _ h=>nomatch h⟩
 hls:=⟨vj _,fun _ h=>nomatch h⟩
 cks:=⟨vj _,fun _ h=>nomatch h⟩
 sls:=⟨vj _,fun _ h=>nomatch h⟩
 pps:=⟨vj _,fun _ h=>nomatch h⟩
 aps:=vj _
 crs:=⟨vj _,fun _ h=>nomatch h⟩
 dps:=vj _
theorem cg{r:Rgs}{n:Nat}(h:Low r n)(hn:n<=1000):r.Fit where
 ofs:=⟨by have:=h.ofs.1;show _<=1048576;omega,fun o ho=>by have:=h.ofs.2 o ho;exact⟨by show _<=1048576;omega,by show _<=1048576;omega⟩⟩
 pls:=⟨by have:=h.pls.1;show _<=1048576;omega,fun p hp=>by
  obtain⟨h1,h2,h3,h4⟩:=h.pls.2 p hp
  exact⟨by show _<=1048576;omega,by show _<=1048576;omega,fun c hc=>by have:=h3 c hc;exact⟨by show _<=1048576;omega,by show _<=1048576;omega⟩,fun m hm=>by have:=h4 m hm;exact⟨by show _<=1048576;omega,by show _<=1048576;omega⟩⟩⟩
 fls:=⟨by have:=h.fls.1;show _<=1048576;omega,fun f hf=>by
  obtain⟨h1,h2,h3,h4⟩:=h.fls.2 f hf
  exact⟨by show _<=1048576;omega,by show _<=1048576;omega,by show _<=1048576;omega,fun x hx=>by have:=h4 x hx;show _<=1048576;omega⟩⟩
 rls:=⟨by have:=h.rls.1;show _<=1048576;omega,fun q hq=>by have:=h.rls.2 q hq;exact⟨by show _<=1048576;omega,by show _<=1048576;omega⟩⟩
 hls:=⟨by have:=h.hls.1;show _<=1048576;omega,fun q hq=>by have:=h.hls.2 q hq;exact⟨by show _<=1048576;omega,by show _<=1048576;omega⟩⟩
 cks:=⟨by have:=h.cks.1;show _<=1048576;omega,fun c hc=>by have:=h.cks.2 c hc;show _<=1048576;omega⟩
 sls:=⟨by have:=h.sls.1;show _<=1048576;omega,fun c hc=>by have:=h.sls.2 c hc;show _<=1048576;omega⟩
 pps:=⟨by have:=h.pps.1;show _<=1048576;omega,fun c hc=>by have:=h.pps.2 c hc;show _<=1048576;omega⟩
 aps:=by have:=h.aps;show _<=1048576;omega
 crs:=⟨by have:=h.crs.1;show _<=1048576;omega,fun c hc=>by have:=h.crs.2 c hc;exact⟨by show _<=1048576;omega,by show _<=1048576;omega,by show _<=1048576;omega⟩⟩
 dps:=by have:=h.dps;show _<=1048576;omega
theorem jib{e:Evt}(h:SmE e)(i:Nat):(tth e i).length<=100:=by
 unfold tth;cases hx:e.txt[i]? with
 |none=>exact vj _
 |some s=>exact h.str s (vp hx)
theorem qa1:∀(n:Nat) (l:List Str) (c:Cls),c∈clsT n l->c.code∈l/\c.title∈l
 |0,_,_,h=>nomatch h
 |n+1,[],_,h=>nomatch h
 |n+1,[_],_,h=>nomatch h
 |n+1,a::b::l,c,h=>by
  rcases vt.1 h with rfl|h
  .exact⟨.head _,.tail _ (.head _)⟩
  have:=qa1 n l c h;exact⟨.tail _ (.tail _ this.1),.tail _ (.tail _ this.2)⟩
theorem jyv:∀(n:Nat) (l:List Str) (c:Mov),c∈movT n l->c.frm∈l/\c.to∈l
 |0,_,_,h=>nomatch h
 |n+1,[],_,h=>nomatch h
 |n+1,[_],_,h=>nomatch h
 |n+1,a::b::l,c,h=>by
  rcases vt.1 h with rfl|h
  .exact⟨.head _,.tail _ (.head _)⟩
  have:=jyv n l c h;exact⟨.tail _ (.tail _ this.1),.tail _ (.tail _ this.2)⟩
theorem qa0:∀(n:Nat) (l:List Str),(clsT n l).length<=l.length
 |0,_=>vj _
 |n+1,[]=>vj _
 |n+1,[_]=>vj _
 |n+1,a::b::l=>by have:=qa0 n l;simp only[clsT,List.length_cons];omega
theorem jyu:∀(n:Nat) (l:List Str),(movT n l).length<=l.length
 |0,_=>vj _
 |n+1,[]=>vj _
 |n+1,[_]=>vj _
 |n+1,a::b::l=>by have:=jyu n l;simp only[movT,List.length_cons];omega
theorem qtw(l:List Fil)(f:Fil):clsd (l++[f])<=clsd l+(if f.cld=1048576 then 0 else 1):=by
 unfold clsd;rw[List.countP_append];by_cases h:f.cld=1048576<;>simp[h]
theorem jzz{l:List Fil}{i:Nat}{f:Fil}(hi:l[i]?=some f)(g:Fil):clsd (l.set i g)<=clsd l+1/\(g.cld=f.cld->clsd (l.set i g)<=clsd l):=by
 obtain⟨hlt,rfl⟩:=gsi.1 hi;unfold clsd;rw[List.countP_set hlt]
 have h1:(if decide (l[i].cld≠1048576)=true then 1 else 0)<=l.countP fun f=>decide (f.cld≠1048576):=by
  split
  .rename_i h;exact List.countP_pos_iff.2 ⟨l[i],xbo hlt,h⟩
  exact vj _
 refine⟨?_,fun he=>?_⟩
 .split<;>split<;>omega
 rw[he];omega
theorem qg{l:List α}{x y:α}(h:y∈l++[x]):y∈l\/y=x:=by
 rcases xbu.1 h with h|h
 .exact .inl h
 exact .inr (xn.1 h)
theorem mh{l:List α}{x:α}{n:Nat}(h:l.length<=n):(l++[x]).length<=n+1:=by simp;omega
theorem qlk{r:Rgs}{cls:Str}(hd:d<=1048575)(h:∀f∈cl r cls d,state f d=2):(cl r cls d).length<=clsd r.fls:=by
 unfold cl at h ⊢;unfold clsd;rw[<- List.countP_eq_length_filter];refine List.countP_mono_left fun f hf hc=>?_;have:=h f (xb7.2 ⟨hf,hc⟩);unfold Arc.state at this;split at this
 .cases this
 split at this
 .cases this
 exact vl omq
theorem jc7{r:Rgs}{n:Nat}{e:Evt}(h:Low r n)(he:SmE e):Low (actK r e).1 (n+1):=by
  have hm:=h.mono (Nat.le_succ n);have ht:=jib he;have hnum:=he.num;unfold actK;by_cases h1:e.kind=1
  . rw[ve h1]
    exact { hm with ofs:=⟨mh h.ofs.1,fun o ho=>by
      rcases qg ho with ho|rfl
      . exact h.ofs.2 o ho
      exact⟨ht 0,vj _⟩⟩ }
  rw[vd h1];by_cases h2:e.kind=2
  . rw[ve h2];refine { hm with ofs:= ?_ }
    show (endO r.ofs (nth e 0) (nth e 1) (e.num.drop 2)).length<=n+1/\∀o∈endO r.ofs (nth e 0) (nth e 1) (e.num.drop 2),_
    unfold endO;split
    . unfold cutO;split
      . rename_i o hx;refine⟨by rw[yc];exact hm.ofs.1,fun q hq=>?_⟩;rcases xbw hq with hq|rfl
        . exact h.ofs.2 q hq
        exact⟨(h.ofs.2 o (vp hx)).1,by show (e.num.drop 2).length<=20;rw[xw];omega⟩
      exact hm.ofs
    exact zbu
  rw[vd h2];by_cases h3:e.kind=3
  . rw[ve h3];by_cases hg:gapP r.pls (nth e 0)=true
    . rw[ve hg];exact hm
    rw[vd hg]
    have htl:(tilP r.pls (nth e 0)).length=r.pls.length/\∀p∈tilP r.pls (nth e 0),p.cls.length<=20/\p.mov.length<=20/\(∀c∈p.cls,c.code.length<=100/\c.title.length<=100)/\∀m∈p.mov,m.frm.length<=100/\m.to.length<=100:=by
      unfold tilP;split
      . rename_i p hx;refine⟨yc,fun q hq=>?_⟩;rcases xbw hq with hq|rfl
        . exact h.pls.2 q hq
        exact h.pls.2 p (vp hx)
      exact⟨rfl,h.pls.2⟩
    have hdr:∀k,∀s∈e.txt.drop k,s∈e.txt:=fun k s hs=>xbn hs
    exact { hm with pls:=⟨mh (by rw[htl.1];exact h.pls.1),fun p hp=>by
      rcases qg hp with hp|rfl
      . exact htl.2 p hp
      refine⟨xc (qa0 _ _) he.txt,xc (jyu _ _) (by rw[xw];have:=he.txt;omega),fun c hc=>?_,fun m hm=>?_⟩
      . have:=qa1 _ _ c hc;exact⟨he.str _ this.1,he.str _ this.2⟩
      have:=jyv _ _ m hm
      exact⟨he.str _ (hdr _ _ this.1),he.str _ (hdr _ _ this.2)⟩⟩ }
  rw[vd h3];by_cases h4:e.kind=4
  . rw[ve h4];refine { hm with fls:=⟨?_,fun f hf=>?_⟩ }
    . have h1:=qtw r.fls ⟨nth e 0,nth e 1,e.day,1048576,tth e 0,tth e 1,nth e 2,[]⟩;rw[ve rfl] at h1;have h2:=h.fls.1;have h3:=mh (l:=r.fls) (x:=⟨nth e 0,nth e 1,e.day,1048576,tth e 0,tth e 1,nth e 2,[]⟩) (vo _);exact xc (Nat.add_le_add h3 h1) omq
    rcases qg hf with hf|rfl
    . exact hm.fls.2 f hf
    exact⟨ht 0,ht 1,vj _,fun _ h=>nomatch h⟩
  rw[vd h4];by_cases h5:e.kind=5
  . rw[ve h5];refine { hm with fls:= ?_ }
    show (gq _ _ _).length+clsd (gq _ _ _)<=n+1/\∀f∈gq _ _ _,_
    unfold gq;split
    . split
      . rename_i f hx;have hf:=h.fls.2 f (vp hx);refine⟨by rw[yc];have:=(jzz hx { f with nts:=f.nts++[⟨tth e 0,nth e 1,nth e 2,e.day⟩] }).2 rfl;have:=h.fls.1;omega,fun g hg=>?_⟩;rcases xbw hg with hg|rfl
        . exact hm.fls.2 g hg
        refine⟨hf.1,hf.2.1,mh hf.2.2.1,fun x hx=>?_⟩;rcases qg hx with hx|rfl
        . exact hf.2.2.2 x hx
        exact ht 0
      exact hm.fls
    exact zbu
  rw[vd h5];by_cases h6:e.kind=6
  . rw[ve h6];refine { hm with fls:= ?_ }
    show (clsL _ _ _).length+clsd (clsL _ _ _)<=n+1/\∀f∈clsL _ _ _,_
    unfold clsL;split
    . split
      . rename_i f hx;have hf:=hm.fls.2 f (vp hx);refine⟨by rw[yc];have:=(jzz hx (pe f e.day)).1;have:=h.fls.1;omega,fun g hg=>?_⟩;rcases xbw hg with hg|rfl
        . exact hm.fls.2 g hg
        exact hf
      exact hm.fls
    exact zbu
  rw[vd h6];by_cases h7:e.kind=7
  . rw[ve h7]
    exact { hm with rls:=⟨mh h.rls.1,fun o ho=>by
      rcases qg ho with ho|rfl
      . exact h.rls.2 o ho
      exact⟨ht 0,ht 1⟩⟩ }
  rw[vd h7];by_cases h8:e.kind=8
  . rw[ve h8];refine { hm with rls:= ?_ }
    show (nr _ _ _).length<=n+1/\∀q∈nr _ _ _,_
    unfold nr;split
    . unfold cutR;split
      . rename_i o hx;refine⟨by rw[yc];exact hm.rls.1,fun q hq=>?_⟩;rcases xbw hq with hq|rfl
        . exact h.rls.2 q hq
        exact h.rls.2 o (vp hx)
      exact hm.rls
    exact zbu
  rw[vd h8];by_cases h9:e.kind=9
  . rw[ve h9]
    exact { hm with hls:=⟨mh h.hls.1,fun o ho=>by
      rcases qg ho with ho|rfl
      . exact h.hls.2 o ho
      exact⟨ht 0,ht 1⟩⟩ }
  rw[vd h9];by_cases h10:e.kind=10
  . rw[ve h10];refine { hm with hls:= ?_ }
    show (relL _ _ _).length<=n+1/\∀q∈relL _ _ _,_
    unfold relL;split
    . unfold cutH;split
      . rename_i o hx;refine⟨by rw[yc];exact hm.hls.1,fun q hq=>?_⟩;rcases xbw hq with hq|rfl
        . exact h.hls.2 q hq
        exact h.hls.2 o (vp hx)
      exact hm.hls
    exact zbu
  rw[vd h10];by_cases h11:e.kind=11
  . rw[ve h11]
    exact { hm with cks:=⟨mh h.cks.1,fun o ho=>by
      rcases qg ho with ho|rfl
      . exact h.cks.2 o ho
      exact ht 0⟩ }
  rw[vd h11];by_cases h12:e.kind=12
  . rw[ve h12];refine { hm with sls:=⟨mh h.sls.1,fun s hs=>?_⟩ };rcases qg hs with hs|rfl
    . exact hm.sls.2 s hs
    show (slcR _ _ _).length<=n+1
    unfold slcR;split
    . have h1:=qc6 ⟨nth e 0,nth e 1,nth e 2,nth e 3,tth e 0,tth e 1⟩ (cl r (tth e 0) e.day);have h2:(cl r (tth e 0) e.day).length<=r.fls.length:=xcc ..;have h3:=h.fls.1
      have h4:(lu (idsF (chsF ⟨nth e 0,nth e 1,nth e 2,nth e 3,tth e 0,tth e 1⟩ (cl r (tth e 0) e.day)))).length=(chsF ⟨nth e 0,nth e 1,nth e 2,nth e 3,tth e 0,tth e 1⟩ (cl r (tth e 0) e.day)).length:=by
        unfold lu idsF;rw[List.length_mergeSort,vm]
      rw[h4];omega
    exact vj _
  rw[vd h12];by_cases h13:e.kind=13
  . rw[ve h13];unfold nc chgd;split
    . exact gj _
    split
    . exact gj _
    split
    . exact gj _
    exact { hm with pps:=⟨mh h.pps.1,fun p hp=>by
      rcases qg hp with hp|rfl
      . exact h.pps.2 p hp
      show (e.num.drop 2).length<=20;rw[xw];omega⟩ }
  rw[vd h13];by_cases h14:e.kind=14
  . rw[ve h14];unfold nv chgd;split
    . exact gj _
    split
    . exact gj _
    exact { hm with aps:=mh h.aps }
  rw[vd h14];by_cases h15:e.kind=15
  . rw[ve h15];unfold wdrR;split
    . exact gj _
    refine { hm with pps:= ?_ }
    show (wdrP _ _ _).length<=n+1/\∀p∈wdrP _ _ _,_
    unfold wdrP;split
    . rename_i o hx;refine⟨by rw[yc];exact hm.pps.1,fun q hq=>?_⟩;rcases xbw hq with hq|rfl
      . exact h.pps.2 q hq
      exact h.pps.2 o (vp hx)
    exact hm.pps
  rw[vd h15];by_cases h16:e.kind=16
  . rw[ve h16]
    show Low (desP r (nth e 0) e.day).1 (n+1)
    unfold desP;split
    . exact gj _
    split
    . exact gj _
    split
    . exact gj _
    refine { hm with crs:=⟨mh h.crs.1,fun c hc=>?_⟩ };rcases qg hc with hc|rfl
    . exact h.crs.2 c hc
    refine⟨?_,?_,?_⟩
    . show (flsP r (nth e 0)).length<=20
      unfold flsP;split
      . exact vj _
      rename_i p hp;exact h.pps.2 p (xb0 hp)
    . show (befC r.crs r.crs.length).length<=100
      unfold befC;split
      . rename_i c hc;unfold bm at hc;split at hc
        . cases hc
        exact(h.crs.2 c (vp hc)).2.2
      simp
    show (sumD _).length<=100
    rw[jmr];decide
  rw[vd h16];exact { hm with dps:=mh h.dps }
theorem jc6{r:Rgs}{n:Nat}(h:Low r n)(d:Int):Low (di r d) n:= { h with }
def qyt(r:Rgs)(e:Evt):Rgs:=(appl r e).1
def bb(r:Rgs)(l:List Evt):Rgs:=l.foldl qyt r
def fy:Option Int->Rgs->List Evt->Prop
 |_,_,[]=>True
 |q,r,e::l=>ji q e=false/\(appl r e).2=0/\fy (some e.id) (appl r e).1 l
theorem jk8{D:Int}: ∀ {l:List Evt} {q:Option Int} {k:Int} {r:Rgs},(∀e∈l,¬D<e.day)->(jw D q k r l).2.2=0->fy q r l/\jw D q k r l=(bb r l,-1,0)
 |[],_,_,_,_,_=>⟨trivial,rfl⟩
 |e::l,q,k,r,hd,h=>by
  unfold jw at h ⊢;rw[vd (hd e (yo ..))] at h ⊢;by_cases h1:ji q e=true
  .rw[ve h1] at h;cases h
  rw[vd h1] at h ⊢;by_cases h2:(appl r e).2≠0
  .rw[ve h2] at h;exact absurd h h2
  rw[vd h2] at h ⊢;obtain⟨h3,h4⟩:=jk8 (fun x hx=>hd x (ym _ hx)) h;exact⟨⟨by simpa using h1,yt.1 h2,h3⟩,h4⟩
theorem jgs{D:Int}: ∀ {l:List Evt} {q:Option Int} {k:Int} {r:Rgs},(∀e∈l,¬D<e.day)->fy q r l->jw D q k r l=(bb r l,-1,0)
 |[],_,_,_,_,_=>rfl
 |e::l,q,k,r,hd,⟨h1,h2,h3⟩=>by
  unfold jw;rw[vd (hd e (yo ..)),vd (by rw[h1];exact Bool.false_ne_true),vd ze0,jgs (fun x hx=>hd x (ym _ hx)) h3];rfl
theorem jll:∀ {l:List Evt} {q:Option Int} {r:Rgs} (i:Nat),fy q r l->fy q r (l.take i)
 |[],_,_,i,h=>by rw[List.take_nil];exact h
 |_::_,_,_,0,_=>trivial
 |_::_,_,_,i+1,⟨h1,h2,h3⟩=>⟨h1,h2,jll i h3⟩
theorem joy:∀ {l:List Evt} {q:Option Int} {r:Rgs} {i:Nat} {e:Evt},fy q r l->l[i]?=some e->(appl (bb r (l.take i)) e).2=0
 |[],_,_,i,e,_,he=>by simp at he
 |x::l,q,r,0,e,⟨_,h2,_⟩,he=>by
  simp only[List.getElem?_cons_zero,vk] at he;subst he;exact h2
 |x::l,q,x',i+1,e,⟨_,_,h3⟩,he=>by
  simp only[List.getElem?_cons_succ] at he
  show (appl (bb (appl x' x).1 (l.take i)) e).2=0
  exact joy h3 he
theorem oa{r:Rgs}{l:List Evt}{i:Nat}{e:Evt}(h:l[i]?=some e):bb r (l.take (i+1))=(appl (bb r (l.take i)) e).1:=by
 obtain⟨hlt,rfl⟩:=gsi.1 h;unfold bb;rw[xap hlt,xbk];rfl
def upN(l:List Evt)(d:Int):Nat:=(l.findIdx? fun e=>decide (d<e.day)).getD l.length
theorem jw1{D d:Int}: ∀ {l:List Evt} {q:Option Int} {k:Int} {r:Rgs},(∀e∈l,¬D<e.day)->fy q r l->jw d q k r l=(bb r (l.take (upN l d)),-1,0)
 |[],_,_,_,_,_=>by simp[jw,bb,upN]
 |e::l,q,k,r,hd,⟨h1,h2,h3⟩=>by
  unfold jw;by_cases h:d<e.day
  .rw[ve h];have:upN (e::l) d=0:=by unfold upN;rw[List.findIdx?_cons,ve zfk];rfl
   rw[this];rfl
  have:upN (e::l) d=upN l d+1:=by
   unfold upN;rw[List.findIdx?_cons,vd zfk];cases l.findIdx? fun e=>decide (d<e.day)<;>rfl
  rw[vd h,vd (by rw[h1];exact Bool.false_ne_true),vd ze0,jw1 (fun x hx=>hd x (ym _ hx)) h3,this];rfl
theorem qcq(l:List Evt)(d:Int):upN l d<=l.length:=by
 unfold upN;cases h:l.findIdx? fun e=>decide (d<e.day) with
 |none=>exact vo _
 |some i=>exact Nat.le_of_lt (xbb.1 h).1
theorem qys{l:List Evt}{i:Nat}{e:Evt}(h:i<upN l d)(he:l[i]?=some e):e.day<=d:=by
 unfold upN at h;obtain⟨hlt,rfl⟩:=gsi.1 he;cases h1:l.findIdx? fun e=>decide (d<e.day) with
 |none=>
  have:=xcl.1 h1 _ (xbo hlt);exact zb4
 |some j=>
  rw[h1] at h;have:=(xbb.1 h1).2.2 i h;exact zb4
theorem jku:∀ {l:List Evt} {q:Option Int} {r:Rgs},da r=0->fy q r l->da (bb r l)=0
 |[],_,_,h,_=>h
 |x::l,_,r,_,⟨_,h2,h3⟩=>by
  show da (bb (appl r x).1 l)=0
  exact jku (jew h2).2.1 h3
theorem qnj{l:List Evt}{q:Option Int}{r:Rgs}{n:Nat}{e:Evt}(h:fy q r l)(hn:l[n]?=some e):(bb r (l.take (n+1))).chg=e.day:=by
 rw[oa hn];exact(jew (joy h hn)).1
theorem jdz:da aj=0:=by rfl
abbrev maxI:Int:=9223372036854775807
theorem qhn{l:List Evt}(hd:∀e∈l,e.day<=maxI)(h:(jff l).2.2=0):l.length<=1024/\fy none aj l:=by
 unfold jff fv at h;by_cases h1:1024<l.length
 .rw[ve h1] at h;cases h
 rw[vd h1] at h;exact⟨omq,(jk8 (fun e he=>xc4.2 (hd e he)) h).1⟩
theorem qhm{l:List Evt}(hd:∀e∈l,e.day<=maxI)(hl:l.length<=1024)(h:fy none aj l)(i:Nat):jff (l.take i)=(bb aj (l.take i),-1,0):=by
 unfold jff fv;rw[vd ze8];exact jgs (fun e he=>xc4.2 (hd e (xb5 he))) (jll i h)
theorem qlp{l:List Evt}(h:fy none aj l){i:Nat}{e:Evt}(he:l[i]?=some e):uh (bb aj (l.take i)) e=(bb aj (l.take (i+1)),0):=by
 have hz:=jku jdz (jll i h);have h0:=joy h he;unfold uh;rw[vd (by rw[hz];decide),oa he];exact Prod.ext rfl h0
theorem on15{l:List Evt}(hd:∀e∈l,e.day<=maxI)(hl:l.length<=1024)(h:fy none aj l)(d:Int):fv l d=(bb aj (l.take (upN l d)),-1,0):=by
 unfold fv;rw[vd omq];exact jw1 (fun e he=>xc4.2 (hd e he)) h
theorem qxv{l:List Evt}(h:fy none aj l)(d:Int)(hn:upN l d≠0):(bb aj (l.take (upN l d))).chg<=d:=by
 obtain⟨n,hn'⟩:∃n,upN l d=n+1:=⟨upN l d-1,omq⟩;have hlt:n<l.length:=by have:=qcq l d;omega
 have he:l[n]?=some l[n]:=gge hlt;rw[hn',qnj h he];exact qys omq he
theorem jy9{r x:Rgs}{f:Fil}(m:Rul->Rul)(hm:∀q,(m q).id=q.id/\(m q).act=q.act)(hid:g.id=f.id)(hs:state g d=state f d) 
  (h:state f d≠0->gone1 x g d=gone1 r f d/\gone2 x g d=gone2 r f d/\selB x g d=selB r f d/\bf x.ofs x.pls x.hls g d=bf r.ofs r.pls r.hls f d/\
   au x g d=(au r f d).map m/\∀q∈au r f d,trig g (m q).trg d=trig f q.trg d/\dueF g d (m q)=dueF f d q):vdt x g d=vdt r f d:=by
 unfold vdt;rw[hs,hid];by_cases h0:state f d=0
 .simp only[h0,xf]
 obtain⟨e1,e2,e3,e4,e5,e6⟩:=h h0;rw[e1,e2,e3,e4,e5]
 have l1:∀(l:List Rul) (y:Int×Int),(∀q∈l,dueF g d (m q)=dueF f d q)->fq g d (l.map m) y=fq f d l y:=by
  intro l
  induction l with
  |nil=>intro y _;rfl
  |cons q l ih=>
   intro y hl;have hq:=hl q (yo ..);simp only[vy,fq];rw[hq,(hm q).1];exact ih _ fun q hq=>hl q (ym _ hq)
 have l2:fq g d ((au r f d).map m) (-1,0)=fq f d (au r f d) (-1,0):=l1 _ _ fun q hq=>(e6 q hq).2
 have l3:∀(p p':Rul->Bool) (l:List Rul),(∀q∈l,p (m q)=p' q)->(l.map m).find? p=(l.find? p').map m:=by
  intro p p' l
  induction l with
  |nil=>intro _;rfl
  |cons q l ih=>
   intro hl;have hq:=hl q (yo ..);simp only[vy,List.find?_cons,hq];cases p' q
   .exact ih fun q hq=>hl q (ym _ hq)
   rfl
 have k1:=l3 jy jy (au r f d) fun q _=>by unfold jy;rw[(hm q).2]
 have k2:=l3 (dn g d) (dn f d) (au r f d) fun q hq=>by unfold dn;rw[(e6 q hq).1]
 have k3:((au r f d).map m).any ni=(au r f d).any ni:=by
  rw[List.any_map];congr 1;exact funext fun q=>by show decide ((m q).act=2)=decide (q.act=2);rw[(hm q).2]
 have k4:((au r f d).map m=[])=(au r f d=[]):=by simp
 simp only[l2,k1,k2,k3,k4];cases (au r f d).find? jy with
 |some q=>simp only[Option.map_some,(hm q).1]
 |none=>
  simp only[Option.map_none];cases (au r f d).find? (dn f d) with
  |some q=>simp only[Option.map_some,(hm q).1]
  |none=>simp only[Option.map_none]
theorem map_id'(l:List Rul):l=l.map (fun q=>q):=(List.map_id' l).symm
theorem jaa{r x:Rgs}{f:Fil}(hid:g.id=f.id)(hs:state g d=state f d)(ht:∀s,trig g s d=trig f s d) 
  (h:state f d≠0->gone1 x g d=gone1 r f d/\gone2 x g d=gone2 r f d/\selB x g d=selB r f d/\bf x.ofs x.pls x.hls g d=bf r.ofs r.pls r.hls f d/\au x g d=au r f d):vdt x g d=vdt r f d:=by
 refine jy9 (fun q=>q) (fun _=>⟨rfl,rfl⟩) hid hs fun h0=>?_;obtain⟨h1,h2,h3,h4,h5⟩:=h h0;refine⟨h1,h2,h3,h4,by rw[h5,<- map_id'],fun q _=>⟨ht _,?_⟩⟩;unfold dueF;rw[ht]
theorem jli{f:Fil}(h:state f d≠0):f.opn<=d:=by
 unfold Arc.state at h;by_cases h1:d<f.opn
 .rw[ve h1] at h;exact absurd rfl h
 omega
theorem jvp{l l':List Ofc}{d:Int}(hg:goodO l=true)(m:Ofc->Ofc)(hid:∀o,(m o).id=o.id)(hl:∀n o,av l n=some o->av l' n=some (m o)) 
  (hm:∀n o,av l n=some o->o.frm<=d->inS (m o).frm (m o).til d=inS o.frm o.til d/\(inS o.frm o.til d=false->(m o).nxt=o.nxt)):
  ∀(k:Nat) (n:Int) (o:Ofc),av l n=some o->o.frm<=d->chainF l' d k (m o)=chainF l d k o
 |0,n,o,_,_=>by simp only[chainF,hid]
 |k+1,n,o,ho,hd=>by
  obtain⟨h1,h2⟩:=hm n o ho hd;by_cases hi:inS o.frm o.til d=true
  .rw[jbl _ (jnc hi),jbl _ (jnc (by rw[h1];exact hi)),hid]
  have hi:inS o.frm o.til d=false:=by simpa using hi
  obtain⟨g1,g2,g3,g4⟩:=jkr hg ho;cases hn:o.nxt with
  |nil=>rw[jbl _ (jlt hn),jbl _ (jlt (by rw[h2 hi];exact hn)),hid]
  |cons y r=>
   obtain⟨q,hq,hqf⟩:=g4 y (by rw[hn];exact yo ..)
   have hqd:q.frm<=d:=by
    rw[hqf];unfold inS at hi;simp only[xbl] at hi;omega
   rw[jk4 k ((jkm hi hn).trans hq),jk4 k ((jkm (by rw[h1];exact hi) (by rw[h2 hi];exact hn)).trans (hl y q hq)),hid];rw[jvp hg m hid hl hm k y q hq hqd]
theorem jxy{l l':List Ofc}{d n:Int}(hg:goodO l=true)(hg':goodO l'=true)(m:Ofc->Ofc)(hid:∀o,(m o).id=o.id)(hl:∀n o,av l n=some o->av l' n=some (m o)) 
  (hm:∀n o,av l n=some o->o.frm<=d->inS (m o).frm (m o).til d=inS o.frm o.til d/\(inS o.frm o.til d=false->(m o).nxt=o.nxt)) {o:Ofc} (ho:av l n=some o) (hd:o.frm<=d):chain l' n d=chain l n d:=by
 rw[jl7 hg ho,jl7 hg' (hl n o ho),jvp hg m hid hl hm _ n o ho hd]
theorem jt4{r x:Rgs}{f g:Fil}(m:Hld->Hld)(hm:∀h∈r.hls,(m h).id=h.id/\(m h).kind=h.kind/\(m h).obj=h.obj/\(m h).cls=h.cls/\inS (m h).frm (m h).til d=inS h.frm h.til d)(hx:x.hls=r.hls.map m) 
  (hid:g.id=f.id) (hc:chain x.ofs g.ofc d=chain r.ofs f.ofc d) (hk:bd x.pls g d=bd r.pls f d):bf x.ofs x.pls x.hls g d=bf r.ofs r.pls r.hls f d:=by
 unfold bf;rw[hx]
 have:∀l:List Hld,(∀h∈l,h∈r.hls)->((l.map m).filter fun h=>ga x.ofs x.pls h g d).map (·.id)=(l.filter fun h=>ga r.ofs r.pls h f d).map (·.id):=by
  intro l
  induction l with
  |nil=>intro _;rfl
  |cons h l ih=>
   intro hl;have ih:=ih fun k hk=>hl k (ym _ hk);obtain⟨m1,m2,m3,m4,m5⟩:=hm h (hl h (yo ..))
   have he:ga x.ofs x.pls (m h) g d=ga r.ofs r.pls h f d:=by
    unfold ga nj;rw[m2,m3,m4,m5,hid,hc,hk]
   simp only[vy,xc5,he];cases ga r.ofs r.pls h f d
   .exact ih
   simp only[xf,vy,m1];rw[ih]
 exact this r.hls fun _ h=>h
theorem qwm(l:List Hld):l=l.map (fun q=>q):=(List.map_id' l).symm
theorem jg8{r x:Rgs}{f:Fil}(hx:x.hls=r.hls)(hid:g.id=f.id)(hc:chain x.ofs g.ofc d=chain r.ofs f.ofc d)(hk:bd x.pls g d=bd r.pls f d):bf x.ofs x.pls x.hls g d=bf r.ofs r.pls r.hls f d:=
 jt4 (fun q=>q) (fun _ _=>⟨rfl,rfl,rfl,rfl,rfl⟩) (by rw[hx,<- qwm]) hid hc hk
theorem qrv{l:List α}(h:ix p l=(k:Int)):∀(j:Nat) x,j<k->l[j]?=some x->p x=false:=by
 have hx:l.findIdx? p=some k:=by
  unfold ix at h;cases e:l.findIdx? p with
  |none=>rw[e] at h;simp only at h;omega
  |some j=>
   rw[e] at h;have h:(j:Int)=(k:Int):=h;rw[show j=k by omega]
 obtain⟨_,-,hb⟩:=xbb.1 hx;intro j x hj hjx;obtain⟨h1,h2⟩:=gsi.1 hjx;have:=hb j hj;rw[h2] at this;exact zb4
theorem jnp{q:α->Bool}{l:List α}(h:∀(i:Nat) x,l[i]?=some x->∃y,l'[i]?=some y/\q y=p x){x:α}(hx:l.find? p=some x):
  ∃(k:Nat) (y:α),ix p l=k/\l[k]?=some x/\l'[k]?=some y/\l'.find? q=some y/\ix q l'=k:=by
 rcases ee p l with⟨-,h2⟩|⟨k,x',h1,hk,hkx,-,h2⟩
 .rw[h2] at hx;cases hx
 obtain rfl:x'=x:=by rw[h2] at hx;exact xt hx
 obtain⟨y,hy,hq⟩:=h k x' hkx;have hp:p x'=true:=yu (p:=p) h2
 have hpre:∀e∈l'.take k,q e=false:=fun e he=>by
  obtain⟨j,hj⟩:=xm he
  have hjk:j<k:=by
   have:=(gsi.1 hj).1;exact zdm
  rw[List.getElem?_take_of_lt hjk] at hj;have hjl:l[j]?=some l[j]:=gge omq;obtain⟨z,hz,hqz⟩:=h j l[j] hjl;rw[hj] at hz;cases hz;rw[hqz];exact qrv h1 j _ hjk hjl
 have hi:=(uu hpre hy (by rw[hq];exact hp)).symm;refine⟨k,y,h1,hkx,hy,?_,hi⟩;rcases ee q l' with⟨g1,-⟩|⟨k',y',g1,-,g3,-,g5⟩
 .rw[hi] at g1;omega
 rw[hi] at g1;have:k=k':=omq;subst this;rw[hy] at g3;cases g3;exact g5
theorem qz8{q:α->Bool}{l:List α}(h:∀(i:Nat) x,l[i]?=some x->∃y,l'[i]?=some y/\q y=p x)(hr:∀(i:Nat) y,l.length<=i->l'[i]?=some y->q y=false):ix q l'=ix p l:=by
 rcases ee p l with⟨h1,h2⟩|⟨k,x,h1,-,-,-,h2⟩
 .rw[h1];refine(jan (k:=l'.length) (fun e he=>?_) omq).symm;rw[yk] at he;obtain⟨j,hj⟩:=xm he;by_cases hjl:j<l.length
  .obtain⟨y,hy,hq⟩:=h j l[j] (gge hjl);rw[hj] at hy;cases hy;rw[hq];have:=yq.1 h2 l[j] (xbo hjl);exact zb4
  exact hr j e omq hj
 obtain⟨k',y,e1,-,-,-,e2⟩:=jnp h h2;rw[e2,e1]
theorem qas{key:α->Int}{l:List α}(hu:∀(i j:Nat) x y,l[i]?=some x->l[j]?=some y->key x=key y->i=j)(g:α->α){i:Nat}{x:α}(hi:l[i]?=some x):
  l.set i (g x)=l.map fun y=>if key y=key x then g y else y:=by
 have hil:=(gsi.1 hi).1;refine xc6 fun j=>?_;rw[xcp,xe];by_cases e:i=j
 .subst e;rw[ve rfl,ve hil,hi];simp
 rw[vd e];cases hj:l[j]? with
 |none=>rfl
 |some p=>
  have hne:key p≠key x:=fun e2=>e (hu i j x p hi hj e2.symm);simp[hne]
theorem jph(p:Plan)(t:Int)(s:Str):has { p with til:=t } s=has p s:=rfl
theorem jxv(p:Plan)(t:Int)(l:List Nat):∀n,pb { p with til:=t } l n=pb p l n
 |0=>rfl
 |n+1=>by simp only[pb,jph,jxv p t l n]
theorem qw1(p q:Plan)(t u:Int)(s:Str):nxt { p with til:=t } { q with til:=u } s=nxt p q s:=by
 unfold nxt next up;simp only[jph,jxv]
theorem qan{l:List Plan}{i:Nat}{p:Plan}(hp:l[i]?=some p):∃t,(tilP l D++[z])[i]?=some { p with til:=t } /\ (t=p.til\/(t=D/\i=l.length-1)):=by
 have hlt:=(gsi.1 hp).1;obtain⟨w,hx⟩:∃w,l[l.length-1]?=some w:=⟨_,gge omq⟩;unfold tilP;rw[hx];simp only;rw[xp (by rw[yc];exact hlt),xcp];by_cases e:l.length-1=i
 .rw[ve e,ve omq]
  have:w=p:=by
   rw[e,hp] at hx;exact(xt hx).symm
  rw[this];exact⟨D,rfl,.inr ⟨rfl,e.symm⟩⟩
 rw[vd e];exact⟨p.til,hp,.inl rfl⟩
theorem jmq(l:List Plan)(D:Int):(tilP l D).length=l.length:=by
 unfold tilP;split
 .rw[yc]
 rfl
theorem jqt{l:List Plan}{i:Nat}(hi:i<l.length):∃t,pl (tilP l D++[z]) i= { pl l i with til:=t } := by
 have hp:l[i]?=some l[i]:=gge hi;obtain⟨t,h1,-⟩:=qan (D:=D) (z:=z) hp;exact⟨t,by rw[jb0 h1,jb0 hp]⟩
theorem jy8{l:List Plan}{D:Int}{z:Plan}: ∀(n i:Nat) (s:Str),i+n<l.length->pd (tilP l D++[z]) i n s=pd l i n s
 |0,_,_,_=>rfl
 |n+1,i,s,h=>by
  obtain⟨t,h1⟩:=jqt (D:=D) (z:=z) (show i<l.length by omega);obtain⟨u,h2⟩:=jqt (D:=D) (z:=z) (show i+1<l.length by omega)
  show pd (tilP l D++[z]) (i+1) n (nxt (pl (tilP l D++[z]) i) (pl (tilP l D++[z]) (i+1)) s)=pd l (i+1) n (nxt (pl l i) (pl l (i+1)) s)
  rw[h1,h2,qw1];exact jy8 n (i+1) _ omq
theorem qpk{l:List Plan}(hg:goodL l=true)(hg':goodL (tilP l D++[z])=true)(hgap:gapP l D=false)(hz:z.frm=D){f:Fil}(hd:d<D)(ho:f.opn<=d):
  bd (tilP l D++[z]) f d=bd l f d:=by
 have hix:∀d',d'<D->idx (tilP l D++[z]) d'=idx l d':=fun d' hd'=>by
  refine qz8 (fun i x hx=>?_) (fun i y hi hy=>?_)
  .obtain⟨t,h1,h2⟩:=qan (D:=D) (z:=z) hx;refine⟨_,h1,?_⟩
   show inS x.frm t d'=inS x.frm x.til d'
   rcases h2 with rfl|⟨rfl,h3⟩
   .rfl
   unfold gapP at hgap;rw[<- h3,hx] at hgap;simp only[Bool.or_eq_false_iff,xbl] at hgap;unfold inS;exact xc9.2 omq
  have hlt:=(gsi.1 hy).1;rw[vr,jmq,List.length_singleton] at hlt;have:i=l.length:=omq;subst this;rw[yb (by rw[jmq];exact vo _),jmq,Nat.sub_self] at hy;simp only[List.getElem?_cons_zero,vk] at hy;subst hy
  show inS z.frm z.til d'=false
  unfold inS;exact vw omq
 unfold bd;rw[vd (show ¬goodL (tilP l D++[z])=false by rw[hg'];decide),vd (show ¬goodL l=false by rw[hg];decide),hix f.opn omq,hix d hd];by_cases h1:idx l f.opn<0\/idx l d<idx l f.opn
 .rw[ve h1,ve h1]
 rw[vd h1,vd h1]
 have hb:idx l d<l.length:=by
  rcases ee (fun p:Plan=>inS p.frm p.til d) l with⟨g,-⟩|⟨k,_,g,hk,-⟩
  .show ix (fun p:Plan=>inS p.frm p.til d) l<_
   omega
  show ix (fun p:Plan=>inS p.frm p.til d) l<_
  omega
 obtain⟨t,h2⟩:=jqt (l:=l) (D:=D) (z:=z) (i:=(idx l f.opn).toNat) omq;rw[h2,jph];unfold jay;rw[jy8 _ _ _ omq]
def jcj(n D:Int)(nx:List Int)(o:Ofc):Ofc:=if o.id=n then { o with til:=D,nxt:=nx } else o
theorem qnn{l:List Ofc}{n:Int}{nx:List Int}(h:kg l n D nx=0):∀n' o,av l n'=some o->av (endO l n D nx) n'=some (jcj n D nx o)/\(o.id=n->o.frm<D/\D<=o.til):=by
 have he:endO l n D nx=cutO l (ii l n).toNat D nx:=by unfold endO;rw[ve h]
 unfold kg at h;split at h
 .cases h
 split at h
 .cases h
 rename_i hf;rcases ee (isId n) l with⟨h1,-⟩|⟨k,q,h1,hk,hkq,-,h2⟩
 .exact absurd (show ii l n<0 by unfold ii;rw[h1];decide) hf
 have hfo:(ii l n).toNat=k:=by unfold ii;rw[h1];rfl
 rw[hfo,hkq] at h;simp only at h;have hqn:q.id=n:=xj (show isId n q=true from yu (p:=isId n) h2);split at h
 .cases h
 rename_i hb
 have he:endO l n D nx=l.set k { q with til:=D,nxt:=nx } := by
  rw[he,hfo];unfold cutO;rw[hkq]
 intro n' o ho;have hon:o.id=n':=xj (show isId n' o=true from yu (p:=isId n') ho)
 obtain⟨k',y,g1,g2,g3,g4,-⟩:=jnp (p:=isId n') (q:=isId n') (l:=l) (l':=l.set k { q with til:=D,nxt:=nx }) (fun i x hx=>by
  rw[xcp];by_cases e:k=i
  .subst e;rw[ve rfl,ve hk];rw[hkq] at hx;cases hx;exact⟨_,rfl,rfl⟩
  .rw[vd e]
   exact⟨x,hx,rfl⟩) ho
 rw[he];refine⟨?_,fun e=>?_⟩
 .show (l.set k { q with til:=D,nxt:=nx }).find? (isId n')=_
  rw[g4];rw[xcp] at g3;by_cases e:k=k'
  .subst e;rw[ve rfl,ve hk] at g3;rw[hkq] at g2;cases g2;cases g3;unfold jcj;rw[ve hqn]
  rw[vd e,g2] at g3;cases g3
  have hne:o.id≠n:=fun e2=>e (by
   rw[<- hon,e2] at g1
   omega)
  unfold jcj;rw[vd hne]
 have:k=k':=by
  rw[<- hon,e] at g1;omega
 subst this;rw[hkq] at g2;cases g2;omega
theorem qz4{r:Rgs}(hg:OkG r){f:Fil}(hf:f∈r.fls):∃o,av r.ofs f.ofc=some o/\o.frm<=f.opn:=by
 have hz:=hg.fls;unfold jv at hz;split at hz
 .cases hz
 obtain⟨-,hz⟩:=ky hz;obtain⟨i,hi⟩:=xm hf;have h1:=(jgh hi (hz i (gsi.1 hi).1)).2.2.2.1;unfold mr at h1;cases ho:av r.ofs f.ofc with
 |none=>rw[ho] at h1;cases h1
 |some o=>
  rw[ho] at h1;have h1:inS o.frm o.til f.opn=true:=h1;unfold inS at h1;exact⟨o,rfl,(xj h1).1⟩
theorem jlx{l:List Hld}(h:(ib l).2=0):∀(j i:Nat) (f g:Hld),i<j->l[i]?=some f->l[j]?=some g->f.id<g.id
 |0,i,_,_,hij,_,_=>absurd hij (xba i)
 |j+1,i,f,g,hij,hf,hg=>by
  have hz:=h;unfold ib at hz;obtain⟨-,hz⟩:=ky hz;have hjl:j+1<l.length:=(gsi.1 hg).1;obtain⟨x,hx⟩:∃x,l[j]?=some x:=⟨_,gge omq⟩;have h1:=hz (j+1) hjl;unfold sv at h1;rw[hg] at h1;simp only at h1;split at h1
  .cases h1
  split at h1
  .cases h1
  rename_i hp
  have h2:x.id<g.id:=by
   unfold tb at hp;rw[vd (xcd j),xcg,hx] at hp;simp only[vq] at hp;omega
  rcases xk i j with hlt|hge
  .have:=jlx h j i f x hlt hf hx;omega
  have:i=j:=omq;subst this;rw[hf] at hx;cases hx;exact h2
theorem qnc{l:List Hld}(h:(ib l).2=0):∀(i j:Nat) x y,l[i]?=some x->l[j]?=some y->x.id=y.id->i=j:=fun i j x y hx hy e=>by
 rcases xch i j with h1|h1|h1
 .have:=jlx h j i x y h1 hx hy;omega
 .exact h1
 have:=jlx h i j y x h1 hy hx;omega
def jrb(n D:Int)(h:Hld):Hld:=if h.id=n then { h with til:=D } else h
theorem qrb{l:List Hld}{n:Int}(hz:(ib l).2=0)(h:relE l n D=0):relL l n D=l.map (jrb n D)/\∀x∈l,x.id=n->x.frm<D/\D<=x.til:=by
 have he:relL l n D=cutH l (ka l n).toNat D:=by unfold relL;rw[ve h]
 unfold relE at h;split at h
 .cases h
 split at h
 .cases h
 rename_i hf;rcases ee (po n) l with⟨h1,-⟩|⟨k,q,h1,hk,hkq,-,h2⟩
 .exact absurd (show ka l n<0 by unfold ka;rw[h1];decide) hf
 have hfo:(ka l n).toNat=k:=by unfold ka;rw[h1];rfl
 rw[hfo,hkq] at h;simp only at h;have hqn:q.id=n:=xj (show po n q=true from yu (p:=po n) h2);split at h
 .rename_i hb;cases h
 rename_i hb;have hu:=qnc hz;constructor
 .rw[he,hfo];unfold cutH;rw[hkq]
  show l.set k { q with til:=D } = _
  rw[qas (key:=Hld.id) hu (fun h:Hld=> { h with til:=D }) hkq,hqn];rfl
 intro x hx e;obtain⟨j,hj⟩:=xm hx;have:=hu j k x q hj hkq (by rw[e,hqn]);subst this;rw[hkq] at hj;cases hj;omega
theorem qmj{l:List Rul}(h:goodR l=true):∀(i j:Nat) x y,l[i]?=some x->l[j]?=some y->x.id=y.id->i=j:=fun i j x y hx hy e=>by
 have h1:=jnq h hx;have h2:=jnq h hy;rw[e] at h1;omega
def fl(n D:Int)(q:Rul):Rul:=if q.id=n then { q with til:=D } else q
theorem qnm{l:List Rul}{n:Int}(hz:goodR l=true)(h:iw l n D=0):nr l n D=l.map (fl n D)/\∀x∈l,x.id=n->x.frm<D/\D<=x.til:=by
 have he:nr l n D=cutR l (gt l n).toNat D:=by unfold nr;rw[ve h]
 unfold iw at h;split at h
 .cases h
 split at h
 .cases h
 rename_i hf;rcases ee (pm n) l with⟨h1,-⟩|⟨k,q,h1,hk,hkq,-,h2⟩
 .exact absurd (show gt l n<0 by unfold gt;rw[h1];decide) hf
 have hfo:(gt l n).toNat=k:=by unfold gt;rw[h1];rfl
 rw[hfo,hkq] at h;simp only at h;have hqn:q.id=n:=xj (show pm n q=true from yu (p:=pm n) h2);split at h
 .rename_i hb;cases h
 rename_i hb;have hu:=qmj hz;constructor
 .rw[he,hfo];unfold cutR;rw[hkq]
  show l.set k { q with til:=D } = _
  rw[qas (key:=Rul.id) hu (fun h:Rul=> { h with til:=D }) hkq,hqn];rfl
 intro x hx e;obtain⟨j,hj⟩:=xm hx;have:=hu j k x q hj hkq (by rw[e,hqn]);subst this;rw[hkq] at hj;cases hj;omega
theorem qn6{e:Evt}{x:Knd}(hl:bt e=false)(hk:knd e.kind=some x)(h0:0<=x.day):e.day<=nth e x.day.toNat:=by
 unfold bt at hl;rw[hk] at hl;simp only[Bool.and_eq_false_iff,xbl] at hl;omega
theorem qe3{r:Rgs}(h:da r=0):OkG r:=by
 unfold da at h;split at h
 .exact zc4
 rename_i h1;exact jj1 (jc0.1 (yt.1 h1)).g
theorem jv5{l:List Fil}{f0 g0:Fil}(hk:l[k]?=some f0)(hid:g0.id=f0.id)(hi:az l f0.id=(k:Int)){id:Int}{f:Fil}(hf:l.find? (ci id)=some f):
  (l.set k g0).find? (ci id)=some (if f.id=f0.id then g0 else f)/\(f.id=f0.id->f=f0):=by
 have hkl:=(gsi.1 hk).1;have hfi:f.id=id:=xj (show ci id f=true from yu (p:=ci id) hf)
 obtain⟨k',y,g1,g2,g3,g4,-⟩:=jnp (p:=ci id) (q:=ci id) (l:=l) (l':=l.set k g0) (fun i x hx=>by
  rw[xcp];by_cases e:k=i
  .subst e;rw[ve rfl,ve hkl];rw[hk] at hx;cases hx;exact⟨_,rfl,by unfold ci;rw[hid]⟩
  .rw[vd e]
   exact⟨x,hx,rfl⟩) hf
 rw[g4];rw[xcp] at g3;by_cases e:k=k'
 .subst e;rw[ve rfl,ve hkl] at g3;rw[hk] at g2;cases g2;cases g3;exact⟨by rw[ve rfl],fun _=>rfl⟩
 rw[vd e,g2] at g3;cases g3
 have hne:f.id≠f0.id:=fun e2=>e (by
  unfold az at hi;rw[<- e2,hfi] at hi
  omega)
 exact⟨by rw[vd hne],fun e2=>absurd e2 hne⟩
theorem qbs{r:Rgs}{id:Int}{f:Fil}(h:r.fls.find? (ci id)=some f):filA r id=f:=by unfold filA;rw[h]
theorem qqi{r x:Rgs}{f:Fil}(hx:x.ofs=r.ofs/\x.pls=r.pls/\x.rls=r.rls/\x.hls=r.hls/\x.sls=r.sls/\x.crs=r.crs/\x.dps=r.dps)(hd:d<D)(hc:f.cld=1048576)(h2:d<=1048575):vdt x (pe f D) d=vdt r f d:=by
 obtain⟨e1,e2,e3,e4,e5,e6,e7⟩:=hx;refine jaa rfl ?_ (fun s=>?_) (fun _=>?_)
 .unfold Arc.state
  show (if d<f.opn then(0:Int) else if d<D then 1 else 2)=if d<f.opn then 0 else if d<f.cld then 1 else 2
  rw[ve hd,hc,ve (show d<1048576 by omega)]
 .unfold trig
  show (if s=mj then onD f.opn d else if s=jox then onD D d else(best f s d).map fun n=>(n.fst,n.lst))=_
  have o1:onD D d=none:=by unfold onD;rw[ve hd]
  have o2:onD f.cld d=none:=by unfold onD;rw[ve omq]
  rw[o1,o2]
 refine⟨?_,?_,?_,?_,?_⟩
 .unfold gone1;rw[e6];rfl
 .unfold gone2;rw[e7];rfl
 .unfold selB;rw[e5];rfl
 .exact jg8 e4 rfl (by rw[e1];rfl) (by rw[e2];rfl)
 unfold au;rw[e2,e3];rfl
theorem qhe{r x:Rgs}(hg:OkG r)(hgx:OkG x){n:Int}(hx:x.rls=r.rls.map (fl n D))(hp:x.pls=r.pls)(hm:∀q∈r.rls,q.id=n->q.frm<D/\D<=q.til){f:Fil}(hd:d<D):
  au x f d=(au r f d).map (fl n D)/\∀q∈au r f d,trig f (fl n D q).trg d=trig f q.trg d/\dueF f d (fl n D q)=dueF f d q:=by
 have hcls:∀q,(fl n D q).cls=q.cls/\(fl n D q).trg=q.trg/\(fl n D q).yrs=q.yrs/\(fl n D q).yend=q.yend:=fun q=>by
  unfold fl;split<;>exact⟨rfl,rfl,rfl,rfl⟩
 have happ:∀s,∀q∈r.rls,appB s d (fl n D q)=appB s d q:=fun s q hq=>by
  unfold appB;rw[(hcls q).1];congr 1;unfold fl;split
  .rename_i e;obtain⟨h1,h2⟩:=hm q hq e;unfold inS;exact xc9.2 (by show q.frm<=d/\d<D↔q.frm<=d/\d<q.til;omega)
  rfl
 have hfil:∀(p p':Rul->Bool) (l:List Rul),(∀q∈l,p (fl n D q)=p' q)->(l.map (fl n D)).filter p=(l.filter p').map (fl n D):=by
  intro p p' l
  induction l with
  |nil=>intro _;rfl
  |cons q l ih=>
   intro hl;have ih:=ih fun q hq=>hl q (ym _ hq);simp only[vy,xc5,hl q (yo ..)];cases p' q
   .exact ih
   simp only[xf,vy,ih]
 have hfold:∀(l:List Rul) (m:Nat),(l.map (fl n D)).foldl (fun m r=>max m (bv r.cls)) m=l.foldl (fun m r=>max m (bv r.cls)) m:=by
  intro l
  induction l with
  |nil=>intro m;rfl
  |cons q l ih=>
   intro m;simp only[vy,List.foldl_cons,(hcls q).1,ih]
 have hlong:∀s,bp (r.rls.map (fl n D)) s d=bp r.rls s d:=fun s=>by
  unfold bp;rw[hfil (appB s d) (appB s d) r.rls (happ s),hfold]
 constructor
 .unfold au;rw[hp,hx];split
  .refine hfil _ _ r.rls fun q hq=>?_;rw[happ _ q hq,(hcls q).1,hlong]
  rfl
 intro q hq;have hqm:=juj hq;refine⟨by rw[(hcls q).2.1],?_⟩;unfold dueF;rw[(hcls q).2.1];congr 1
 funext t
 unfold dueR;have g1:=(hg.rule hqm).1;have g2:=(hgx.rule (q:=fl n D q) (by rw[hx];exact xbi hqm)).1;rw[g1,g2,(hcls q).2.2.1,(hcls q).2.2.2]
theorem qux{r:Rgs}{e:Evt}(hg:OkG r)(hgx:OkG (di (actK r e).1 e.day))(hl:bt e=false)(h:(actK r e).2=0)(hd:d<e.day)(hd0:d<=1048575){id:Int}{f:Fil}(hf:r.fls.find? (ci id)=some f):
  ∃g,(actK r e).1.fls.find? (ci id)=some g/\vdt (actK r e).1 g d=vdt r f d:=by
 have hfm:f∈r.fls:=xb0 hf;obtain⟨oo,ho1,ho2⟩:=qz4 hg hfm
 have late:∀ {k:Int} {x:Knd},e.kind=k->knd k=some x->0<=x.day->d<nth e x.day.toNat:=fun h1 h2 h3=>by
  have:=qn6 hl (by rw[h1];exact h2) h3;omega
 unfold actK at h hgx ⊢;by_cases h1:e.kind=1
 .rw[ve h1] at h hgx ⊢;have hdd:d<nth e 1:=late h1 (x:=⟨3,1,false,1⟩) rfl dcq;refine⟨f,hf,jaa rfl rfl (fun _=>rfl) (fun h0=>⟨rfl,rfl,rfl,jg8 rfl rfl ?_ rfl,rfl⟩)⟩;have hop:=jli h0
  exact jxy hg.goodO hgx.goodO (fun o=>o) (fun _=>rfl) (fun n o hn=>by
   show (r.ofs++_).find? (isId n)=some o
   rw[xcq,show r.ofs.find? (isId n)=some o from hn]
   rfl) (fun n o _ _=>⟨rfl,fun _=>rfl⟩) ho1 omq
 rw[vd h1] at h hgx ⊢;by_cases h2:e.kind=2
 .rw[ve h2] at h hgx ⊢;have hdd:d<nth e 1:=late h2 (x:=⟨2,0,true,1⟩) rfl dcq;have hlk:=qnn (show kg r.ofs (nth e 0) (nth e 1) (e.num.drop 2)=0 from h);refine⟨f,hf,jaa rfl rfl (fun _=>rfl) (fun h0=>⟨rfl,rfl,rfl,jg8 rfl rfl ?_ rfl,rfl⟩)⟩;have hop:=jli h0;refine jxy hg.goodO hgx.goodO (jcj (nth e 0) (nth e 1) (e.num.drop 2)) (fun o=>by unfold jcj;split<;>rfl) (fun n o hn=>(hlk n o hn).1) (fun n o hn hod=>?_) ho1 omq;have:=(hlk n o hn).2;unfold jcj;split
  .rename_i e1;obtain⟨a1,a2⟩:=this e1;have b1:inS o.frm o.til d=true:=vl omq;have b2:inS o.frm (nth e 1) d=true:=vl omq;exact⟨b2.trans b1.symm,fun c=>by rw[b1] at c;cases c⟩
  exact⟨rfl,fun _=>rfl⟩
 rw[vd h2] at h hgx ⊢;by_cases h3:e.kind=3
 .rw[ve h3] at h hgx ⊢;by_cases g:gapP r.pls (nth e 0)=true
  .rw[ve g] at h;cases h
  rw[vd g] at h hgx ⊢;have hdd:d<nth e 0:=late h3 (x:=⟨4,0,false,0⟩) rfl dcq;refine⟨f,hf,jaa rfl rfl (fun _=>rfl) (fun h0=>?_)⟩;have hop:=jli h0;have hc:bd (tilP r.pls (nth e 0)++[jjc r.pls e]) f d=bd r.pls f d:=qpk hg.goodL hgx.goodL (by simpa using g) rfl hdd hop;refine⟨rfl,rfl,rfl,jg8 rfl rfl rfl hc,?_⟩;unfold au;simp only[hc]
 rw[vd h3] at h hgx ⊢;by_cases h4:e.kind=4
 .rw[ve h4] at h hgx ⊢;refine⟨f,?_,rfl⟩
  show (r.fls++_).find? (ci id)=some f
  rw[xcq,hf];rfl
 rw[vd h4] at h hgx ⊢;by_cases h5:e.kind=5
 .rw[ve h5] at h hgx ⊢;have h:nh r.fls (nth e 0) ⟨tth e 0,nth e 1,nth e 2,e.day⟩=0:=h
  show ∃g,(gq r.fls (nth e 0) ⟨tth e 0,nth e 1,nth e 2,e.day⟩).find? (ci id)=some g/\vdt { r with fls:=gq r.fls (nth e 0) ⟨tth e 0,nth e 1,nth e 2,e.day⟩ } g d=vdt r f d
  unfold gq;rw[ve h];unfold nh at h;split at h
  .cases h
  rename_i hneg;rcases ee (ci (nth e 0)) r.fls with⟨g1,-⟩|⟨k,q,g1,hk,hkq,-,g2⟩
  .exact zei
  have hfo:(az r.fls (nth e 0)).toNat=k:=by unfold az;rw[g1];rfl
  have hqn:q.id=nth e 0:=xj (show ci (nth e 0) q=true from yu (p:=ci (nth e 0)) g2);rw[hfo,hkq];obtain⟨a1,a2⟩:=jv5 (g0:=cn q ⟨tth e 0,nth e 1,nth e 2,e.day⟩) hkq rfl (by rw[hqn];exact g1) hf;refine⟨_,a1,?_⟩;by_cases e2:f.id=q.id
  .rw[ve e2,a2 e2];exact qqj (i:=k) hd
  rw[vd e2];rfl
 rw[vd h5] at h hgx ⊢;by_cases h6:e.kind=6
 .rw[ve h6] at h hgx ⊢;have h:clsE r.fls (nth e 0) e.day=0:=h
  show ∃g,(clsL r.fls (nth e 0) e.day).find? (ci id)=some g/\vdt { r with fls:=clsL r.fls (nth e 0) e.day } g d=vdt r f d
  unfold clsL;rw[ve h];unfold clsE at h;split at h
  .cases h
  rename_i hneg;rcases ee (ci (nth e 0)) r.fls with⟨g1,-⟩|⟨k,q,g1,hk,hkq,-,g2⟩
  .exact zei
  have hfo:(az r.fls (nth e 0)).toNat=k:=by unfold az;rw[g1];rfl
  have hqn:q.id=nth e 0:=xj (show ci (nth e 0) q=true from yu (p:=ci (nth e 0)) g2);rw[hfo,hkq] at h;rw[hfo,hkq];simp only at h
  have hcl:q.cld=1048576:=by
   unfold lw at h;split at h
   .cases h
   rename_i c;exact yt.1 c
  obtain⟨a1,a2⟩:=jv5 (g0:=pe q e.day) hkq rfl (by rw[hqn];exact g1) hf;refine⟨_,a1,?_⟩;by_cases e2:f.id=q.id
  .rw[ve e2,a2 e2];exact qqi ⟨rfl,rfl,rfl,rfl,rfl,rfl,rfl⟩ hd hcl hd0
  rw[vd e2];rfl
 rw[vd h6] at h hgx ⊢;by_cases h7:e.kind=7
 .rw[ve h7] at h hgx ⊢;have hdd:d<nth e 4:=late h7 (x:=⟨6,2,false,4⟩) rfl dcq;refine⟨f,hf,jaa rfl rfl (fun _=>rfl) (fun h0=>⟨rfl,rfl,rfl,rfl,?_⟩)⟩
  have ha:∀s,appB s d ⟨nth e 0,tth e 0,tth e 1,nth e 1,decide (nth e 2=1),nth e 3,nth e 4,nth e 5⟩=false:=fun s=>by
   unfold appB inS;rw[vw (by show ¬(nth e 4<=d/\d<nth e 5);omega),xau]
  unfold au;simp only[jdr (ha _),xbj,xc5,List.filter_nil,ha,xau];split
  .exact xd _
  rfl
 rw[vd h7] at h hgx ⊢;by_cases h8:e.kind=8
 .rw[ve h8] at h hgx ⊢;have hdd:d<nth e 1:=late h8 (x:=⟨2,0,false,1⟩) rfl dcq;obtain⟨m1,m2⟩:=qnm hg.goodR (show iw r.rls (nth e 0) (nth e 1)=0 from h);obtain⟨m3,m4⟩:=qhe hg hgx m1 rfl m2 (f:=f) hdd;exact⟨f,hf,jy9 (fl (nth e 0) (nth e 1)) (fun q=>by unfold fl;split<;>exact⟨rfl,rfl⟩) rfl rfl (fun h0=>⟨rfl,rfl,rfl,rfl,m3,m4⟩)⟩
 rw[vd h8] at h hgx ⊢;by_cases h9:e.kind=9
 .rw[ve h9] at h hgx ⊢;have hdd:d<nth e 3:=late h9 (x:=⟨5,2,false,3⟩) rfl dcq;exact⟨f,hf,qql (x:=⟨nth e 0,nth e 1,nth e 2,tth e 0,tth e 1,nth e 3,nth e 4⟩) hdd⟩
 rw[vd h9] at h hgx ⊢;by_cases h10:e.kind=10
 .rw[ve h10] at h hgx ⊢;have hdd:d<nth e 1:=late h10 (x:=⟨2,0,false,1⟩) rfl dcq;obtain⟨m1,m2⟩:=qrb hg.hls (show relE r.hls (nth e 0) (nth e 1)=0 from h);refine⟨f,hf,jaa rfl rfl (fun _=>rfl) (fun h0=>⟨rfl,rfl,rfl,jt4 (jrb (nth e 0) (nth e 1)) (fun x hx=>?_) m1 rfl rfl rfl,rfl⟩)⟩;have:=m2 x hx;unfold jrb;split
  .rename_i e1;obtain⟨a1,a2⟩:=this e1;exact⟨rfl,rfl,rfl,rfl,xc9.2 (by show x.frm<=d/\d<nth e 1↔x.frm<=d/\d<x.til;omega)⟩
  exact⟨rfl,rfl,rfl,rfl,rfl⟩
 rw[vd h10] at h hgx ⊢;by_cases h11:e.kind=11
 .rw[ve h11];exact⟨f,hf,rfl⟩
 rw[vd h11] at h hgx ⊢;by_cases h12:e.kind=12
 .rw[ve h12];exact⟨f,hf,qv4 (s:=⟨nth e 0,e.day,_⟩) hd⟩
 rw[vd h12] at h hgx ⊢;by_cases h13:e.kind=13
 .rw[ve h13] at h ⊢;rw[jmy h];exact⟨f,hf,rfl⟩
 rw[vd h13] at h hgx ⊢;by_cases h14:e.kind=14
 .rw[ve h14] at h ⊢;rw[joe h];exact⟨f,hf,rfl⟩
 rw[vd h14] at h hgx ⊢;by_cases h15:e.kind=15
 .rw[ve h15] at h ⊢;rw[jmo h];exact⟨f,hf,rfl⟩
 rw[vd h15] at h hgx ⊢;by_cases h16:e.kind=16
 .rw[ve h16] at h ⊢;rw[jpo h];exact⟨f,hf,qqk (show d<e.day from hd)⟩
 rw[vd h16] at h hgx ⊢;refine⟨f,hf,jaa rfl rfl (fun _=>rfl) (fun h0=>⟨rfl,?_,rfl,rfl,rfl⟩)⟩
 show (r.dps++[(⟨nth e 0,e.day⟩:Dep)]).any (fun c:Dep=>cu d f c.day [c.fil])=r.dps.any fun c=>cu d f c.day [c.fil]
 rw[xcf];have:cu d f e.day [nth e 0]=false:=by unfold cu;rw[vw omq,xau]
 simp[this]
theorem qrd{r:Rgs}{e:Evt}{id:Int}(hc:da r=0)(h:(appl r e).2=0)(hlt:d<e.day)(hd:dayG d=true)(hf:¬az r.fls id<0):onE r id d=0/\onE (appl r e).1 id d=0/\onV (appl r e).1 id d=onV r id d:=by
 obtain⟨-,-,h3,h4,h5,h6⟩:=jaq h;have hg:=qe3 hc;have hgx:=qe3 h5
 have hd2:d<=1048575:=by
  unfold dayG at hd;simp only[vn,vq] at hd;exact hd.2
 rcases ee (ci id) r.fls with⟨g1,-⟩|⟨k,f,g1,hk,hkq,-,hff⟩
 .exact absurd (show az r.fls id<0 by unfold az;rw[g1];decide) hf
 obtain⟨g,a1,a2⟩:=qux hg hgx h3 h4 hlt hd2 hff;rw[h6]
 have hfx:¬az (di (actK r e).1 e.day).fls id<0:=by
  rcases ee (ci id) (di (actK r e).1 e.day).fls with⟨-,c⟩|⟨k',_,c,-,-,-,-⟩
  .rw[show (di (actK r e).1 e.day).fls.find? (ci id)=some g from a1] at c;cases c
  unfold az;rw[c];omega
 have z1:checkG r=0:=hg.zero;have z2:checkG (di (actK r e).1 e.day)=0:=hgx.zero;have y1:=jj0 z1 hf hd;have y2:=jj0 z2 hfx hd;refine⟨y1,y2,?_⟩;unfold onV;rw[ve y1,ve y2,qbs hff,qbs (r:=di (actK r e).1 e.day) a1];exact a2
end Go.Arc
