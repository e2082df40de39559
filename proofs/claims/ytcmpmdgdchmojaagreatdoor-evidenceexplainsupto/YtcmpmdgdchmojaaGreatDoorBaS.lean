/- A part of this claim. -/
import Derived.Test.YtcmpmdgdchmojaaGreatDoorSp9
import Derived.Test.YtcmpmdgdchmojaaGreatDoorBaD
import Derived.Lib.ItoaNum
namespace Go.Arc
open Go.Ab
def nextO (l:List Ofc) (d:Int) (o:Ofc):Option Ofc:=if inS o.frm o.til d=true then none else match o.nxt with
 | []=>none
 | x::_=>lookO l x
def chainF (l:List Ofc) (d:Int):Nat->Ofc->List Int
 | 0,o=>[o.id]
 | n+1,o=>match nextO l d o with
  | none=>[o.id]
  | some q=>o.id::chainF l d n q
def chain (l:List Ofc) (n d:Int):List Int:=if goodO l=false then [] else match lookO l n with
 | none=>[]
 | some o=>chainF l d 1048577 o
theorem goodO_all {l:List Ofc} (h:goodO l=true):l.length<=32/\∀i,i<l.length->faultO l i=0:=by
 have h0:(checkO l).2=0:=by simpa [goodO] using h
 obtain ⟨h1,h2⟩:=chk_zero h0;exact ⟨by omega,h2⟩
theorem faultO_zero {l:List Ofc} {i:Nat} {o:Ofc} (ho:l[i]? = some o) (h:faultO l i=0):¬badO o/\name o.name=true/\succErr l o=0/\∀q,i≠0->l[i-1]? = some q->q.id<o.id:=by
 by_cases h1:badO o
 ·rw[faultO_2 ho h1] at h; cases h
 cases hn:name o.name
 ·rw[faultO_4 ho h1 hn] at h; cases h
 by_cases h0:i=0
 ·subst h0;rw[faultO_s0 ho h1 hn] at h;exact ⟨h1,rfl,h,fun q hne=>absurd rfl hne⟩
 ·have hlt:=(List.getElem?_eq_some_iff.1 ho).1;obtain ⟨q,hq,-,-⟩:=drop_at (l:=l) (k:=i-1) (by omega);by_cases hle:o.id<=q.id
  ·rw[faultO_5 ho h1 hn h0 hq hle] at h; cases h
  ·rw[faultO_s ho h1 hn h0 hq hle] at h;refine ⟨h1,rfl,h,fun q' _ hq'=> ?_⟩;rw[hq] at hq'; cases hq';omega
theorem succErr_zero {l:List Ofc} {o:Ofc} (h:succErr l o=0):∀n∈o.nxt,∃q,lookO l n=some q/\q.frm=o.til:=by
 unfold succErr at h;split at h
 ·cases h
 split at h
 ·cases h
 split at h
 ·cases h
 rename_i h1 h2 h3;intro n hn;have h2':(o.nxt.any fun n=>(lookO l n).isNone)=false:=by simpa using h2
 have h3':(o.nxt.any fun n=> !decide (frmO l n=o.til))=false:=by simpa using h3
 have g2:=List.any_eq_false.1 h2' n hn;have g3:=List.any_eq_false.1 h3' n hn;cases e:lookO l n with
 | none=>rw[e] at g2; simp at g2
 | some q=>
  refine ⟨q,rfl,?_⟩;have:frmO l n=q.frm:=by unfold frmO; rw[e]
  rw[this] at g3;simpa using g3
theorem look_mem {l:List Ofc} {n:Int} {o:Ofc} (h:lookO l n=some o):∃i:Nat,l[i]? = some o:=List.getElem?_of_mem (List.mem_of_find?_eq_some h)
theorem goodO_look {l:List Ofc} (h:goodO l=true) {n:Int} {o:Ofc} (ho:lookO l n=some o):0<=o.frm/\o.frm<o.til/\o.til<=1048576/\∀n∈o.nxt,∃q,lookO l n=some q/\q.frm=o.til:=by
 obtain ⟨i,hi⟩:=look_mem ho;have hlt:=(List.getElem?_eq_some_iff.1 hi).1;obtain ⟨h1,-,h2,-⟩:=faultO_zero hi ((goodO_all h).2 i hlt)
 have hg:goodS o.frm o.til=true:=by
  cases e:goodS o.frm o.til
  ·exact absurd (.inr (.inr (.inl e))) h1
  ·rfl
 simp[goodS] at hg;exact ⟨hg.1,hg.2.1,hg.2.2,succErr_zero h2⟩
theorem chain_bad {l:List Ofc} {n d:Int} (h:goodO l=false):chain l n d=[]:=by unfold chain; rw[if_pos h]
theorem chain_none {l:List Ofc} {n d:Int} (h:lookO l n=none):chain l n d=[]:=by
 unfold chain;split
 ·rfl
 ·rw[h]
theorem chain_some {l:List Ofc} {n d:Int} {o:Ofc} (h:goodO l=true) (ho:lookO l n=some o):chain l n d=chainF l d 1048577 o:=by
 unfold chain; rw[if_neg (by simp[h]),ho]
theorem chainF_end {l:List Ofc} {d:Int} {o:Ofc} (n:Nat) (h:nextO l d o=none):chainF l d n o=[o.id]:=by
 cases n with
 | zero=>rfl
 | succ n=>simp only[chainF,h]
theorem chainF_next {l:List Ofc} {d:Int} {o q:Ofc} (n:Nat) (h:nextO l d o=some q):chainF l d (n+1) o=o.id::chainF l d n q:=by simp only[chainF,h]
theorem nextO_in {l:List Ofc} {d:Int} {o:Ofc} (h:inS o.frm o.til d=true):nextO l d o=none:=by unfold nextO; rw[if_pos h]
theorem nextO_nil {l:List Ofc} {d:Int} {o:Ofc} (h:o.nxt=[]):nextO l d o=none:=by unfold nextO; rw[h]; split <;> rfl
theorem nextO_cons {l:List Ofc} {d:Int} {o:Ofc} {x:Int} {r:List Int} (h:inS o.frm o.til d=false) (h':o.nxt=x::r):nextO l d o=lookO l x:=by
 unfold nextO; rw[if_neg (by simp[h]),h']
theorem chainF_len (l:List Ofc) (d:Int):∀(n:Nat) (o:Ofc),(chainF l d n o).length<=n+1
 | 0,_=>by simp[chainF]
 | n+1,o=>by
  simp only[chainF];split
  ·simp
  ·have:=chainF_len l d n ‹_›;simp only[List.length_cons]; omega
structure Hld where
 id:Int
 kind:Int
 obj:Int
 cls:Str
 why:Str
 frm:Int
 til:Int
 deriving DecidableEq
abbrev Hld.cs (h:Hld):List V:=[vi h.id,vi h.kind,vi h.obj,.str h.cls,.str h.why,vi h.frm,vi h.til]
abbrev hlds (l:List Hld):V:= .slice 7 (l.map Hld.cs)
def Hld.Fit (h:Hld):Prop:=h.cls.length<=1048576/\h.why.length<=1048576
def FitsH (l:List Hld):Prop:=l.length<=1048576/\∀h∈l,h.Fit
def idB (n:Int):Bool:=decide (1<=n/\n<=1073741824)
def ofErr (h:Hld):Int:=if h.kind≠3 then (if idB h.obj=false\/h.cls≠[] then 1 else 0) else if h.obj≠0 then 1 else if (parse h.cls).isNone=true then 3 else 0
def badH (h:Hld):Prop:=idB h.id=false\/h.kind<1\/3<h.kind\/goodS h.frm h.til=false
instance (h:Hld):Decidable (badH h):=inferInstanceAs (Decidable (_\/_))
def prevH (l:List Hld) (i:Nat) (h:Hld):Bool:=match (if i=0 then none else l[i-1]?) with | some q=>decide (h.id<=q.id) | none=>false
def faultH (l:List Hld) (i:Nat):Int:=match l[i]? with
 | none=>0
 | some h=>if badH h then 2 else if prevH l i h=true then 5 else if ofErr h≠0 then ofErr h else if name h.why=false then 4 else 0
def checkH (l:List Hld):Int×Int:=chk 64 l.length (faultH l)
def kindB (os:List Ofc) (ps:List Plan) (h:Hld) (f:Fil) (d:Int):Bool:=
 if h.kind=1 then decide (h.obj=f.id) else if h.kind=2 then (chain os f.ofc d).any (fun y=>decide (h.obj=y)) else
 if h.kind=3 then decide ((classR ps f d).2=0) && within (classR ps f d).1 h.cls else false
def covers (os:List Ofc) (ps:List Plan) (h:Hld) (f:Fil) (d:Int):Bool:=inS h.frm h.til d && kindB os ps h f d
def holding (os:List Ofc) (ps:List Plan) (l:List Hld) (f:Fil) (d:Int):List Int:=(l.filter fun h=>covers os ps h f d).map (·.id)
end Go.Arc
namespace Go.Arc
def bgn (n:Nat):Nat:=365*n+(n+3) / 4+(n+399) / 400-(n+99) / 100
def leapN (n:Nat):Bool:=decide (n % 4=0) && (decide (n % 100≠0) || decide (n % 400=0))
theorem up_step (n k:Nat) (hk:0<k):(n+1+(k-1)) / k=(n+(k-1)) / k+(if n % k=0 then 1 else 0):=by
 have e:n+1+(k-1)=n+k:=by omega
 rw[e,Nat.add_div_right _ hk];have hd:=Nat.div_add_mod n k;have hm:=Nat.mod_lt n hk;generalize hq:n / k=q at hd;generalize hr:n % k=r at hd hm;by_cases h0:r=0
 ·subst h0;have:n+(k-1)=(k-1)+k*q:=by omega
  rw[if_pos rfl,this,Nat.add_mul_div_left _ _ hk,Nat.div_eq_of_lt (by omega)];omega
 ·have:n+(k-1)=(r-1)+k*(q+1):=by rw[Nat.mul_add]; omega
  rw[if_neg h0,this,Nat.add_mul_div_left _ _ hk,Nat.div_eq_of_lt (by omega)];omega
theorem bgn_step (n:Nat):bgn (n+1)=bgn n+365+(if leapN n=true then 1 else 0):=by
 have a4:=up_step n 4 (by decide);have a100:=up_step n 100 (by decide);have a400:=up_step n 400 (by decide);have h1:(n+99) / 100<=n:=by omega
 have k1:n % 400=0->n % 100=0:=by omega
 have k2:n % 100=0->n % 4=0:=by omega
 simp only[Nat.reduceSub] at a4 a100 a400;unfold bgn leapN;rw[a4,a100,a400];generalize (n+3) / 4=x at *;generalize (n+99) / 100=y at *;generalize (n+399) / 400=z at *;by_cases c:n % 400=0
 ·have b:=k1 c;have a:=k2 b;simp[a,b,c]; omega
 ·by_cases b:n % 100=0
  ·have a:=k2 b;simp[a,b,c]; omega
  ·by_cases a:n % 4=0
   ·simp[a,b,c]; omega
   ·simp[a,b,c]; omega
theorem bgn_lt (n:Nat):bgn n<bgn (n+1):=by rw[bgn_step]; omega
theorem bgn_mono {a b:Nat} (h:a<=b):bgn a<=bgn b:=by
  induction b with
  | zero => have : a = 0 := by omega
            subst this; exact Nat.le_refl _
  | succ b ih=>
    by_cases e:a=b+1
    · subst e; exact Nat.le_refl _
    · have:=bgn_lt b;have:=ih (by omega);omega
theorem bgn_le (n:Nat):bgn n<=366*n:=by
 induction n with
 | zero=>decide
 | succ n ih=>rw[bgn_step]; split <;> omega
theorem bgn_ge (n:Nat):365*n<=bgn n:=by
 have h1:(n+99) / 100<=(n+3) / 4+(n+399) / 400:=by omega
 unfold bgn; omega
def yrF:Nat->Nat->Nat->Nat
 | 0,n,_=>n
 | k+1,n,d=>if d<bgn (n+1) then n else yrF k (n+1) d
def yr (d:Nat):Nat:=yrF (d+1) 0 d
theorem yrF_at {d m:Nat} (h1:bgn m<=d) (h2:d<bgn (m+1)):∀(k n:Nat),n<=m->m<=n+k->yrF k n d=m
 | 0,n,a,b=>by simp only[yrF]; omega
 | k+1,n,a,b=>by
  simp only[yrF];split
  ·rename_i h;rcases Nat.lt_or_ge n m with hlt | hge
   ·have:=bgn_mono (show n+1<=m by omega); omega
   ·omega
  ·rename_i h;rcases Nat.lt_or_ge n m with hlt | hge
   ·exact yrF_at h1 h2 k (n+1) (by omega) (by omega)
   ·have:n=m:=by omega
    subst this; omega
theorem yr_at {d m:Nat} (h1:bgn m<=d) (h2:d<bgn (m+1)):yr d=m:=yrF_at h1 h2 _ 0 (Nat.zero_le _) (by have:=bgn_ge m; omega)
theorem yr_spec (d:Nat):bgn (yr d)<=d/\d<bgn (yr d+1):=by
 have:∃m,bgn m<=d/\d<bgn (m+1):=by
  induction d with
  | zero=>exact ⟨0,by decide,by decide⟩
  | succ d ih=>
   obtain ⟨m,h1,h2⟩:=ih;by_cases h:d+1<bgn (m+1)
   ·exact ⟨m,by omega,h⟩
   ·exact ⟨m+1,by omega,by have:=bgn_lt (m+1); omega⟩
 obtain ⟨m,h1,h2⟩:=this;rw[yr_at h1 h2];exact ⟨h1,h2⟩
def mlens:List Nat:=[31,28,31,30,31,30,31,31,30,31,30,31]
def lenM (l:Bool) (m:Nat):Nat:=if m=2/\l=true then 29 else (mlens[m-1]?).getD 0
def sumM (l:Bool):Nat->Nat
 | 0=>0
 | m+1=>if m=0 then 0 else sumM l m+lenM l m
theorem sumM_13 (l:Bool):sumM l 13=365+(if l=true then 1 else 0):=by cases l <;> decide
def monF (l:Bool):Nat->Nat->Nat->Nat×Nat
 | 0,m,d=>(m,d)
 | k+1,m,d=>if d<lenM l m then (m,d) else monF l k (m+1) (d-lenM l m)
def mon (l:Bool) (d:Nat):Nat×Nat:=monF l 12 1 d
def date (d:Nat):Nat×Nat×Nat:=(yr d,(mon (leapN (yr d)) (d-bgn (yr d))).1,(mon (leapN (yr d)) (d-bgn (yr d))).2)
theorem monF_spec (l:Bool):∀(k m d:Nat),1<=m->m+k=13->d<sumM l 13-sumM l m->1<=(monF l k m d).1/\(monF l k m d).1<=12/\(monF l k m d).2<lenM l (monF l k m d).1/\d+sumM l m=(monF l k m d).2+sumM l (monF l k m d).1
 | 0,m,d,_,hk,hd=>by
  have:m=13:=by omega
  subst this; omega
 | k+1,m,d,h1,hk,hd=>by
  simp only[monF];split
  ·rename_i h;exact ⟨h1,(by omega:m<=12),h,rfl⟩
  ·rename_i h;have hs:sumM l (m+1)=sumM l m+lenM l m:=by simp only[sumM]; rw[if_neg (by omega)]
   obtain ⟨a,b,c,e⟩:=monF_spec l k (m+1) (d-lenM l m) (by omega) (by omega) (by omega);exact ⟨a,b,c,by omega⟩
theorem mon_spec {l:Bool} {d:Nat} (h:d<sumM l 13):1<=(mon l d).1/\(mon l d).1<=12/\(mon l d).2<lenM l (mon l d).1/\d=(mon l d).2+sumM l (mon l d).1:=by
 have:=monF_spec l 12 1 d (Nat.le_refl _) rfl (by simpa [sumM] using h);simpa [mon,sumM] using this
theorem in_year (d:Nat):d-bgn (yr d)<sumM (leapN (yr d)) 13:=by
 obtain ⟨h1,h2⟩:=yr_spec d;rw[sumM_13];rw[bgn_step] at h2;omega
def yearsN (d n:Nat):Nat:=
 let x:=date d
 if 2870<x.1+n then 1048575 else min (bgn (x.1+n)+sumM (leapN (x.1+n)) x.2.1+min (x.2.2+1) (lenM (leapN (x.1+n)) x.2.1)-1) 1048575
def yearEndN (d:Nat):Nat:=min (bgn (yr d+1)-1) 1048575
end Go.Arc
namespace Go.Arc
open Go.Ab
structure Rul where
 id:Int
 cls:Str
 trg:Str
 yrs:Int
 yend:Bool
 act:Int
 frm:Int
 til:Int
abbrev Rul.cs (r:Rul):List V:=[vi r.id,.str r.cls,.str r.trg,vi r.yrs,vb r.yend,vi r.act,vi r.frm,vi r.til]
abbrev ruls (l:List Rul):V:= .slice 8 (l.map Rul.cs)
def Rul.Fit (r:Rul):Prop:=r.cls.length<=1048576/\r.trg.length<=1048576
def FitsR (l:List Rul):Prop:=l.length<=1048576/\∀r∈l,r.Fit
def badR (r:Rul):Prop:=idB r.id=false\/r.yrs<0\/200<r.yrs\/r.act<1\/3<r.act\/goodS r.frm r.til=false
instance (r:Rul):Decidable (badR r):=inferInstanceAs (Decidable (_\/_))
def prevR (l:List Rul) (i:Nat) (r:Rul):Bool:=match (if i=0 then none else l[i-1]?) with | some q=>decide (r.id<=q.id) | none=>false
def quoted (s:Str):Bool:=s.any fun b=>b == 34
def restR (r:Rul):Int:=
 if (parse r.cls).isNone=true then 3 else if name r.trg=false\/quoted r.trg=true then 4 else
 if r.act=3/\(r.trg≠sOpened\/r.yrs≠0\/r.yend=true) then 1 else 0
def faultR (l:List Rul) (i:Nat):Int:=match l[i]? with
 | none=>0
 | some r=>if badR r then 2 else if prevR l i r=true then 5 else restR r
def checkR (l:List Rul):Int×Int:=chk 64 l.length (faultR l)
def goodR (l:List Rul):Bool:=(checkR l).2 == 0
def isIdR (n:Int) (r:Rul):Bool:=decide (r.id=n)
def findR (l:List Rul) (n:Int):Int:=ix (isIdR n) l
def depthC (s:Str):Nat:=match parse s with | some l=>l.length | none=>0
def appB (s:Str) (d:Int) (r:Rul):Bool:=inS r.frm r.til d && within s r.cls
def longest (l:List Rul) (s:Str) (d:Int):Nat:=(l.filter (appB s d)).foldl (fun m r=>max m (depthC r.cls)) 0
def applyR (l:List Rul) (s:Str) (d:Int):List Int:=(l.filter fun r=>appB s d r && (depthC r.cls == longest l s d)).map (·.id)
def datB (a b:Int):Bool:=decide (0<=a) && decide (a<=b) && decide (b<=1048575)
def dueR (r:Rul) (a b:Int):Option Int:=if goodR [r]=true/\datB a b=true then
  some ((if r.yend=true then yearEndN (yearsN b.toNat r.yrs.toNat) else yearsN b.toNat r.yrs.toNat:Nat):Int) else none
abbrev dueV (r:Rul) (a b:Int):V:=match dueR r a b with
 | some d=> .tup [vi d,vi 0]
 | none=> .tup [vi 0,vi 1]
structure Clk where
 id:Int
 role:Int
 name:Str
 frm:Int
 til:Int
structure Sel where
 smp:Int
 day:Int
 fls:List Int
structure Prp where
 id:Int
 day:Int
 clk:Int
 fls:List Int
 wdr:Int
structure Apv where
 prp:Int
 day:Int
 clk:Int
structure Crt where
 num:Int
 prp:Int
 day:Int
 fls:List Int
 bef:Str
 dig:Str
structure Dep where
 fil:Int
 day:Int
abbrev Clk.cs (c:Clk):List V:=[vi c.id,vi c.role,.str c.name,vi c.frm,vi c.til]
abbrev Sel.cs (s:Sel):List V:=[vi s.smp,vi s.day,ints s.fls]
abbrev Prp.cs (p:Prp):List V:=[vi p.id,vi p.day,vi p.clk,ints p.fls,vi p.wdr]
abbrev Apv.cs (a:Apv):List V:=[vi a.prp,vi a.day,vi a.clk]
abbrev Crt.cs (c:Crt):List V:=[vi c.num,vi c.prp,vi c.day,ints c.fls,.str c.bef,.str c.dig]
abbrev Dep.cs (d:Dep):List V:=[vi d.fil,vi d.day]
abbrev clks (l:List Clk):V:= .slice 5 (l.map Clk.cs)
abbrev sels (l:List Sel):V:= .slice 3 (l.map Sel.cs)
abbrev prps (l:List Prp):V:= .slice 5 (l.map Prp.cs)
abbrev apvs (l:List Apv):V:= .slice 3 (l.map Apv.cs)
abbrev crts (l:List Crt):V:= .slice 6 (l.map Crt.cs)
abbrev deps (l:List Dep):V:= .slice 2 (l.map Dep.cs)
structure Rgs where
 ofs:List Ofc
 pls:List Plan
 fls:List Fil
 rls:List Rul
 hls:List Hld
 cks:List Clk
 sls:List Sel
 pps:List Prp
 aps:List Apv
 crs:List Crt
 dps:List Dep
 chg:Int
abbrev Rgs.cs (r:Rgs):List V:=[ofcs r.ofs,plans r.pls,fils r.fls,ruls r.rls,hlds r.hls,clks r.cks,sels r.sls,prps r.pps,apvs r.aps,crts r.crs,deps r.dps,vi r.chg]
structure Rgs.Fit (r:Rgs):Prop where
 ofs:FitsO r.ofs
 pls:Fits r.pls
 fls:FitsF r.fls
 rls:FitsR r.rls
 hls:FitsH r.hls
 cks:r.cks.length<=1048576/\∀c∈r.cks,c.name.length<=1048576
 sls:r.sls.length<=1048576/\∀s∈r.sls,s.fls.length<=1048576
 pps:r.pps.length<=1048576/\∀p∈r.pps,p.fls.length<=1048576
 aps:r.aps.length<=1048576
 crs:r.crs.length<=1048576/\∀c∈r.crs,c.fls.length<=1048576/\c.bef.length<=1048576/\c.dig.length<=1048576
 dps:r.dps.length<=1048576
def dayG (d:Int):Bool:=decide (0<=d) && decide (d<=1048575)
def hasF (l:List Fil) (n:Int):Bool:=l.any fun f=>decide (f.id=n)
def risI:List Int->Bool
 | a::b::r=>decide (a<b) && risI (b::r)
 | _=>true
structure Elm where
 id:Int
 day:Int
 fls:List Int
 gone:Bool
abbrev Elm.cs (x:Elm):List V:=[vi x.id,vi x.day,ints x.fls,vb x.gone]
abbrev elms (l:List Elm):V:= .slice 4 (l.map Elm.cs)
def Sel.el (s:Sel):Elm:=⟨s.smp,s.day,s.fls,false⟩
def Crt.el (c:Crt):Elm:=⟨c.num,c.day,c.fls,true⟩
def Dep.el (d:Dep):Elm:=⟨1,d.day,[d.fil],true⟩
def goneB (l:List Elm) (n:Int):Bool:=l.any fun x=>x.gone && x.fls.any fun f=>decide (f=n)
def elmE (fs:List Fil) (pre:List Elm) (last:Option Elm) (x:Elm):Int:=
 if idB x.id=false\/dayG x.day=false then 2 else if x.fls.all (hasF fs)=false then 7 else
 if risI x.fls=false\/(match last with | some q=>decide (x.day<q.day) | none=>false)=true then 5 else
 if x.gone=true/\x.fls.any (goneB pre)=true then 6 else 0
def elsE (fs:List Fil):List Elm->Option Elm->List Elm->Int
 | _,_,[]=>0
 | pre,last,x::r=>if elmE fs pre last x≠0 then elmE fs pre last x else elsE fs (pre++[x]) (some x) r
def listE (fs:List Fil) (pre l:List Elm):Int:=if 1024<l.length then 8 else elsE fs pre none l
def fstE:List Int->Int
 | []=>0
 | e::r=>if e≠0 then e else fstE r
def selE (r:Rgs):List Elm:=r.sls.map Sel.el
def crtE (r:Rgs):List Elm:=r.crs.map Crt.el
def depE (r:Rgs):List Elm:=r.dps.map Dep.el
def checkG (r:Rgs):Int:=fstE [(checkO r.ofs).2,(check r.pls).2,(checkF r.ofs r.pls r.fls).2,(checkR r.rls).2,(checkH r.hls).2,
 listE r.fls [] (selE r),listE r.fls (selE r) (crtE r),listE r.fls (selE r++crtE r) (depE r)]
structure Vdt where
 kind:Int
 fil:Int
 day:Int
 rule:Int
 due:Int
 hls:List Int
abbrev Vdt.cs (v:Vdt):List V:=[vi v.kind,vi v.fil,vi v.day,vi v.rule,vi v.due,ints v.hls]
def rulesF (r:Rgs) (f:Fil) (d:Int):List Rul:=if (classR r.pls f d).2=0 then r.rls.filter fun q=>appB (classR r.pls f d).1 d q && (depthC q.cls == longest r.rls (classR r.pls f d).1 d) else []
def dueF (f:Fil) (d:Int) (q:Rul):Option Int:=(trig f q.trg d).bind fun t=>dueR q t.1 t.2
def lateF (f:Fil) (d:Int):List Rul->Int×Int->Int×Int
 | [],x=>x
 | q::r,x=>lateF f d r (match dueF f d q with | some t=>if x.1<t then (t,q.id) else x | none=>x)
def namedB (d:Int) (f:Fil) (day:Int) (l:List Int):Bool:=decide (day<=d) && l.any fun n=>decide (n=f.id)
def gone1 (r:Rgs) (f:Fil) (d:Int):Bool:=r.crs.any fun c=>namedB d f c.day c.fls
def gone2 (r:Rgs) (f:Fil) (d:Int):Bool:=r.dps.any fun c=>namedB d f c.day [c.fil]
def selB (r:Rgs) (f:Fil) (d:Int):Bool:=r.sls.any fun s=>namedB d f s.day s.fls
def keepB (q:Rul):Bool:=decide (q.act=3)
def moveB (q:Rul):Bool:=decide (q.act=2)
def waitB (f:Fil) (d:Int) (q:Rul):Bool:=(trig f q.trg d).isNone
def vdt (r:Rgs) (f:Fil) (d:Int):Vdt:=
 let l:=rulesF r f d
 let x:=lateF f d l (-1,0)
 let hs:=holding r.ofs r.pls r.hls f d
 if state f d=0 then ⟨0,f.id,d,0,0,[]⟩ else if gone1 r f d=true then ⟨1,f.id,d,0,0,[]⟩ else if gone2 r f d=true then ⟨2,f.id,d,0,0,[]⟩ else
 if l=[] then ⟨0,f.id,d,0,0,[]⟩ else if state f d=1 then ⟨3,f.id,d,0,0,[]⟩ else
 match l.find? keepB with
 | some q=>⟨4,f.id,d,q.id,0,[]⟩
 | none=>match l.find? (waitB f d) with
  | some q=>⟨5,f.id,d,q.id,0,[]⟩
  | none=>if d<=x.1 then ⟨6,f.id,d,x.2,x.1,[]⟩ else if hs≠[] then ⟨7,f.id,d,x.2,x.1,hs⟩ else
   if l.any moveB=true\/selB r f d=true then ⟨9,f.id,d,x.2,x.1,[]⟩ else ⟨8,f.id,d,x.2,x.1,[]⟩
end Go.Arc
namespace Go.Arc
open Go.Ab
theorem faultF_zero {os:List Ofc} {ps:List Plan} {l:List Fil} {i:Nat} {f:Fil} (hi:l[i]? = some f) (h:faultF os ps l i=0):¬badF f/\prevF l i f=false/\name f.title=true/\thereO os f.ofc f.opn=true/\noClass ps f=false/\notesErr f=0:=by
 by_cases h1:badF f
 ·rw[faultF_2 hi h1] at h; cases h
 rw[faultF_r hi h1] at h;cases h2:prevF l i f
 ·rw[h2,if_neg (by simp)] at h;cases h3:name f.title
  ·rw[h3,if_pos rfl] at h; cases h
  ·rw[h3,if_neg (by simp)] at h;cases h4:thereO os f.ofc f.opn
   ·rw[h4,if_pos rfl] at h; cases h
   ·rw[h4,if_neg (by simp)] at h;cases h5:noClass ps f
    ·rw[h5,if_neg (by simp)] at h;exact ⟨h1,rfl,rfl,rfl,rfl,h⟩
    ·rw[h5,if_pos rfl] at h; cases h
 ·rw[h2,if_pos rfl] at h; cases h
theorem notesErr_zero {f:Fil} (h:notesErr f=0):¬ 16<f.nts.length/\(f.nts.any fun n=> !freeN n.name)=false/\(f.nts.any fun n=> !rightN f n)=false/\unsorted f.nts=false:=by
 by_cases h1:16<f.nts.length
 ·rw[notesErr_8 h1] at h; cases h
 cases h2:f.nts.any fun n=> !freeN n.name
 ·cases h3:f.nts.any fun n=> !rightN f n
  ·rw[notesErr_s h1 h2 h3] at h;cases h4:unsorted f.nts
   ·exact ⟨h1,rfl,rfl,rfl⟩
   ·rw[h4,if_pos rfl] at h; cases h
  ·rw[notesErr_2 h1 h2 h3] at h; cases h
 ·rw[notesErr_4 h1 h2] at h; cases h
end Go.Arc
namespace Go.Arc
open Go.Ab
theorem fmax_ge (f:Rul->Nat):∀(l:List Rul) (m:Nat),m<=l.foldl (fun m r=>max m (f r)) m/\∀r∈l,f r<=l.foldl (fun m r=>max m (f r)) m
 | [],m=>⟨Nat.le_refl _,fun r hr=>nomatch hr⟩
 | x::l,m=>by
  obtain ⟨h1,h2⟩:=fmax_ge f l (max m (f x));rw[List.foldl_cons];refine ⟨Nat.le_trans (Nat.le_max_left _ _) h1,fun r hr=> ?_⟩;rcases List.mem_cons.1 hr with rfl | hr
  ·exact Nat.le_trans (Nat.le_max_right _ _) h1
  ·exact h2 r hr
theorem depth_le {l:List Rul} {s:Str} {d:Int} {r:Rul} (hr:r∈l) (ha:appB s d r=true):depthC r.cls<=longest l s d:=
 (fmax_ge (fun r=>depthC r.cls) (l.filter (appB s d)) 0).2 r (List.mem_filter.2 ⟨hr,ha⟩)
theorem longest_no {l:List Rul} {s:Str} {d:Int} {x:Rul} (ha:appB s d x=false):longest (l++[x]) s d=longest l s d:=by
 unfold longest;rw[List.filter_append];simp[ha]
theorem longest_yes {l:List Rul} {s:Str} {d:Int} {x:Rul} (ha:appB s d x=true):longest (l++[x]) s d=max (longest l s d) (depthC x.cls):=by
 unfold longest;rw[List.filter_append];simp[ha,List.foldl_append]
def deepR (l:List Rul) (s:Str) (d:Int) (n:Nat):List Int:=(l.filter fun r=>appB s d r && (depthC r.cls == n)).map (·.id)
theorem applyR_deep (l:List Rul) (s:Str) (d:Int):applyR l s d=deepR l s d (longest l s d):=rfl
theorem deepR_snoc (l:List Rul) (s:Str) (d:Int) (n:Nat) (x:Rul):deepR (l++[x]) s d n=deepR l s d n++(if appB s d x=true/\depthC x.cls=n then [x.id] else []):=by
 unfold deepR;rw[List.filter_append,List.map_append];congr 1;by_cases h:appB s d x=true/\depthC x.cls=n
 ·rw[if_pos h]; simp[h.1,h.2]
 ·rw[if_neg h];cases h1:appB s d x
  ·simp[h1]
  ·have h2:¬depthC x.cls=n:=fun e=>h ⟨h1,e⟩;simp[h1,h2]
theorem deepR_none {l:List Rul} {s:Str} {d:Int} {n:Nat} (h:longest l s d<n):deepR l s d n=[]:=by
 unfold deepR;rw[List.map_eq_nil_iff,List.filter_eq_nil_iff];intro r hr hc;simp only[Bool.and_eq_true,beq_iff_eq] at hc;have:=depth_le hr hc.1;omega
theorem apply_no {l:List Rul} {s:Str} {d:Int} {x:Rul} (ha:appB s d x=false):applyR (l++[x]) s d=applyR l s d:=by
 rw[applyR_deep,applyR_deep,longest_no ha,deepR_snoc,if_neg (by simp[ha]),List.append_nil]
theorem apply_gt {l:List Rul} {s:Str} {d:Int} {x:Rul} (ha:appB s d x=true) (h:longest l s d<depthC x.cls):applyR (l++[x]) s d=[x.id]:=by
 rw[applyR_deep,longest_yes ha,Nat.max_eq_right (by omega),deepR_snoc,if_pos ⟨ha,rfl⟩,deepR_none h,List.nil_append]
theorem apply_eq {l:List Rul} {s:Str} {d:Int} {x:Rul} (ha:appB s d x=true) (h:depthC x.cls=longest l s d):applyR (l++[x]) s d=applyR l s d++[x.id]:=by
 rw[applyR_deep,applyR_deep,longest_yes ha,Nat.max_eq_left (by omega),deepR_snoc,if_pos ⟨ha,h⟩]
theorem apply_lt {l:List Rul} {s:Str} {d:Int} {x:Rul} (ha:appB s d x=true) (h:depthC x.cls<longest l s d):applyR (l++[x]) s d=applyR l s d:=by
 rw[applyR_deep,applyR_deep,longest_yes ha,Nat.max_eq_left (by omega),deepR_snoc,if_neg (by omega),List.append_nil]
theorem take_snocR {l:List Rul} {k:Nat} {x:Rul} (h:l[k]? = some x):l.take (k+1)=l.take k++[x]:=by
 obtain ⟨hlt,rfl⟩:=List.getElem?_eq_some_iff.1 h;rw[List.take_succ_eq_append_getElem hlt]
end Go.Arc
namespace Go.Arc
open Go.Ab
theorem rul_step {l:List Rul} (h:goodR l=true) {i:Nat} {q r:Rul} (hq:l[i]? = some q) (hr:l[i+1]? = some r):q.id<r.id:=by
 have hz:(chk 64 l.length (faultR l)).2=0:=by
  have:=h;unfold goodR checkR at this;exact eq_of_beq this
 obtain ⟨-,ha⟩:=chk_zero hz;have hlt:=(List.getElem?_eq_some_iff.1 hr).1;have h0:=ha (i+1) hlt;unfold faultR at h0;rw[hr] at h0;simp only at h0;by_cases hb:badR r
 ·rw[if_pos hb] at h0; cases h0
 ·rw[if_neg hb] at h0;by_cases hp:prevR l (i+1) r=true
  ·rw[if_pos hp] at h0; cases h0
  ·unfold prevR at hp;rw[if_neg (Nat.succ_ne_zero i),Nat.add_sub_cancel,hq] at hp;simp only[decide_eq_true_eq] at hp;omega
theorem rul_asc {l:List Rul} (h:goodR l=true) {i:Nat} {q:Rul} (hq:l[i]? = some q):∀(n:Nat) {r:Rul},l[i+1+n]? = some r->q.id<r.id
 | 0,r,hr=>rul_step h hq hr
 | n+1,r,hr=>by
  have hlt:=(List.getElem?_eq_some_iff.1 hr).1;have hlt2:i+1+n<l.length:=by omega
  have h1:=rul_asc h hq n (List.getElem?_eq_getElem hlt2);have h2:=rul_step h (List.getElem?_eq_getElem hlt2) hr;omega
theorem findR_at {l:List Rul} (h:goodR l=true) {i:Nat} {q:Rul} (hq:l[i]? = some q):findR l q.id=i:=by
 refine (ix_at (k:=i) (fun e he=> ?_) hq (by simp[isIdR])).symm;obtain ⟨j,hj⟩:=List.getElem?_of_mem he
 have hji:j<i:=by
  have:=(List.getElem?_eq_some_iff.1 hj).1;rw[List.length_take] at this;omega
 rw[List.getElem?_take_of_lt hji] at hj;have:=rul_asc h hj (i-(j+1)) (r:=q) (by rw[show j+1+(i-(j+1))=i by omega]; exact hq);unfold isIdR;exact decide_eq_false (by omega)
theorem findR_mem {l:List Rul} (h:goodR l=true) {q:Rul} (hq:q∈l):∃i:Nat,i<l.length/\l[i]? = some q/\findR l q.id=i:=by
 obtain ⟨i,hi⟩:=List.getElem?_of_mem hq;exact ⟨i,(List.getElem?_eq_some_iff.1 hi).1,hi,findR_at h hi⟩
theorem rulesF_mem {r:Rgs} {f:Fil} {d:Int} {q:Rul} (h:q∈rulesF r f d):q∈r.rls:=by
 unfold rulesF at h;split at h
 ·exact (List.mem_filter.1 h).1
 ·cases h
theorem rulesF_len (r:Rgs) (f:Fil) (d:Int):(rulesF r f d).length<=r.rls.length:=by
 unfold rulesF;split
 ·exact List.length_filter_le _ _
 ·exact Nat.zero_le _
theorem rulesF_ids {r:Rgs} {f:Fil} {d:Int} (h:(classR r.pls f d).2=0):applyR r.rls (classR r.pls f d).1 d=(rulesF r f d).map (·.id):=by
 unfold rulesF applyR;rw[if_pos h]
theorem rulesF_bad {r:Rgs} {f:Fil} {d:Int} (h:(classR r.pls f d).2≠0):rulesF r f d=[]:=if_neg h
def stepL (f:Fil) (d:Int) (x:Int×Int) (q:Rul):Int×Int:=match dueF f d q with
 | some t=>if x.1<t then (t,q.id) else x
 | none=>x
theorem lateF_fold (f:Fil) (d:Int):∀(l:List Rul) (x:Int×Int),lateF f d l x=l.foldl (stepL f d) x
 | [],_=>rfl
 | _::r,_=>lateF_fold f d r _
theorem lateF_snoc (f:Fil) (d:Int) {l:List Rul} {k:Nat} {q:Rul} (x:Int×Int) (h:l[k]? = some q):lateF f d (l.take (k+1)) x=stepL f d (lateF f d (l.take k) x) q:=by
 rw[take_snocR h,lateF_fold,lateF_fold,List.foldl_append];rfl
theorem stepL_none {f:Fil} {d:Int} {x:Int×Int} {q:Rul} (h:dueF f d q=none):stepL f d x q=x:=by unfold stepL; rw[h]
theorem stepL_lt {f:Fil} {d:Int} {x:Int×Int} {q:Rul} {t:Int} (h:dueF f d q=some t) (ht:x.1<t):stepL f d x q=(t,q.id):=by unfold stepL; rw[h]; exact if_pos ht
theorem stepL_ge {f:Fil} {d:Int} {x:Int×Int} {q:Rul} {t:Int} (h:dueF f d q=some t) (ht:¬x.1<t):stepL f d x q=x:=by unfold stepL; rw[h]; exact if_neg ht
theorem dueF_no {f:Fil} {d:Int} {q:Rul} (h:trig f q.trg d=none):dueF f d q=none:=by unfold dueF; rw[h]; rfl
theorem dueF_yes {f:Fil} {d:Int} {q:Rul} {a b:Int} (h:trig f q.trg d=some (a,b)):dueF f d q=dueR q a b:=by unfold dueF; rw[h]; rfl
end Go.Arc
namespace Go.Arc
open Go.Ab
def backI (l:List Int) (i:Nat):Bool:=match l[i-1]?,l[i]? with
 | some x,some y=>decide (0<i) && decide (y<x)
 | _,_=>false
def srtI (l:List Int):Bool:= !(List.range l.length).any (backI l)
theorem backI_s {l:List Int} {i:Nat} (h0:i≠0) {x y:Int} (hx:l[i-1]? = some x) (hy:l[i]? = some y):backI l i=decide (y<x):=by
 unfold backI; rw[hx,hy]; simp; omega
theorem backI_0 (l:List Int):backI l 0=false:=by
 unfold backI;split
 ·rfl
 ·rfl
theorem srtI_at {l:List Int} {i:Nat} (hi:i<l.length) (h:backI l i=true):srtI l=false:=by
 unfold srtI;rw[show (List.range l.length).any (backI l)=true from List.any_eq_true.2 ⟨i,List.mem_range.2 hi,h⟩]; rfl
theorem srtI_end {l:List Int} (h:∀j,j<l.length->backI l j=false):srtI l=true:=by
 unfold srtI
 rw[show (List.range l.length).any (backI l)=false from by
  rw[List.any_eq_false];intro j hj
  rw[h j (List.mem_range.1 hj)]; decide]
 rfl
theorem srtI_iff (l:List Int):srtI l=true↔∀(i:Nat) x y,l[i]? = some x->l[i+1]? = some y->x<=y:=by
 constructor
 ·intro h i x y hx hy;by_cases hlt:y<x
  ·have hb:backI l (i+1)=true:=by rw[backI_s (Nat.succ_ne_zero i) (by simpa using hx) hy]; simpa using hlt
   rw[srtI_at (List.getElem?_eq_some_iff.1 hy).1 hb] at h;cases h
  ·omega
 ·intro h;refine srtI_end fun j hj=> ?_;cases j with
  | zero=>exact backI_0 l
  | succ i=>
   have hi:i<l.length:=by omega
   rw[backI_s (Nat.succ_ne_zero i) (x:=l[i]) (y:=l[i+1]) (by simp[hi]) (List.getElem?_eq_getElem hj)];have:=h i _ _ (List.getElem?_eq_getElem hi) (List.getElem?_eq_getElem hj);simpa using this
theorem risI_iff:∀l:List Int,risI l=true↔∀(i:Nat) x y,l[i]? = some x->l[i+1]? = some y->x<y
 | []=>by simp[risI]
 | [a]=>by simp[risI]
 | a::b::r=>by
  have ih:=risI_iff (b::r);unfold risI;simp only[Bool.and_eq_true,decide_eq_true_eq];rw[ih];constructor
  ·rintro ⟨h1,h2⟩ i x y hx hy;cases i with
   | zero=>simp at hx hy; omega
   | succ i=>exact h2 i x y (by simpa using hx) (by simpa using hy)
  ·intro h;exact ⟨h 0 a b rfl rfl,fun i x y hx hy=>h (i+1) x y (by simpa using hx) (by simpa using hy)⟩
def stpCI (K:List Int) (x:Int):List Int:=if K.getLast? = some x then K else K++[x]
def compI (l:List Int):List Int:=l.foldl stpCI []
theorem stpCI_last (K:List Int) (x:Int):(stpCI K x).getLast? = some x:=by
 unfold stpCI;split
 ·assumption
 ·simp
theorem stpCI_len (K:List Int) (x:Int):(stpCI K x).length<=K.length+1:=by
 unfold stpCI;split
 ·omega
 ·simp
theorem take_snocI {l:List Int} {k:Nat} {x:Int} (h:l[k]? = some x):l.take (k+1)=l.take k++[x]:=by
 obtain ⟨hlt,rfl⟩:=List.getElem?_eq_some_iff.1 h;rw[List.take_succ_eq_append_getElem hlt]
theorem compI_take {l:List Int} {k:Nat} {x:Int} (h:l[k]? = some x):compI (l.take (k+1))=stpCI (compI (l.take k)) x:=by
 rw[take_snocI h];unfold compI;rw[List.foldl_append];rfl
theorem compI_last {l:List Int} {k:Nat} {x:Int} (h:l[k]? = some x):(compI (l.take (k+1))).getLast? = some x:=by
 rw[compI_take h]; exact stpCI_last _ _
theorem compI_len (l:List Int):∀k,(compI (l.take k)).length<=k
 | 0=>by simp[compI]
 | k+1=>by
  have ih:=compI_len l k;cases h:l[k]? with
  | none=>
   have:l.length<=k:=by simpa using h
   rw[List.take_of_length_le (by omega)];rw[List.take_of_length_le this] at ih;omega
  | some x=>
   rw[compI_take h];have:=stpCI_len (compI (l.take k)) x;omega
theorem compI_same {l:List Int} {k:Nat} {x y:Int} (hk:0<k) (hy:l[k-1]? = some y) (hx:l[k]? = some x) (h:x=y):compI (l.take (k+1))=compI (l.take k):=by
 obtain ⟨j,rfl⟩:∃j,k=j+1:=⟨k-1,by omega⟩;rw[compI_take hx];unfold stpCI;rw[if_pos (by rw[compI_last (by simpa using hy),h])]
theorem compI_diff {l:List Int} {k:Nat} {x y:Int} (hk:0<k) (hy:l[k-1]? = some y) (hx:l[k]? = some x) (h:x≠y):compI (l.take (k+1))=compI (l.take k)++[x]:=by
 obtain ⟨j,rfl⟩:∃j,k=j+1:=⟨k-1,by omega⟩;rw[compI_take hx];unfold stpCI;rw[if_neg (by rw[compI_last (by simpa using hy)]; simp; omega)]
theorem compI_one {l:List Int} {x:Int} (hx:l[0]? = some x):compI (l.take 1)=[x]:=by
 rw[compI_take hx]; rfl
theorem compI_full (l:List Int):∀k,k<=l.length->((compI (l.take k)).length=k↔∀(i:Nat) x y,i+1<k->l[i]? = some x->l[i+1]? = some y->x≠y)
 | 0,_=>by simp[compI]
 | 1,h=>by
  rw[compI_one (List.getElem?_eq_getElem (show 0<l.length by omega))];simp
 | k+2,h=>by
  have ih:=compI_full l (k+1) (by omega);have hlen:=compI_len l (k+1);have hk1:k+1<l.length:=by omega
  have hx:=List.getElem?_eq_getElem hk1;have hy:=List.getElem?_eq_getElem (show k<l.length by omega);by_cases e:l[k+1]=l[k]
  ·rw[compI_same (Nat.succ_pos k) hy hx e];constructor
   ·intro g; simp only[Nat.succ_eq_add_one] at g; omega
   ·intro g; exact absurd e.symm (g k _ _ (by omega) hy hx)
  ·rw[compI_diff (Nat.succ_pos k) hy hx e,List.length_append];constructor
   ·intro g i x y hi gx gy;by_cases hik:i=k
    ·subst hik;rw[hy] at gx; rw[hx] at gy;cases gx; cases gy;exact fun hh=>e hh.symm
    ·exact ih.1 (by simp at g; omega) i x y (by omega) gx gy
   ·intro g;have:=ih.2 fun i x y hi gx gy=>g i x y (by omega) gx gy;simp; omega
theorem rise_eq (l:List Int):(srtI l && decide (((compI l).length:Int)=l.length))=risI l:=by
 have h1:=srtI_iff l;have h2:=risI_iff l;have h3:=compI_full l l.length (Nat.le_refl _);rw[List.take_length] at h3;rw[Bool.eq_iff_iff,Bool.and_eq_true,decide_eq_true_eq,h1,h2];constructor
 ·rintro ⟨g1,g2⟩ i x y hx hy;have:=h3.1 (by omega) i x y (List.getElem?_eq_some_iff.1 hy).1 hx hy;have:=g1 i x y hx hy;omega
 ·intro g;refine ⟨fun i x y hx hy=>by have:=g i x y hx hy; omega,?_⟩;have:=h3.2 fun i x y _ hx hy=>by have:=g i x y hx hy; omega
  omega
end Go.Arc
namespace Go.Arc
open Go.Ab
def upG:List (Int×Bool)->Int->Bool->List (Int×Bool)
 | [],f,b=>[(f,b)]
 | (g,c)::r,f,b=>if f=g then (f,b)::r else (g,c)::upG r f b
def getG:List (Int×Bool)->Int->Bool
 | [],_=>false
 | (g,c)::r,f=>if f=g then c else getG r f
def mapG (ps:List (Int×Bool)):List (V×V):=ps.map fun q=>(vi q.1,vb q.2)
def findG:List (Int×Bool)->Int->Option V
 | [],_=>none
 | (g,c)::r,f=>if f=g then some (vb c) else findG r f
theorem findG_get (ps:List (Int×Bool)) (f:Int):(findG ps f).getD (vb false)=vb (getG ps f):=by
 induction ps with
 | nil=>rfl
 | cons q r ih=>
  unfold findG getG;by_cases h:f=q.1
  ·rw[if_pos h,if_pos h]; rfl
  ·rw[if_neg h,if_neg h]; exact ih
theorem find_mapG (f:Int):∀ps,findV (vi f) (mapG ps)=some (findG ps f)
 | []=>rfl
 | (g,c)::r=>by
  have ih:=find_mapG f r;unfold mapG at ih;simp only[mapG,List.map_cons,findV,keyEq,if_true,findG];by_cases h:f=g
  ·simp[h]
  ·simp only[h,decide_false,if_false];exact ih
theorem upsert_mapG (f:Int) (b:Bool):∀ps,upsert (vi f) (vb b) (mapG ps)=some (mapG (upG ps f b))
 | []=>rfl
 | (g,c)::r=>by
  have ih:=upsert_mapG f b r;unfold mapG at ih;simp only[mapG,List.map_cons,upsert,keyEq,if_true,upG];by_cases h:f=g
  ·simp[h]
  ·simp only[h,decide_false,if_false,ih,Option.map_some,List.map_cons]
theorem get_up (f n:Int) (b:Bool):∀ps,getG (upG ps f b) n=if n=f then b else getG ps n
 | []=>by
  unfold upG getG getG;by_cases h:n=f <;> simp[h]
 | (g,c)::r=>by
  have ih:=get_up f n b r;unfold upG;by_cases h:f=g
  ·rw[if_pos h];unfold getG;by_cases h2:n=f
   ·simp[h2]
   ·rw[if_neg h2,if_neg h2,if_neg (by rw[<- h]; exact h2)]
  ·rw[if_neg h];unfold getG;by_cases h2:n=g
   ·rw[if_pos h2,if_pos h2,if_neg (fun e=>h (e.symm.trans h2))]
   ·rw[if_neg h2,if_neg h2,ih]
def addG (ps:List (Int×Bool)) (fs:List Int) (g:Bool):List (Int×Bool):=fs.foldl (fun ps f=>upG ps f (getG ps f || g)) ps
theorem get_add (n:Int) (g:Bool):∀(fs:List Int) ps,getG (addG ps fs g) n=(getG ps n || (g && fs.any fun f=>decide (f=n)))
 | [],ps=>by simp[addG]
 | f::r,ps=>by
  have ih:=get_add n g r (upG ps f (getG ps f || g));unfold addG at ih ⊢;rw[List.foldl_cons,ih,get_up];by_cases h:n=f
  ·subst h; cases g <;> cases getG ps n <;> simp
  ·have h':¬f=n:=fun e=>h e.symm;simp[h,h']
theorem add_snoc (ps:List (Int×Bool)) {fs:List Int} {k:Nat} {f:Int} (g:Bool) (h:fs[k]? = some f):addG ps (fs.take (k+1)) g=upG (addG ps (fs.take k) g) f (getG (addG ps (fs.take k) g) f || g):=by
 rw[take_snocI h];unfold addG;rw[List.foldl_append];rfl
theorem gone_snoc (l:List Elm) (x:Elm) (n:Int):goneB (l++[x]) n=(goneB l n || (x.gone && x.fls.any fun f=>decide (f=n))):=by
 unfold goneB;rw[List.any_append];simp
theorem get_gone {ps:List (Int×Bool)} {pre:List Elm} (h:∀n,getG ps n=goneB pre n) (x:Elm):∀n,getG (addG ps x.fls x.gone) n=goneB (pre++[x]) n:=fun n=>by
 rw[get_add,gone_snoc,h]
def elsM (fs:List Fil):List Elm->Option Elm->List (Int×Bool)->List Elm->List (Int×Bool)
 | _,_,ps,[]=>ps
 | pre,last,ps,x::r=>if elmE fs pre last x≠0 then ps else elsM fs (pre++[x]) (some x) (addG ps x.fls x.gone) r
theorem elsM_get (fs:List Fil):∀(l:List Elm) (pre:List Elm) (last:Option Elm) (ps:List (Int×Bool)),(∀n,getG ps n=goneB pre n)->elsE fs pre last l=0->∀n,getG (elsM fs pre last ps l) n=goneB (pre++l) n
 | [],pre,last,ps,h,_=>fun n=>by rw[List.append_nil]; exact h n
 | x::r,pre,last,ps,h,he=>fun n=>by
  unfold elsE at he;unfold elsM;by_cases hx:elmE fs pre last x≠0
  ·rw[if_pos hx] at he; exact absurd he hx
  ·rw[if_neg hx] at he ⊢;rw[elsM_get fs r (pre++[x]) (some x) _ (get_gone h x) he n,List.append_assoc];rfl
theorem elsE_step {fs:List Fil} {l:List Elm} {k:Nat} {x:Elm} (hx:l[k]? = some x) (pre:List Elm) (last:Option Elm):elsE fs pre last (l.drop k)=if elmE fs pre last x≠0 then elmE fs pre last x else elsE fs (pre++[x]) (some x) (l.drop (k+1)):=by
 obtain ⟨hlt,rfl⟩:=List.getElem?_eq_some_iff.1 hx;rw[List.drop_eq_getElem_cons hlt];rfl
theorem elsM_step {fs:List Fil} {l:List Elm} {k:Nat} {x:Elm} (hx:l[k]? = some x) (pre:List Elm) (last:Option Elm) (ps:List (Int×Bool)):elsM fs pre last ps (l.drop k)=if elmE fs pre last x≠0 then ps else elsM fs (pre++[x]) (some x) (addG ps x.fls x.gone) (l.drop (k+1)):=by
 obtain ⟨hlt,rfl⟩:=List.getElem?_eq_some_iff.1 hx;rw[List.drop_eq_getElem_cons hlt];rfl
def lastAt (l:List Elm) (k:Nat):Option Elm:=if k=0 then none else l[k-1]?
theorem lastAt_succ {l:List Elm} {k:Nat} {x:Elm} (hx:l[k]? = some x):lastAt l (k+1)=some x:=by
 unfold lastAt;rw[if_neg (Nat.succ_ne_zero k),Nat.add_sub_cancel]; exact hx
theorem take_snocE {l:List Elm} {k:Nat} {x:Elm} (h:l[k]? = some x):l.take (k+1)=l.take k++[x]:=by
 obtain ⟨hlt,rfl⟩:=List.getElem?_eq_some_iff.1 h;rw[List.take_succ_eq_append_getElem hlt]
end Go.Arc
namespace Go.Arc
open Go.Ab
structure Pce where
 frm:Int
 til:Int
 val:Int
 deriving DecidableEq
abbrev Pce.cs (p:Pce):List V:=[vi p.frm,vi p.til,vi p.val]
def addP:List Pce->Int->Int->Int->List Pce
 | [],c,e,k=>[⟨c,e,k⟩]
 | [p],c,e,k=>if p.val=k then [⟨p.frm,e,p.val⟩] else [p,⟨c,e,k⟩]
 | p::q::r,c,e,k=>p::addP (q::r) c e k
def Runs (K:Int->Int) (b:Int):Int->List Pce->Prop
 | a,[]=>a=b
 | a,p::r=>p.frm=a/\a<p.til/\(∀d,a<=d->d<p.til->K d=p.val)/\(∀q,r.head? = some q->q.val≠p.val)/\Runs K b p.til r
theorem Runs.le {K:Int->Int} {b:Int} : ∀ {l:List Pce} {a:Int},Runs K b a l->a<=b
 | [],a,h=>by have:a=b:=h; omega
 | p::r,a,h=>by have h1:=h.2.1; have h2:=Runs.le h.2.2.2.2; omega
theorem Runs.head {K:Int->Int} {b:Int} {l:List Pce} {a:Int} (h:Runs K b a l) {q:Pce} (hq:l.head? = some q):K a=q.val:=by
 cases l with
 | nil=>cases hq
 | cons p r=>
  simp only[List.head?_cons,Option.some.injEq] at hq;subst hq;exact h.2.2.1 a (Int.le_refl _) h.2.1
theorem Runs.ne {K:Int->Int} {b a:Int} {l:List Pce} (h:Runs K b a l) (hab:a<b):l≠[]:=fun e=>by
 subst e;have:a=b:=h;omega
theorem addP_head {l:List Pce} {c e k:Int} {q x:Pce} (hx:l.head? = some x) (h:(addP l c e k).head? = some q):q.val=x.val:=by
 match l,hx with
 | [p],hx=>
  simp only[List.head?_cons,Option.some.injEq] at hx;subst hx;unfold addP at h;split at h
  ·simp only[List.head?_cons,Option.some.injEq] at h; rw[<- h]
  ·simp only[List.head?_cons,Option.some.injEq] at h; rw[<- h]
 | p::y::r,hx=>
  simp only[List.head?_cons,Option.some.injEq] at hx;subst hx;unfold addP at h;simp only[List.head?_cons,Option.some.injEq] at h;rw[<- h]
theorem Runs.add {K:Int->Int} {c e k:Int} (hce:c<e) (hk:∀d,c<=d->d<e->K d=k):∀ {l:List Pce} {a:Int},Runs K c a l->Runs K e a (addP l c e k)
 | [],a,h=>by
  have h:a=c:=h;subst h;exact ⟨rfl,hce,hk,(fun q hq=>nomatch hq),rfl⟩
 | [p],a,h=>by
  obtain ⟨h1,h2,h3,-,h5⟩:=h;have h5:p.til=c:=h5;unfold addP;by_cases hv:p.val=k
  ·rw[if_pos hv];refine ⟨h1,by show a<e; omega,fun d g1 g2=> ?_,(fun q hq=>nomatch hq),rfl⟩;by_cases hd:d<p.til
   ·exact h3 d g1 hd
   ·exact (hk d (by omega) g2).trans hv.symm
  ·rw[if_neg hv];refine ⟨h1,h2,h3,fun q hq=> ?_,⟨h5.symm,by rw[h5]; exact hce,fun d g1 g2=>hk d (by omega) g2,(fun q hq=>nomatch hq),rfl⟩⟩;simp only[List.head?_cons,Option.some.injEq] at hq;rw[<- hq];exact fun e=>hv e.symm
 | p::x::r,a,h=>by
  obtain ⟨h1,h2,h3,h4,h5⟩:=h;unfold addP;refine ⟨h1,h2,h3,fun q hq=> ?_,Runs.add hce hk h5⟩;rw[addP_head (x:=x) rfl hq];exact h4 x rfl
theorem Runs.at {K:Int->Int} {b:Int} : ∀ {l:List Pce} {a:Int},Runs K b a l->∀ {i:Nat} {p:Pce},l[i]? = some p->a<=p.frm/\p.frm<p.til/\p.til<=b/\∀d,p.frm<=d->d<p.til->K d=p.val
 | [],a,h,i,p,hp=>by simp at hp
 | x::r,a,h,0,p,hp=>by
  simp only[List.getElem?_cons_zero,Option.some.injEq] at hp;subst hp;exact ⟨by rw[h.1]; exact Int.le_refl _,by rw[h.1]; exact h.2.1,Runs.le h.2.2.2.2,by rw[h.1]; exact h.2.2.1⟩
 | x::r,a,h,i+1,p,hp=>by
  have:=Runs.at h.2.2.2.2 (i:=i) (p:=p) (by simpa using hp);have h2:=h.2.1;exact ⟨by omega,this.2⟩
theorem Runs.step {K:Int->Int} {b:Int} : ∀ {l:List Pce} {a:Int},Runs K b a l->∀ {i:Nat} {p q:Pce},l[i]? = some p->l[i+1]? = some q->p.til=q.frm/\q.val≠p.val
 | [],a,h,i,p,q,hp,hq=>by simp at hp
 | [x],a,h,i,p,q,hp,hq=>by simp at hq
 | x::y::r,a,h,0,p,q,hp,hq=>by
  simp at hp hq;subst hp; subst hq;exact ⟨h.2.2.2.2.1.symm,h.2.2.2.1 _ rfl⟩
 | x::y::r,a,h,i+1,p,q,hp,hq=>Runs.step h.2.2.2.2 (i:=i) (by simpa using hp) (by simpa using hq)
theorem Runs.last {K:Int->Int} {b:Int} : ∀ {l:List Pce} {a:Int},Runs K b a l->∀ {p:Pce},l.getLast? = some p->p.til=b
 | [],a,h,p,hp=>by simp at hp
 | [x],a,h,p,hp=>by
  simp at hp; subst hp; exact h.2.2.2.2
 | x::y::r,a,h,p,hp=>Runs.last (l:=y::r) h.2.2.2.2 (by simpa using hp)
end Go.Arc
namespace Go.Arc
open Go.Ab
def Far (d t c:Int):Prop:=c<=d\/t<c
theorem inS_far {f u d t:Int} (h:d<=t) (hf:Far d t f) (hu:Far d t u):inS f u d=inS f u t:=by
 unfold inS;unfold Far at hf hu;rw[Bool.eq_iff_iff,decide_eq_true_eq,decide_eq_true_eq];omega
theorem le_far {c d t:Int} (h:d<=t) (hc:Far d t c):decide (c<=d)=decide (c<=t):=by
 unfold Far at hc;rw[Bool.eq_iff_iff,decide_eq_true_eq,decide_eq_true_eq];omega
theorem filter_congr' {α:Type} {p q:α->Bool} : ∀ {l:List α},(∀x∈l,p x=q x)->l.filter p=l.filter q
 | [],_=>rfl
 | x::l,h=>by
  rw[List.filter_cons,List.filter_cons,h x (by simp),filter_congr' fun y hy=>h y (by simp[hy])]
theorem any_congr' {α:Type} {p q:α->Bool} : ∀ {l:List α},(∀x∈l,p x=q x)->l.any p=l.any q
 | [],_=>rfl
 | x::l,h=>by
  rw[List.any_cons,List.any_cons,h x (by simp),any_congr' fun y hy=>h y (by simp[hy])]
theorem findIdx_congr' {α:Type} {p q:α->Bool} : ∀ {l:List α},(∀x∈l,p x=q x)->l.findIdx? p=l.findIdx? q
 | [],_=>rfl
 | x::l,h=>by
  rw[List.findIdx?_cons,List.findIdx?_cons,h x (by simp),findIdx_congr' fun y hy=>h y (by simp[hy])]
structure Quiet (r:Rgs) (f:Fil) (d t:Int):Prop where
 le:d<=t
 opn:Far d t f.opn
 cld:Far d t f.cld
 nts:∀n∈f.nts,Far d t n.rcd
 ofs:∀o∈r.ofs,Far d t o.frm/\Far d t o.til
 pls:∀o∈r.pls,Far d t o.frm/\Far d t o.til
 rls:∀o∈r.rls,Far d t o.frm/\Far d t o.til
 hls:∀o∈r.hls,Far d t o.frm/\Far d t o.til
 sls:∀s∈r.sls,(s.fls.any fun n=>decide (n=f.id))=true->Far d t s.day
 crs:∀s∈r.crs,(s.fls.any fun n=>decide (n=f.id))=true->Far d t s.day
 dps:∀s∈r.dps,s.fil=f.id->Far d t s.day
variable {r : Rgs} {f : Fil} {d t : Int}
theorem Far.sub {d t d' t' c:Int} (h:Far d t c) (h1:d<=d') (h2:t'<=t):Far d' t' c:=by unfold Far at h ⊢; omega
theorem Quiet.sub (h:Quiet r f d t) {d' t':Int} (h1:d<=d') (h2:d'<=t') (h3:t'<=t):Quiet r f d' t':=
  ⟨h2,h.opn.sub h1 h3,h.cld.sub h1 h3,fun n hn=>(h.nts n hn).sub h1 h3,fun o ho=>⟨(h.ofs o ho).1.sub h1 h3,(h.ofs o ho).2.sub h1 h3⟩,fun o ho=>⟨(h.pls o ho).1.sub h1 h3,(h.pls o ho).2.sub h1 h3⟩,
   fun o ho=>⟨(h.rls o ho).1.sub h1 h3,(h.rls o ho).2.sub h1 h3⟩,fun o ho=>⟨(h.hls o ho).1.sub h1 h3,(h.hls o ho).2.sub h1 h3⟩,fun s hs e=>(h.sls s hs e).sub h1 h3,fun s hs e=>(h.crs s hs e).sub h1 h3,fun s hs e=>(h.dps s hs e).sub h1 h3⟩
theorem Quiet.state (h:Quiet r f d t):state f d=state f t:=by
 have:=h.le;have h1:=h.opn;have h2:=h.cld;unfold Far at h1 h2;unfold Arc.state;by_cases a:d<f.opn
 ·rw[if_pos a,if_pos (by omega)]
 ·have a':¬t<f.opn:=by omega
  rw[if_neg a,if_neg a'];by_cases b:d<f.cld
  ·have b':t<f.cld:=by omega
   rw[if_pos b,if_pos b']
  ·have b':¬t<f.cld:=by omega
   rw[if_neg b,if_neg b']
theorem onD_far {c:Int} (h:d<=t) (hc:Far d t c):onD c d=onD c t:=by
 unfold Far at hc;unfold onD;by_cases a:d<c
 ·rw[if_pos a,if_pos (by omega)]
 ·rw[if_neg a,if_neg (by omega)]
theorem Quiet.trig (h:Quiet r f d t) (s:Str):trig f s d=trig f s t:=by
 have hk:known f d=known f t:=filter_congr' fun n hn=>le_far h.le (h.nts n hn);unfold Arc.trig;rw[onD_far h.le h.opn,onD_far h.le h.cld];unfold best own;rw[hk]
theorem Quiet.cls (h:Quiet r f d t):classR r.pls f d=classR r.pls f t:=by
 have hi:idx r.pls d=idx r.pls t:=by
  unfold idx ix;rw[findIdx_congr' fun p hp=>inS_far h.le (h.pls p hp).1 (h.pls p hp).2]
 unfold classR;rw[hi]
theorem Quiet.rules (h:Quiet r f d t):rulesF r f d=rulesF r f t:=by
 have ha:∀s,∀q∈r.rls,appB s d q=appB s t q:=fun s q hq=>by
  unfold appB;rw[inS_far h.le (h.rls q hq).1 (h.rls q hq).2]
 have hl:∀s,longest r.rls s d=longest r.rls s t:=fun s=>by
  unfold longest;rw[filter_congr' (ha s)]
 unfold rulesF;rw[h.cls];split
 ·refine filter_congr' fun q hq=> ?_;rw[ha _ q hq,hl]
 ·rfl
theorem Quiet.late (h:Quiet r f d t):∀(l:List Rul) (x:Int×Int),lateF f d l x=lateF f t l x
 | [],x=>rfl
 | q::l,x=>by
  unfold lateF;have:dueF f d q=dueF f t q:=by unfold dueF; rw[h.trig]
  rw[this];exact h.late l _
theorem namedB_far {day:Int} {l:List Int} (h:d<=t) (hf:(l.any fun n=>decide (n=f.id))=true->Far d t day):namedB d f day l=namedB t f day l:=by
 unfold namedB;cases e:l.any fun n=>decide (n=f.id) with
 | false=>rw[Bool.and_false,Bool.and_false]
 | true=>rw[le_far h (hf e)]
theorem Quiet.gone1 (h:Quiet r f d t):gone1 r f d=gone1 r f t:=any_congr' fun c hc=>namedB_far h.le (h.crs c hc)
theorem Quiet.gone2 (h:Quiet r f d t):gone2 r f d=gone2 r f t:=any_congr' fun c hc=>namedB_far h.le fun e=>h.dps c hc (by simpa using e)
theorem Quiet.sel (h:Quiet r f d t):selB r f d=selB r f t:=any_congr' fun c hc=>namedB_far h.le (h.sls c hc)
theorem lookO_mem {l:List Ofc} {n:Int} {o:Ofc} (h:lookO l n=some o):o∈l:=List.mem_of_find?_eq_some h
theorem Quiet.chainF (h:Quiet r f d t):∀(n:Nat) (o:Ofc),o∈r.ofs->chainF r.ofs d n o=chainF r.ofs t n o
 | 0,o,_=>rfl
 | n+1,o,ho=>by
  have he:nextO r.ofs d o=nextO r.ofs t o:=by
   unfold nextO;rw[inS_far h.le (h.ofs o ho).1 (h.ofs o ho).2]
  unfold Arc.chainF;rw[he];cases e:nextO r.ofs t o with
  | none=>rfl
  | some q=>
   have hq:q∈r.ofs:=by
    unfold nextO at e;split at e
    ·cases e
    ·split at e
     ·cases e
     ·exact lookO_mem e
   simp only;rw[h.chainF n q hq]
theorem Quiet.chain (h:Quiet r f d t) (n:Int):chain r.ofs n d=chain r.ofs n t:=by
 unfold Arc.chain;split
 ·rfl
 ·cases e:lookO r.ofs n with
  | none=>rfl
  | some o=>exact h.chainF _ o (lookO_mem e)
theorem Quiet.hold (h:Quiet r f d t):holding r.ofs r.pls r.hls f d=holding r.ofs r.pls r.hls f t:=by
 unfold holding;rw[filter_congr' fun x hx=> ?_];unfold covers kindB;rw[inS_far h.le (h.hls x hx).1 (h.hls x hx).2,h.chain,h.cls]
def kdB (s:Int) (g1 g2 e:Bool) (k w late hd m:Bool):Int:=
 if s=0 then 0 else if g1=true then 1 else if g2=true then 2 else if e=true then 0 else if s=1 then 3 else if k=true then 4 else if w=true then 5 else if late=true then 6 else if hd=true then 7 else if m=true then 9 else 8
def dueL (r:Rgs) (f:Fil) (d:Int):Int:=(lateF f d (rulesF r f d) (-1,0)).1
theorem vdt_kd (r:Rgs) (f:Fil) (d:Int):(vdt r f d).kind=kdB (Arc.state f d) (Arc.gone1 r f d) (Arc.gone2 r f d) (decide (rulesF r f d=[])) ((rulesF r f d).find? keepB).isSome ((rulesF r f d).find? (waitB f d)).isSome (decide (d<=dueL r f d)) (decide (holding r.ofs r.pls r.hls f d≠[])) ((rulesF r f d).any moveB || selB r f d):=by
 unfold vdt kdB dueL;simp only[decide_eq_true_eq,Bool.or_eq_true];split
 ·rfl
 split
 ·rfl
 split
 ·rfl
 split
 ·rfl
 split
 ·rfl
 cases (rulesF r f d).find? keepB with
 | some q=>rfl
 | none=>
  cases (rulesF r f d).find? (waitB f d) with
  | some q=>rfl
  | none=>
   simp only[Option.isSome_none,Bool.false_eq_true,if_false];split
   ·rfl
   split
   ·rfl
   split <;> rfl
theorem vdt_due (h:(vdt r f d).kind=6):(vdt r f d).due=dueL r f d/\d<=dueL r f d:=by
 unfold vdt at h ⊢;unfold dueL;simp only at h ⊢;split at h
 ·cases h
 rename_i h1;rw[if_neg h1];split at h
 ·cases h
 rename_i h1;rw[if_neg h1];split at h
 ·cases h
 rename_i h1;rw[if_neg h1];split at h
 ·cases h
 rename_i h1;rw[if_neg h1];split at h
 ·cases h
 rename_i h1;rw[if_neg h1];cases e:(rulesF r f d).find? keepB with
 | some q=>rw[e] at h; cases h
 | none=>
  rw[e] at h;simp only at h ⊢;cases e:(rulesF r f d).find? (waitB f d) with
  | some q=>rw[e] at h; cases h
  | none=>
   rw[e] at h;simp only at h ⊢;split at h
   ·rename_i h1;rw[if_pos h1];exact ⟨rfl,h1⟩
   split at h
   ·cases h
   split at h <;> cases h
theorem kdB_late (s:Int) (g1 g2 e k w hd m:Bool):kdB s g1 g2 e k w true hd m=6\/∀b,kdB s g1 g2 e k w b hd m=kdB s g1 g2 e k w true hd m:=by
 unfold kdB;by_cases a:s=0
 ·right; intro b; rw[if_pos a,if_pos a]
 rw[if_neg a];simp only[if_neg a];cases g1
 ·cases g2
  ·cases e
   ·by_cases c:s=1
    ·right; intro b; simp[c]
    ·cases k
     ·cases w
      ·left; simp[c]
      ·right; intro b; rfl
     ·right; intro b; rfl
   ·right; intro b; rfl
  ·right; intro b; rfl
 ·right; intro b; rfl
theorem Quiet.kind (h:Quiet r f d t) (b:Bool):kdB (Arc.state f d) (Arc.gone1 r f d) (Arc.gone2 r f d) (decide (rulesF r f d=[])) ((rulesF r f d).find? keepB).isSome ((rulesF r f d).find? (waitB f d)).isSome b (decide (holding r.ofs r.pls r.hls f d≠[])) ((rulesF r f d).any moveB || selB r f d)=
  kdB (Arc.state f t) (Arc.gone1 r f t) (Arc.gone2 r f t) (decide (rulesF r f t=[])) ((rulesF r f t).find? keepB).isSome ((rulesF r f t).find? (waitB f t)).isSome b (decide (holding r.ofs r.pls r.hls f t≠[])) ((rulesF r f t).any moveB || selB r f t):=by
 have hw:waitB f d=waitB f t:=by funext q; unfold waitB; rw[h.trig]
 rw[h.state,h.gone1,h.gone2,h.rules,h.hold,h.sel,hw]
theorem Quiet.due (h:Quiet r f d t):dueL r f d=dueL r f t:=by unfold dueL; rw[h.rules,h.late]
theorem Quiet.other (h:Quiet r f d t) (h6:(vdt r f d).kind≠6):(vdt r f t).kind=(vdt r f d).kind:=by
 rw[vdt_kd] at h6;rw[vdt_kd,vdt_kd,<- h.kind,<- h.due];have hle:=h.le;by_cases hd:d<=dueL r f d
 ·rw[decide_eq_true hd] at h6 ⊢;rcases kdB_late (Arc.state f d) (Arc.gone1 r f d) (Arc.gone2 r f d) (decide (rulesF r f d=[])) ((rulesF r f d).find? keepB).isSome ((rulesF r f d).find? (waitB f d)).isSome (decide (holding r.ofs r.pls r.hls f d≠[])) ((rulesF r f d).any moveB || selB r f d) with g | g
  ·exact absurd g h6
  ·exact g _
 ·rw[decide_eq_false hd,decide_eq_false (show ¬t<=dueL r f d by omega)]
theorem Quiet.keep (h:Quiet r f d t) (h6:(vdt r f d).kind=6) (ht:t<=(vdt r f d).due):(vdt r f t).kind=6:=by
 obtain ⟨h1,h2⟩:=vdt_due h6;rw[h1] at ht;rw[vdt_kd,decide_eq_true h2] at h6;rw[vdt_kd,<- h.kind,<- h.due,decide_eq_true ht];exact h6
end Go.Arc
namespace Go.Arc
open Go.Ab
def setG (ps:List (Int×Bool)) (l:List Int):List (Int×Bool):=l.foldl (fun ps x=>upG ps x true) ps
def keysG (ps:List (Int×Bool)):List Int:=ps.map (·.1)
theorem keys_up (x:Int) (b:Bool):∀ps,(∀y,y∈keysG (upG ps x b)↔y=x\/y∈keysG ps)/\((keysG ps).Nodup->(keysG (upG ps x b)).Nodup)
 | []=>⟨fun y=>by simp[keysG,upG],fun _=>by simp[keysG,upG]⟩
 | (g,c)::r=>by
  obtain ⟨h1,h2⟩:=keys_up x b r;unfold upG;by_cases h:x=g
  ·rw[if_pos h];subst h;exact ⟨fun y=>by simp[keysG],fun hn=>hn⟩
  ·rw[if_neg h];refine ⟨fun y=> ?_,fun hn=> ?_⟩
   ·have:=h1 y;simp only[keysG,List.map_cons,List.mem_cons] at this ⊢;rw[this];constructor
    ·rintro (a | a | a)
     ·exact .inr (.inl a)
     ·exact .inl a
     ·exact .inr (.inr a)
    ·rintro (a | a | a)
     ·exact .inr (.inl a)
     ·exact .inl a
     ·exact .inr (.inr a)
   ·simp only[keysG,List.map_cons,List.nodup_cons] at hn ⊢;refine ⟨fun hc=> ?_,h2 hn.2⟩;rcases (h1 g).1 hc with e | e
    ·exact h e.symm
    ·exact hn.1 e
end Go.Arc
namespace Go.Arc
open Go.Ab
theorem fstE_nil {x:Int} {l:List Int} (h:fstE (x::l)=0):x=0/\fstE l=0:=by
 unfold fstE at h;by_cases hx:x≠0
 ·rw[if_pos hx] at h; exact absurd h hx
 ·rw[if_neg hx] at h; exact ⟨by omega,h⟩
structure OkG (r:Rgs):Prop where
 ofs:(checkO r.ofs).2=0
 pls:(check r.pls).2=0
 fls:(checkF r.ofs r.pls r.fls).2=0
 rls:(checkR r.rls).2=0
 hls:(checkH r.hls).2=0
 sls:listE r.fls [] (selE r)=0
 crs:listE r.fls (selE r) (crtE r)=0
 dps:listE r.fls (selE r++crtE r) (depE r)=0
theorem okG_of {r:Rgs} (h:checkG r=0):OkG r:=by
 unfold checkG at h;obtain ⟨h1,h⟩:=fstE_nil h;obtain ⟨h2,h⟩:=fstE_nil h;obtain ⟨h3,h⟩:=fstE_nil h;obtain ⟨h4,h⟩:=fstE_nil h;obtain ⟨h5,h⟩:=fstE_nil h;obtain ⟨h6,h⟩:=fstE_nil h;obtain ⟨h7,h⟩:=fstE_nil h;obtain ⟨h8,h⟩:=fstE_nil h;exact ⟨h1,h2,h3,h4,h5,h6,h7,h8⟩
theorem OkG.zero {r:Rgs} (h:OkG r):checkG r=0:=by
 unfold checkG;rw[h.ofs,h.pls,h.fls,h.rls,h.hls,h.sls,h.crs,h.dps];rfl
theorem OkG.goodR {r:Rgs} (h:OkG r):goodR r.rls=true:=by unfold Arc.goodR; rw[h.rls]; rfl
theorem OkG.goodL {r:Rgs} (h:OkG r):goodL r.pls=true:=by unfold Arc.goodL; rw[h.pls]; rfl
theorem OkG.goodO {r:Rgs} (h:OkG r):goodO r.ofs=true:=by unfold Arc.goodO; rw[h.ofs]; rfl
theorem elsE_all {fs:List Fil} : ∀(l pre:List Elm) (last:Option Elm),elsE fs pre last l=0->∀(i:Nat) x,l[i]? = some x->∃q,elmE fs (pre++l.take i) q x=0
 | [],_,_,_,i,x,hx=>by simp at hx
 | y::r,pre,last,h,0,x,hx=>by
  simp only[List.getElem?_cons_zero,Option.some.injEq] at hx;subst hx;unfold elsE at h;by_cases h0:elmE fs pre last y≠0
  ·rw[if_pos h0] at h; exact absurd h h0
  ·exact ⟨last,by rw[List.take_zero,List.append_nil]; omega⟩
 | y::r,pre,last,h,i+1,x,hx=>by
  unfold elsE at h;by_cases h0:elmE fs pre last y≠0
  ·rw[if_pos h0] at h; exact absurd h h0
  ·rw[if_neg h0] at h;obtain ⟨q,hq⟩:=elsE_all r (pre++[y]) (some y) h i x (by simpa using hx);exact ⟨q,by rw[List.take_succ_cons,List.append_cons]; exact hq⟩
theorem ite_z {c:Prop} [Decidable c] {a b:Int} (ha:a≠0) (hb:b≠0):(if c then a else b)≠0:=by split <;> assumption
theorem elmE_gone {fs:List Fil} {pre:List Elm} {q:Option Elm} {x:Elm} (h:elmE fs pre q x=0) (hg:x.gone=true) {n:Int} (hn:n∈x.fls):goneB pre n=false:=by
 cases e:goneB pre n
 ·rfl
 ·exfalso;have h6:x.gone=true/\x.fls.any (goneB pre)=true:=⟨hg,List.any_eq_true.2 ⟨n,hn,e⟩⟩;unfold elmE at h;rw[if_pos h6] at h;exact ite_z (by decide) (ite_z (by decide) (ite_z (by decide) (by decide))) h
theorem goneB_mem {l:List Elm} {x:Elm} {n:Int} (hx:x∈l) (hg:x.gone=true) (hn:n∈x.fls):goneB l n=true:=by
 unfold goneB;rw[List.any_eq_true];exact ⟨x,hx,by rw[hg,Bool.true_and,List.any_eq_true]; exact ⟨n,hn,decide_eq_true rfl⟩⟩
theorem listE_els {fs:List Fil} {pre l:List Elm} (h:listE fs pre l=0):elsE fs pre none l=0:=by
 unfold listE at h;split at h
 ·cases h
 ·exact h
theorem mem_take {α:Type} {l:List α} {i j:Nat} {x:α} (hx:l[i]? = some x) (h:i<j):x∈l.take j:=List.mem_iff_getElem?.2 ⟨i,by rw[List.getElem?_take,if_pos h]; exact hx⟩
theorem OkG.crt1 {r:Rgs} (h:OkG r) {i j:Nat} {x y:Crt} {n:Int} (hx:r.crs[i]? = some x) (hy:r.crs[j]? = some y) (hn:n∈x.fls) (hm:n∈y.fls):i=j:=by
 have key:∀ {i j:Nat} {x y:Crt},r.crs[i]? = some x->r.crs[j]? = some y->n∈x.fls->n∈y.fls->¬i<j:=fun {i j x y} hx hy hn hm hij=>by
  have hy':(crtE r)[j]? = some y.el:=by unfold crtE; rw[List.getElem?_map,hy]; rfl
  have hx':(crtE r)[i]? = some x.el:=by unfold crtE; rw[List.getElem?_map,hx]; rfl
  obtain ⟨q,hq⟩:=elsE_all _ _ _ (listE_els h.crs) j _ hy';have h1:=elmE_gone hq rfl hm;have hm2:x.el∈selE r++(crtE r).take j:=List.mem_append_right _ (mem_take hx' hij);rw[goneB_mem hm2 rfl hn] at h1;cases h1
 have:=key hx hy hn hm;have:=key hy hx hm hn;omega
theorem OkG.crt_dep {r:Rgs} (h:OkG r) {x:Crt} {y:Dep} (hx:x∈r.crs) (hy:y∈r.dps) (hn:y.fil∈x.fls):False:=by
 obtain ⟨j,hj⟩:=List.getElem?_of_mem hy;have hy':(depE r)[j]? = some y.el:=by unfold depE; rw[List.getElem?_map,hj]; rfl
 obtain ⟨q,hq⟩:=elsE_all _ _ _ (listE_els h.dps) j _ hy';have h1:=elmE_gone hq rfl (n:=y.fil) (List.mem_singleton.2 rfl);have hm2:x.el∈selE r++crtE r++(depE r).take j:=List.mem_append_left _ (List.mem_append_right _ (by unfold crtE; exact List.mem_map.2 ⟨x,hx,rfl⟩));rw[goneB_mem hm2 rfl hn] at h1;cases h1
theorem OkG.dep1 {r:Rgs} (h:OkG r) {i j:Nat} {x y:Dep} (hx:r.dps[i]? = some x) (hy:r.dps[j]? = some y) (hn:x.fil=y.fil):i=j:=by
 have key:∀ {i j:Nat} {x y:Dep},r.dps[i]? = some x->r.dps[j]? = some y->x.fil=y.fil->¬i<j:=fun {i j x y} hx hy hn hij=>by
  have hy':(depE r)[j]? = some y.el:=by unfold depE; rw[List.getElem?_map,hy]; rfl
  have hx':(depE r)[i]? = some x.el:=by unfold depE; rw[List.getElem?_map,hx]; rfl
  obtain ⟨q,hq⟩:=elsE_all _ _ _ (listE_els h.dps) j _ hy';have h1:=elmE_gone hq rfl (n:=y.fil) (List.mem_singleton.2 rfl);have hm2:x.el∈selE r++crtE r++(depE r).take j:=List.mem_append_right _ (mem_take hx' hij);rw[goneB_mem hm2 rfl (List.mem_singleton.2 hn.symm)] at h1;cases h1
 have:=key hx hy hn;have:=key hy hx hn.symm;omega
def hasI (n:Int) (l:List Int):Bool:=l.any fun f=>decide (f=n)
theorem hasI_mem {n:Int} {l:List Int} : hasI n l=true↔n∈l:=by
 unfold hasI;rw[List.any_eq_true];constructor
 ·rintro ⟨x,hx,h⟩;have:=of_decide_eq_true h;subst this;exact hx
 ·intro h;exact ⟨n,h,decide_eq_true rfl⟩
def goneR (r:Rgs) (n:Int) (c d:Nat):Int×Int:=match (r.crs.take c).find? fun x=>hasI n x.fls with
 | some x=>(x.day,1)
 | none=>match (r.dps.take d).find? fun x=>decide (x.fil=n) with
  | some x=>(x.day,2)
  | none=>(0,0)
theorem OkG.gone {r:Rgs} (h:OkG r) (f:Fil):(∃t,goneR r f.id r.crs.length r.dps.length=(t,1)/\∀d,gone1 r f d=decide (t<=d)/\gone2 r f d=false)\/
  (∃t,goneR r f.id r.crs.length r.dps.length=(t,2)/\∀d,gone1 r f d=false/\gone2 r f d=decide (t<=d))\/
  (goneR r f.id r.crs.length r.dps.length=(0,0)/\∀d,gone1 r f d=false/\gone2 r f d=false):=by
 have g1:∀d,gone1 r f d=r.crs.any fun c=>decide (c.day<=d) && hasI f.id c.fls:=fun d=>rfl
 have g2:∀d,gone2 r f d=r.dps.any fun c=>decide (c.day<=d) && decide (c.fil=f.id):=fun d=>by
  unfold gone2 namedB;congr 1
  funext c
  simp
 unfold goneR;rw[List.take_length,List.take_length];cases e:r.crs.find? fun x=>hasI f.id x.fls with
 | some x=>
  left;have hx:=List.mem_of_find?_eq_some e;have hn:f.id∈x.fls:=hasI_mem.1 (List.find?_some (p:=fun x:Crt=>hasI f.id x.fls) e);refine ⟨x.day,rfl,fun d=>⟨?_,?_⟩⟩
  ·rw[g1];obtain ⟨i,hi⟩:=List.getElem?_of_mem hx;by_cases hd:x.day<=d
   ·rw[decide_eq_true hd,List.any_eq_true];exact ⟨x,hx,by rw[decide_eq_true hd,hasI_mem.2 hn]; rfl⟩
   ·rw[decide_eq_false hd,List.any_eq_false];intro y hy;obtain ⟨j,hj⟩:=List.getElem?_of_mem hy;by_cases hm:f.id∈y.fls
    ·have:=h.crt1 hi hj hn hm;subst this;rw[hi] at hj;cases hj;rw[decide_eq_false hd];simp
    ·have:hasI f.id y.fls=false:=by
      cases e2:hasI f.id y.fls
      ·rfl
      ·exact absurd (hasI_mem.1 e2) hm
     rw[this,Bool.and_false];simp
  ·rw[g2,List.any_eq_false];intro y hy;by_cases hm:y.fil=f.id
   ·exact absurd (h.crt_dep hx hy (by rw[hm]; exact hn)) id
   ·rw[decide_eq_false hm,Bool.and_false];simp
 | none=>
  right
  have hno:∀d,gone1 r f d=false:=fun d=>by
   rw[g1,List.any_eq_false];intro y hy;have:=List.find?_eq_none.1 e y hy
   have h2:hasI f.id y.fls=false:=by
    cases e2:hasI f.id y.fls
    ·rfl
    ·exact absurd e2 this
   rw[h2,Bool.and_false];simp
  cases e3:r.dps.find? fun x=>decide (x.fil=f.id) with
  | some x=>
   left;have hx:=List.mem_of_find?_eq_some e3;have hn:x.fil=f.id:=of_decide_eq_true (List.find?_some (p:=fun x:Dep=>decide (x.fil=f.id)) e3);refine ⟨x.day,rfl,fun d=>⟨hno d,?_⟩⟩;rw[g2];obtain ⟨i,hi⟩:=List.getElem?_of_mem hx;by_cases hd:x.day<=d
   ·rw[decide_eq_true hd,List.any_eq_true];exact ⟨x,hx,by rw[decide_eq_true hd,decide_eq_true hn]; rfl⟩
   ·rw[decide_eq_false hd,List.any_eq_false];intro y hy;obtain ⟨j,hj⟩:=List.getElem?_of_mem hy;by_cases hm:y.fil=f.id
    ·have:=h.dep1 hi hj (hn.trans hm.symm);subst this;rw[hi] at hj;cases hj;rw[decide_eq_false hd];simp
    ·rw[decide_eq_false hm,Bool.and_false];simp
  | none=>
   right;refine ⟨rfl,fun d=>⟨hno d,?_⟩⟩;rw[g2,List.any_eq_false];intro y hy;have:=List.find?_eq_none.1 e3 y hy
   have h2:decide (y.fil=f.id)=false:=by
    cases e2:decide (y.fil=f.id)
    ·rfl
    ·exact absurd e2 this
   rw[h2,Bool.and_false];simp
theorem OkG.rule {r:Rgs} (h:OkG r) {q:Rul} (hq:q∈r.rls):Arc.goodR [q]=true/\1<=q.id/\q.id<=1073741824/\0<=q.yrs/\q.yrs<=200/\1<=q.act/\q.act<=3:=by
 obtain ⟨i,hi⟩:=List.getElem?_of_mem hq;have hlt:=(List.getElem?_eq_some_iff.1 hi).1;have h0:=(chk_zero h.rls).2 i hlt;unfold faultR at h0;rw[hi] at h0;simp only at h0;by_cases hb:badR q
 ·rw[if_pos hb] at h0; cases h0
 rw[if_neg hb] at h0;by_cases hp:prevR r.rls i q=true
 ·rw[if_pos hp] at h0; cases h0
 rw[if_neg hp] at h0
 have hgood:Arc.goodR [q]=true:=by
  unfold Arc.goodR checkR;rw[chk_ok (by simp) fun j hj=> ?_]
  ·rfl
  ·have hj0:j=0:=by simp at hj; omega
   subst hj0
   show (if badR q then (2:Int) else if prevR [q] 0 q=true then 5 else restR q)=0
   rw[if_neg hb,if_neg (show ¬prevR [q] 0 q=true from fun e=>by cases e)];exact h0
 unfold badR idB at hb;simp only[decide_eq_false_iff_not] at hb;refine ⟨hgood,?_⟩;omega
theorem OkG.file {r:Rgs} (h:OkG r) {f:Fil} (hf:f∈r.fls):0<=f.opn/\f.opn<=1048575/\f.opn<=f.cld/\f.cld<=1048576/\1<=f.id/\∀n∈f.nts,goodD n.fst n.lst=true/\f.opn<=n.rcd/\n.rcd<=1048575:=by
 obtain ⟨i,hi⟩:=List.getElem?_of_mem hf;have hlt:=(List.getElem?_eq_some_iff.1 hi).1;have hz:=h.fls;unfold checkF at hz;split at hz
 ·cases hz
 have h0:=(chk_zero hz).2 i hlt;obtain ⟨hb,-,-,-,-,hn⟩:=faultF_zero hi h0;obtain ⟨-,-,hr,-⟩:=notesErr_zero hn;unfold badF dayB at hb;simp only[decide_eq_false_iff_not,not_or] at hb;refine ⟨by omega,by omega,by omega,by omega,by omega,fun n hn=> ?_⟩;have:=List.any_eq_false.1 hr n hn;unfold rightN dayB at this;simp only[Bool.not_eq_true',Bool.not_eq_false,Bool.and_eq_true,decide_eq_true_eq] at this;exact ⟨this.1,this.2.1,this.2.2⟩
theorem datB_goodD' (a b:Int):datB a b=goodD a b:=by
 unfold datB goodD;by_cases h1:0<=a <;> by_cases h2:a<=b <;> by_cases h3:b<=1048575 <;> simp[h1,h2,h3]
theorem OkG.dat {r:Rgs} (h:OkG r) {f:Fil} (hf:f∈r.fls) {s:Str} {d a b:Int} (hd:d<=1048575) (ht:trig f s d=some (a,b)):datB a b=true:=by
 obtain ⟨h1,h2,h3,h4,-,h5⟩:=h.file hf;unfold trig onD at ht;split at ht
 ·split at ht
  ·cases ht
  ·cases ht;unfold datB;rw[decide_eq_true (by omega),decide_eq_true (by omega),decide_eq_true (by omega)];rfl
 split at ht
 ·split at ht
  ·cases ht
  ·cases ht;unfold datB;rw[decide_eq_true (by omega),decide_eq_true (by omega),decide_eq_true (by omega)];rfl
 ·obtain ⟨m,hm,he⟩:=Option.map_eq_some_iff.1 ht;have hmem:m∈own f s d:=(bestN_mem hm).resolve_left (by simp);unfold own known at hmem;have hmn:=(List.mem_filter.1 (List.mem_filter.1 hmem).1).1;cases he;rw[datB_goodD'];exact (h5 m hmn).1
theorem OkG.due {r:Rgs} (h:OkG r) {f:Fil} (hf:f∈r.fls) {q:Rul} (hq:q∈r.rls) {d a b:Int} (hd:d<=1048575) (ht:trig f q.trg d=some (a,b)):∃t,dueR q a b=some t/\dueF f d q=some t/\0<=t:=by
 have h1:=(h.rule hq).1;have h2:=h.dat hf hd ht;refine ⟨((if q.yend=true then yearEndN (yearsN b.toNat q.yrs.toNat) else yearsN b.toNat q.yrs.toNat:Nat):Int),?_,?_,by omega⟩
 ·unfold dueR;rw[if_pos ⟨h1,h2⟩]
 ·rw[dueF_yes ht];unfold dueR;rw[if_pos ⟨h1,h2⟩]
def accT (f:Fil) (d:Int) (l:List Rul) (k:Nat):Int×Int:=if k=0 then (0,0) else (lateF f d (l.take k) (-1,0))
theorem late_pos {f:Fil} {d:Int} {l:List Rul} (hid:∀q∈l,1<=q.id) (hall:∀q∈l,∃t,dueF f d q=some t/\0<=t):∀k,0<k->k<=l.length->0<=(lateF f d (l.take k) (-1,0)).1/\1<=(lateF f d (l.take k) (-1,0)).2
 | 0,h,_=>absurd h (Nat.lt_irrefl 0)
 | k+1,_,hk=>by
  obtain ⟨q,hq,-,hm⟩:=drop_at (l:=l) (k:=k) (by omega);obtain ⟨t,ht,h0⟩:=hall q hm;have h1:=hid q hm;rw[lateF_snoc f d (-1,0) hq];by_cases hk0:k=0
  ·subst hk0;have hlt:(lateF f d (l.take 0) (-1,0)).1<t:=by show (-1:Int)<t; omega
   rw[stepL_lt ht hlt];exact ⟨h0,h1⟩
  ·have ih:=late_pos hid hall k (by omega) (by omega);by_cases hlt:(lateF f d (l.take k) (-1,0)).1<t
   ·rw[stepL_lt ht hlt];exact ⟨h0,h1⟩
   ·rw[stepL_ge ht hlt];exact ih
theorem accT_step {f:Fil} {d:Int} {l:List Rul} {k:Nat} {q:Rul} {t:Int} (hid:∀q∈l,1<=q.id) (hall:∀q∈l.take k,∃t,dueF f d q=some t/\0<=t) (hq:l[k]? = some q) (ht:dueF f d q=some t) (h0:0<=t):
  ((accT f d l k).2=0/\accT f d l (k+1)=(t,q.id))\/((accT f d l k).2≠0/\(accT f d l k).1<t/\accT f d l (k+1)=(t,q.id))\/((accT f d l k).2≠0/\¬(accT f d l k).1<t/\accT f d l (k+1)=accT f d l k):=by
 have hs:accT f d l (k+1)=stepL f d (lateF f d (l.take k) (-1,0)) q:=by
  unfold accT;rw[if_neg (Nat.succ_ne_zero k)];exact lateF_snoc f d (-1,0) hq
 rw[hs];by_cases hk0:k=0
 ·left;subst hk0;refine ⟨rfl,stepL_lt ht ?_⟩
  show (-1:Int)<t
  omega
 ·right;have hlt:=(List.getElem?_eq_some_iff.1 hq).1;have hp:=late_pos (f:=f) (d:=d) (l:=l.take k) (fun q h=>hid q (List.mem_of_mem_take h)) hall k (by omega) (by rw[List.length_take]; omega);rw[List.take_take,Nat.min_self] at hp;have ha:accT f d l k=lateF f d (l.take k) (-1,0):=by unfold accT; rw[if_neg hk0]
  rw[ha];by_cases hl:(lateF f d (l.take k) (-1,0)).1<t
  ·exact .inl ⟨by omega,hl,stepL_lt ht hl⟩
  ·exact .inr ⟨by omega,hl,stepL_ge ht hl⟩
end Go.Arc
namespace Go.Arc
open Go.Ab
structure Gat (ps:List (Int×Bool)) (S:List Int):Prop where
 mem:∀x,x∈keysG ps↔x∈S
 nd:(keysG ps).Nodup
 len:ps.length<=S.length
theorem upG_len (x:Int) (b:Bool):∀ps,(upG ps x b).length<=ps.length+1
 | []=>Nat.le_refl _
 | (g,c)::r=>by
  have:=upG_len x b r;unfold upG;split <;> simp only[List.length_cons] <;> omega
theorem Gat.up {ps:List (Int×Bool)} {S:List Int} (h:Gat ps S) (x:Int):Gat (upG ps x true) (S++[x]):=by
 obtain ⟨h1,h2⟩:=keys_up x true ps;refine ⟨fun y=> ?_,h2 h.nd,?_⟩
 ·rw[h1,h.mem,List.mem_append,List.mem_singleton];exact or_comm
 ·have:=upG_len x true ps;have:=h.len;rw[List.length_append,List.length_singleton];omega
theorem Gat.set {S:List Int} : ∀(L:List Int) {ps:List (Int×Bool)},Gat ps S->Gat (setG ps L) (S++L)
 | [],ps,h=>by rw[List.append_nil]; exact h
 | x::r,ps,h=>by
  have:=Gat.set r (h.up x);rw[List.append_assoc] at this;exact this
end Go.Arc
namespace Go.Arc
open Go.Ab
abbrev goneF (r:Rgs) (f:Fil):Int×Int:=goneR r f.id r.crs.length r.dps.length
variable {r : Rgs} {f : Fil} {d e a : Int}
theorem Runs.len {K:Int->Int} {b:Int} : ∀ {l:List Pce} {a:Int},Runs K b a l->a+l.length<=b
 | [],a,h=>by have:a=b:=h; simp; omega
 | p::l,a,h=>by
  have:=h.2.2.2.2.len;have:=h.2.1;simp only[List.length_cons];omega
end Go.Arc
namespace Go.Arc
open Go.Ab
structure Stp where
 kind:Int
 num:Int
 fst:Int
 lst:Int
 txt:Str
 deriving DecidableEq
abbrev Stp.cs (s:Stp):List V:=[vi s.kind,vi s.num,vi s.fst,vi s.lst,.str s.txt]
abbrev stps (l:List Stp):V:= .slice 5 (l.map Stp.cs)
def endS (v:Vdt):Stp:=⟨7,v.kind,v.rule,v.due,[]⟩
def openS (f:Fil):Stp:=⟨8,0,f.opn,f.cld,[]⟩
def clsS (r:Rgs) (f:Fil) (d:Int):Stp:=if (classR r.pls f d).2=0 then ⟨1,idx r.pls d+1,0,0,(classR r.pls f d).1⟩ else ⟨1,0,0,0,[]⟩
def ruleS (q:Rul):Stp:=⟨2,q.id,0,0,[]⟩
def trgS (q:Rul) (t:Int×Int):Stp:=⟨3,q.id,t.1,t.2,[]⟩
def dueS (q:Rul) (t:Int×Int):Stp:=⟨4,q.id,0,(match dueR q t.1 t.2 with | some z=>z | none=>0),[]⟩
def hldS (n:Int):Stp:=⟨6,n,0,0,[]⟩
def timS (f:Fil) (d:Int):List Rul->List Stp
 | []=>[]
 | q::l=>match trig f q.trg d with
  | some t=>trgS q t::dueS q t::timS f d l
  | none=>[]
def donS (r:Rgs) (f:Fil) (d:Int):Option Stp:=match r.crs.find? fun c=>namedB d f c.day c.fls with
 | some c=>some ⟨9,1,c.day,0,[]⟩
 | none=>match r.dps.find? fun c=>namedB d f c.day [c.fil] with
  | some c=>some ⟨9,2,c.day,0,[]⟩
  | none=>none
def selS (r:Rgs) (f:Fil) (d:Int):Option Stp:=match r.sls.find? fun s=>namedB d f s.day s.fls with
 | some s=>some ⟨5,s.smp,s.day,0,[]⟩
 | none=>none
def restS (r:Rgs) (f:Fil) (d:Int) (v:Vdt):List Stp:=
 (rulesF r f d).map ruleS++(if v.kind<5 then [] else timS f d (rulesF r f d)++v.hls.map hldS++(if 8<=v.kind then (selS r f d).toList else []))
def bodyS (r:Rgs) (f:Fil) (d:Int) (v:Vdt):List Stp:=
 if d<f.opn then [openS f] else match donS r f d with
  | some s=>[s]
  | none=>openS f::clsS r f d::restS r f d v
def explS (r:Rgs) (f:Fil) (d:Int):List Stp:=bodyS r f d (vdt r f d)++[endS (vdt r f d)]
end Go.Arc
namespace Go.Arc
open Go.Ab
theorem prevH_0 (l:List Hld) (h:Hld):prevH l 0 h=false:=by unfold prevH; rw[if_pos rfl]
theorem prevH_s {l:List Hld} {i:Nat} {h q:Hld} (h0:i≠0) (hq:l[i-1]? = some q):prevH l i h=decide (h.id<=q.id):=by unfold prevH; rw[if_neg h0,hq]
end Go.Arc
namespace Go.Arc
open Go.Ab
variable {r : Rgs} {f : Fil} {d : Int}
theorem find_uniq {α:Type} {p c:α->Bool} : ∀ {l:List α},(∀x∈l,∀y∈l,p x=true->p y=true->x=y)->(l.find? fun x=>c x && p x)=(l.find? p).filter c
 | [],_=>rfl
 | x::l,h=>by
  have ih:=find_uniq (l:=l) (p:=p) (c:=c) fun y hy z hz=>h y (.tail _ hy) z (.tail _ hz);rw[List.find?_cons,List.find?_cons];cases hp:p x with
  | false=>rw[Bool.and_false]; exact ih
  | true=>
   rw[Bool.and_true];cases hc:c x with
   | true=>exact (by rw[Option.filter,if_pos hc])
   | false=>
    rw[show (Option.some x).filter c=none by rw[Option.filter,if_neg (by rw[hc]; exact Bool.false_ne_true)]];refine List.find?_eq_none.2 fun y hy e=> ?_;have hy2:=(Bool.and_eq_true _ _▸e:c y=true/\p y=true);obtain rfl:=h x (.head _) y (.tail _ hy) hp hy2.2;rw[hc] at hy2;exact Bool.false_ne_true hy2.1
theorem mem_at {α:Type} {l:List α} {x:α} (h:x∈l):∃i:Nat,l[i]? = some x:=List.getElem?_of_mem h
def donG (g:Int×Int) (d:Int):Option Stp:=if g.2≠0/\g.1<=d then some ⟨9,g.2,g.1,0,[]⟩ else none
theorem don_eq (h:OkG r):donS r f d=donG (goneF r f) d:=by
 have h1:(r.crs.find? fun c=>namedB d f c.day c.fls)=(r.crs.find? fun x=>hasI f.id x.fls).filter fun c=>decide (c.day<=d):=
  find_uniq fun x hx y hy px py=>by
   obtain ⟨i,hi⟩:=mem_at hx;obtain ⟨j,hj⟩:=mem_at hy;obtain rfl:=h.crt1 hi hj (hasI_mem.1 px) (hasI_mem.1 py);exact Option.some.inj (hi.symm.trans hj)
 have h2:(r.dps.find? fun c=>namedB d f c.day [c.fil])=(r.dps.find? fun x=>decide (x.fil=f.id)).filter fun c=>decide (c.day<=d):=by
  refine (congrArg (fun p=>r.dps.find? p) (funext fun c=> ?_)).trans (find_uniq (p:=fun x:Dep=>decide (x.fil=f.id)) (c:=fun c:Dep=>decide (c.day<=d)) fun x hx y hy px py=> ?_)
  ·unfold namedB;simp
  ·obtain ⟨i,hi⟩:=mem_at hx;obtain ⟨j,hj⟩:=mem_at hy;obtain rfl:=h.dep1 hi hj ((of_decide_eq_true px).trans (of_decide_eq_true py).symm);exact Option.some.inj (hi.symm.trans hj)
 unfold donS;rw[h1,h2];unfold goneF goneR donG;rw[List.take_length,List.take_length];cases e1:r.crs.find? fun x=>hasI f.id x.fls with
 | some x=>
  have e2:(r.dps.find? fun x=>decide (x.fil=f.id))=none:=List.find?_eq_none.2 fun y hy hd=>
   h.crt_dep (List.mem_of_find?_eq_some e1) hy (by rw[of_decide_eq_true hd]; exact hasI_mem.1 (List.find?_some (p:=fun x:Crt=>hasI f.id x.fls) e1))
  rw[e2];by_cases hx:x.day<=d
  ·simp[Option.filter,hx]
  ·simp[Option.filter,hx]
 | none=>
  cases e2:r.dps.find? fun x=>decide (x.fil=f.id) with
  | some x=>
   by_cases hx:x.day<=d
   ·simp[Option.filter,hx]
   ·simp[Option.filter,hx]
  | none=>rfl
theorem timS_app {l m:List Rul} (h:∀q∈l,waitB f d q=false):timS f d (l++m)=timS f d l++timS f d m:=by
 induction l with
 | nil=>rfl
 | cons q l ih=>
  have hq:=h q (.head _);unfold waitB at hq;rw[List.cons_append,timS,timS];cases e:trig f q.trg d with
  | none=>rw[e] at hq; exact absurd hq (by simp)
  | some t=>exact congrArg (fun x=>trgS q t::dueS q t::x) (ih fun x hx=>h x (.tail _ hx))
theorem timS_snoc {l:List Rul} {k:Nat} {q:Rul} {t:Int×Int} (hq:l[k]? = some q) (h:∀q∈l.take k,waitB f d q=false) (ht:trig f q.trg d=some t):timS f d (l.take (k+1))=timS f d (l.take k)++[trgS q t,dueS q t]:=by
 rw[List.take_add_one,hq];refine (timS_app h).trans ?_;simp only[Option.toList,timS,ht]
theorem timS_stop {l:List Rul} {k:Nat} {q:Rul} (hq:l[k]? = some q) (h:∀q∈l.take k,waitB f d q=false) (ht:trig f q.trg d=none):timS f d l=timS f d (l.take k):=by
 have hk:k<l.length:=(List.getElem?_eq_some_iff.1 hq).1
 have hd:l.drop k=q::l.drop (k+1):=by
  rw[List.drop_eq_getElem_cons hk];congr 1;exact (List.getElem?_eq_some_iff.1 hq).2
 conv=>lhs; rw[<- List.take_append_drop k l,hd]
 rw[timS_app h];simp only[timS,ht,List.append_nil]
theorem timS_len (l:List Rul):(timS f d l).length<=2*l.length:=by
 induction l with
 | nil=>exact Nat.le_refl _
 | cons q l ih=>
  rw[timS];cases trig f q.trg d with
  | none=>exact Nat.zero_le _
  | some t=>simp only[List.length_cons]; omega
theorem vdt_kind:(d<f.opn/\(vdt r f d).kind=0)\/(¬d<f.opn/\gone1 r f d=true/\(vdt r f d).kind=1)\/(¬d<f.opn/\gone1 r f d=false/\gone2 r f d=true/\(vdt r f d).kind=2)\/
  (¬d<f.opn/\gone1 r f d=false/\gone2 r f d=false/\((vdt r f d).kind=0\/(vdt r f d).kind=3\/(vdt r f d).kind=4\/
   ((vdt r f d).kind=5/\(vdt r f d).hls=[]/\∃q∈rulesF r f d,waitB f d q=true)\/
   ((∀q∈rulesF r f d,waitB f d q=false)/\((vdt r f d).kind=6\/(vdt r f d).kind=7\/(vdt r f d).kind=8\/(vdt r f d).kind=9)))):=by
 have hs:state f d=0↔d<f.opn:=by
  unfold Arc.state;by_cases h1:d<f.opn
  ·simp[h1]
  ·by_cases h2:d<f.cld <;> simp[h1,h2]
 by_cases h0:d<f.opn
 ·exact .inl ⟨h0,by simp only[vdt]; rw[if_pos (hs.2 h0)]⟩
 refine .inr ?_;have h0':¬state f d=0:=fun e=>h0 (hs.1 e);cases h1:gone1 r f d with
 | true=>exact .inl ⟨h0,rfl,by simp only[vdt]; rw[if_neg h0',if_pos h1]⟩
 | false=>
  refine .inr ?_;have h1':¬gone1 r f d=true:=by rw[h1]; exact Bool.false_ne_true
  cases h2:gone2 r f d with
  | true=>exact .inl ⟨h0,rfl,rfl,by simp only[vdt]; rw[if_neg h0',if_neg h1',if_pos h2]⟩
  | false=>
   refine .inr ⟨h0,rfl,rfl,?_⟩;have h2':¬gone2 r f d=true:=by rw[h2]; exact Bool.false_ne_true
   simp only[vdt];rw[if_neg h0',if_neg h1',if_neg h2'];by_cases h3:rulesF r f d=[]
   ·rw[if_pos h3]; exact .inl rfl
   rw[if_neg h3];by_cases h4:state f d=1
   ·rw[if_pos h4]; exact .inr (.inl rfl)
   rw[if_neg h4];cases h5:(rulesF r f d).find? keepB with
   | some q=>exact .inr (.inr (.inl rfl))
   | none=>
    cases h6:(rulesF r f d).find? (waitB f d) with
    | some q=>exact .inr (.inr (.inr (.inl ⟨rfl,rfl,q,List.mem_of_find?_eq_some h6,List.find?_some (p:=waitB f d) h6⟩)))
    | none=>
     refine .inr (.inr (.inr (.inr ⟨fun q hq=>eq_false_of_ne_true (List.find?_eq_none.1 h6 q hq),?_⟩)))
     dsimp only
     by_cases h7:d<=(lateF f d (rulesF r f d) (-1,0)).1
     ·rw[if_pos h7]; exact .inl rfl
     rw[if_neg h7];by_cases h8:holding r.ofs r.pls r.hls f d≠[]
     ·rw[if_pos h8]; exact .inr (.inl rfl)
     rw[if_neg h8];by_cases h9:(rulesF r f d).any moveB=true\/selB r f d=true
     ·rw[if_pos h9]; exact .inr (.inr (.inr rfl))
     ·rw[if_neg h9]; exact .inr (.inr (.inl rfl))
def refX (r:Rgs) (f:Fil) (d:Int) (v:Vdt):List Stp:=
 if d<f.opn then [openS f,endS v] else if v.kind=1\/v.kind=2 then [⟨9,(goneF r f).2,(goneF r f).1,0,[]⟩,endS v] else
 openS f::clsS r f d::((rulesF r f d).map ruleS++(if v.kind=0\/v.kind=3\/v.kind=4 then [endS v] else timS f d (rulesF r f d) ++
  (if (rulesF r f d).any (waitB f d)=true then [endS v] else v.hls.map hldS++((if v.kind=8\/v.kind=9 then (selS r f d).toList else [])++[endS v]))))
theorem refX_eq (h:OkG r):refX r f d (vdt r f d)=explS r f d:=by
 unfold refX explS bodyS;rw[don_eq h];rcases vdt_kind (r:=r) (f:=f) (d:=d) with ⟨h0,-⟩ | ⟨h0,h1,hk⟩ | ⟨h0,h1,h2,hk⟩ | ⟨h0,h1,h2,hk⟩
 ·rw[if_pos h0,if_pos h0]; rfl
 ·rw[if_neg h0,if_neg h0,if_pos (.inl hk)];rcases h.gone f with ⟨t,hg,ht⟩ | ⟨t,hg,ht⟩ | ⟨hg,ht⟩
  ·have h3:=(ht d).1;rw[h1] at h3;rw[show goneF r f=(t,1) from hg,donG,if_pos ⟨by simp,of_decide_eq_true h3.symm⟩]; rfl
  ·have h3:=(ht d).1; rw[h1] at h3; cases h3
  ·have h3:=(ht d).1; rw[h1] at h3; cases h3
 ·rw[if_neg h0,if_neg h0,if_pos (.inr hk)];rcases h.gone f with ⟨t,hg,ht⟩ | ⟨t,hg,ht⟩ | ⟨hg,ht⟩
  ·have h3:=(ht d).2; rw[h2] at h3; cases h3
  ·have h3:=(ht d).2;rw[h2] at h3;rw[show goneF r f=(t,2) from hg,donG,if_pos ⟨by simp,of_decide_eq_true h3.symm⟩]; rfl
  ·have h3:=(ht d).2; rw[h2] at h3; cases h3
 ·have hn:donG (goneF r f) d=none:=by
   unfold donG;refine if_neg fun ⟨e1,e2⟩=> ?_;rcases h.gone f with ⟨t,hg,ht⟩ | ⟨t,hg,ht⟩ | ⟨hg,ht⟩
   ·have h3:=(ht d).1;rw[show goneF r f=(t,1) from hg] at e2;rw[h1,decide_eq_true e2] at h3;cases h3
   ·have h3:=(ht d).2;rw[show goneF r f=(t,2) from hg] at e2;rw[h2,decide_eq_true e2] at h3;cases h3
   ·rw[show goneF r f=(0,0) from hg] at e1;exact e1 rfl
  have k1:¬((vdt r f d).kind=1\/(vdt r f d).kind=2):=by omega
  rw[if_neg h0,if_neg h0,hn,if_neg k1];unfold restS;rcases hk with hk | hk | hk | ⟨hk,hl,q,hq,hw⟩ | ⟨hw,hk⟩
  ·rw[hk]; simp
  ·rw[hk]; simp
  ·rw[hk]; simp
  ·rw[if_pos (List.any_eq_true.2 ⟨q,hq,hw⟩),hl,hk]; simp
  ·have h5:¬((rulesF r f d).any (waitB f d)=true):=fun e=>by
    obtain ⟨q,hq,hw'⟩:=List.any_eq_true.1 e;rw[hw q hq] at hw';cases hw'
   rw[if_neg h5];rcases hk with hk | hk | hk | hk <;> rw[hk] <;> simp
end Go.Arc
namespace Go.Arc
open Go.Ab
def xOpened:Str:=[111,112,101,110,101,100,32]
def xOpen:Str:=[44,32,111,112,101,110]
def xClosed:Str:=[44,32,99,108,111,115,101,100,32]
def xDestroyed:Str:=[100,101,115,116,114,111,121,101,100,32]
def xTransferred:Str:=[116,114,97,110,115,102,101,114,114,101,100,32]
def xNoClass:Str:=[110,111,32,99,108,97,115,115]
def xClass:Str:=[99,108,97,115,115,32]
def xVersion:Str:=[32,105,110,32,118,101,114,115,105,111,110,32]
def xRule:Str:=[114,117,108,101,32]
def xApplies:Str:=[32,97,112,112,108,105,101,115]
def xStarts:Str:=[32,115,116,97,114,116,115,32,102,114,111,109,32]
def xTo:Str:=[32,116,111,32]
def xIsDue:Str:=[32,105,115,32,100,117,101,32,97,102,116,101,114,32]
def xHold:Str:=[104,111,108,100,32]
def xSelected:Str:=[115,101,108,101,99,116,101,100,32,98,121,32,97,112,112,114,97,105,115,97,108,32]
def xOn:Str:=[32,111,110,32]
def xVerdict:Str:=[118,101,114,100,105,99,116,32]
def xByRule:Str:=[32,98,121,32,114,117,108,101,32]
def xDue:Str:=[44,32,100,117,101,32,97,102,116,101,114,32]
def wordsL:List Str:=[[110,111,110,101],[103,111,110,101],[109,111,118,101,100],[111,112,101,110],[102,111,114,32,101,118,101,114],[119,97,105,116],[107,101,101,112],[104,111,108,100],[100,101,115,116,114,111,121],[116,114,97,110,115,102,101,114]]
def wordS (k:Int):Str:=(wordsL[k.toNat]?).getD []
abbrev decS (n:Int):Str:=Lib.itoa n
def digN (n:Nat):Nat->Str
 | 0=>[]
 | k+1=>UInt8.ofNat (48+n / 10 ^ k % 10)::digN n k
theorem digN_len (n:Nat):∀k,(digN n k).length=k
  | 0=>rfl
  | k+1=>congrArg (· + 1) (digN_len n k)
def datT (d:Nat):Str:=digN ((date d).1+1600) 4++[45]++digN (date d).2.1 2++[45]++digN ((date d).2.2+1) 2
def dayR (d:Int):Str×Bool:=if 0<=d/\d<=1048575 then (datT d.toNat,true) else ([],false)
theorem datT_len (d:Nat):(datT d).length=10:=by
 unfold datT;simp only[List.length_append,digN_len,List.length_cons,List.length_nil]
theorem dayR_len (d:Int):(dayR d).1.length<=10:=by
 unfold dayR;split
 ·exact Nat.le_of_eq (datT_len _)
 ·exact Nat.zero_le _
theorem dayR_ok (d:Int):(dayR d).2=decide (0<=d/\d<=1048575):=by
 unfold dayR;split
 ·rename_i h; exact (decide_eq_true h).symm
 ·rename_i h; exact (decide_eq_false h).symm
def openR (s:Stp):Str×Bool:=if s.lst=1048576 then (xOpened++(dayR s.fst).1++xOpen,(dayR s.fst).2) else (xOpened++(dayR s.fst).1++xClosed++(dayR s.lst).1,(dayR s.fst).2 && (dayR s.lst).2)
def endR (s:Stp):Str×Bool:=
 if 9<s.num\/s.fst<0\/1073741824<s.fst\/(s.fst=0/\s.lst≠0) then ([],false) else if s.fst=0 then (xVerdict++wordS s.num,true) else
 if s.lst=0 then (xVerdict++wordS s.num++xByRule++decS s.fst,true) else (xVerdict++wordS s.num++xByRule++decS s.fst++xDue++(dayR s.lst).1,(dayR s.lst).2)
def lineR (s:Stp):Str×Bool:=
 if s.num<0\/1073741824<s.num\/(s.txt≠[]/\(s.kind≠1\/s.num=0)) then ([],false) else
 if s.kind=8 then openR s else
 if s.kind=9/\s.num=1 then (xDestroyed++(dayR s.fst).1,(dayR s.fst).2) else
 if s.kind=9/\s.num=2 then (xTransferred++(dayR s.fst).1,(dayR s.fst).2) else
 if s.kind=1/\s.num=0 then (xNoClass,true) else
 if s.kind=1 then (xClass++s.txt++xVersion++decS s.num,(parse s.txt).isSome) else
 if s.kind=2 then (xRule++decS s.num++xApplies,true) else
 if s.kind=3 then (xRule++decS s.num++xStarts++(dayR s.fst).1++xTo++(dayR s.lst).1,(dayR s.fst).2 && (dayR s.lst).2) else
 if s.kind=4 then (xRule++decS s.num++xIsDue++(dayR s.lst).1,(dayR s.lst).2) else
 if s.kind=6 then (xHold++decS s.num,true) else
 if s.kind=5 then (xSelected++decS s.num++xOn++(dayR s.fst).1,(dayR s.fst).2) else
 if s.kind=7 then endR s else ([],false)
def textR:List Stp->Str
 | []=>[]
 | s::l=>(lineR s).1++[10]++textR l
def formR (l:List Stp):Str×Int:=if 1024<l.length then ([],8) else if l.all (fun s=>(lineR s).2)=true then (textR l,0) else ([],1)
def datesS (s:Stp):List Int:=
 if s.kind=8 then (if s.lst=1048576 then [s.fst] else [s.fst,s.lst]) else if s.kind=9\/s.kind=5 then [s.fst] else
 if s.kind=3 then [s.fst,s.lst] else if s.kind=4\/s.kind=7 then [s.lst] else []
def insB (n most:Int):Bool:=decide (0<=n/\n<=most)
def clsdB (s:Stp):Bool:=decide (s.kind=1/\s.num≠0)
def rightS (s:Stp):Bool:=
 if s.kind<1\/9<s.kind\/insB s.num 1073741824=false then false else
 if s.kind=9/\(s.num<1\/2<s.num) then false else
 if s.kind=7/\(9<s.num\/insB s.fst 1073741824=false\/(s.fst=0/\s.lst≠0)) then false else
 if (clsdB s=true/\(parse s.txt).isSome=false)\/(clsdB s=false/\s.txt≠[]) then false else
 !(datesS s).any fun d=> !insB d 1048575
def partsS (s:Stp):List Str:=
 if s.kind=8/\s.lst=1048576 then [xOpened,(dayR s.fst).1,xOpen] else
 if s.kind=8 then [xOpened,(dayR s.fst).1,xClosed,(dayR s.lst).1] else
 if s.kind=9/\s.num=1 then [xDestroyed,(dayR s.fst).1] else
 if s.kind=9 then [xTransferred,(dayR s.fst).1] else
 if s.kind=1/\s.num=0 then [xNoClass] else
 if s.kind=1 then [xClass,s.txt,xVersion,decS s.num] else
 if s.kind=2 then [xRule,decS s.num,xApplies] else
 if s.kind=3 then [xRule,decS s.num,xStarts,(dayR s.fst).1,xTo,(dayR s.lst).1] else
 if s.kind=4 then [xRule,decS s.num,xIsDue,(dayR s.lst).1] else
 if s.kind=6 then [xHold,decS s.num] else
 if s.kind=5 then [xSelected,decS s.num,xOn,(dayR s.fst).1] else
 [xVerdict,wordS s.num]++(if s.fst≠0 then [xByRule,decS s.fst] else [])++(if s.lst≠0 then [xDue,(dayR s.lst).1] else [])
theorem ins_day (d:Int):insB d 1048575=(dayR d).2:=(dayR_ok d).symm
theorem ins_num (n m:Int):insB n m=false↔n<0\/m<n:=by
 unfold insB;rw[decide_eq_false_iff_not];omega
theorem right_eq (s:Stp):rightS s=(lineR s).2:=by
 obtain ⟨k,n,a,b,t⟩:=s;have hp:(parse ([]:Str)).isSome=false:=by decide
 unfold rightS lineR datesS clsdB openR endR;simp only[ins_num];by_cases hn:n<0\/1073741824<n
 ·have h1:k<1\/9<k\/n<0\/1073741824<n:= .inr (.inr hn);have h2:n<0\/1073741824<n\/(t≠[]/\(k≠1\/n=0)):=hn.elim .inl fun h=> .inr (.inl h);rw[if_pos h1,if_pos h2]
 have hn1:¬n<0:=fun h=>hn (.inl h);have hn2:¬ 1073741824<n:=fun h=>hn (.inr h);by_cases hk:k<1\/9<k
 ·have h1:k<1\/9<k\/n<0\/1073741824<n:=by omega
  rw[if_pos h1];by_cases ht:t=[]
  ·simp only[hn1,hn2,ht,ne_eq,not_true_eq_false,false_and,or_false,if_false];rw[if_neg (by omega),if_neg (by omega),if_neg (by omega),if_neg (by omega),if_neg (by omega),if_neg (by omega),if_neg (by omega),if_neg (by omega),if_neg (by omega),if_neg (by omega),if_neg (by omega)]
  ·rw[if_pos (.inr (.inr ⟨ht,.inl (by omega)⟩))]
 have h1:¬(k<1\/9<k\/n<0\/1073741824<n):=by omega
 rw[if_neg h1];simp only[hn1,hn2,false_or];by_cases ht:t=[]
 ·subst ht;have hc:k=1\/k=2\/k=3\/k=4\/k=5\/k=6\/k=7\/k=8\/k=9:=by omega
  rcases hc with rfl | rfl | rfl | rfl | rfl | rfl | rfl | rfl | rfl
  ·by_cases h0:n=0 <;> simp[h0,hp]
  ·simp
  ·simp[ins_day,Bool.not_or]
  ·simp[ins_day]
  ·simp[ins_day]
  ·simp
  ·by_cases h1:9<n\/a<0\/1073741824<a\/(a=0/\b≠0)
   ·have h2:9<n\/(a<0\/1073741824<a)\/(a=0/\b≠0):=by omega
    simp[h1,h2]
   ·have h2:¬(9<n\/(a<0\/1073741824<a)\/(a=0/\b≠0)):=by omega
    have h0:insB 0 1048575=true:=rfl;have g1:¬ 9<n:=fun h=>h1 (.inl h);have g2:¬a<0:=fun h=>h1 (.inr (.inl h));have g3:¬ 1073741824<a:=fun h=>h1 (.inr (.inr (.inl h)));by_cases ha:a=0
    ·have hb:b=0:=by omega
     subst ha hb;simp[g1,h0]
    ·by_cases hb:b=0
     ·subst hb; simp[g1,g2,g3,ha,h0]
     ·simp[g1,g2,g3,ha,hb,ins_day]
  ·by_cases hb:b=1048576 <;> simp[hb,ins_day,Bool.not_or]
  ·by_cases h1:n=1
   ·subst h1; simp[ins_day]
   ·by_cases h2:n=2
    ·subst h2; simp[ins_day]
    ·have:n<1\/2<n:=by omega
     simp[h1,h2,this]
 ·by_cases hc:k=1/\n≠0
  ·obtain ⟨rfl,h0⟩:=hc;cases hq:(parse t).isSome <;> simp[h0,hq]
  ·have h2:t≠[]/\(k≠1\/n=0):=⟨ht,by omega⟩;rw[if_pos h2];simp only[hc,decide_false,ht,ne_eq,not_false_eq_true,and_true,or_true,if_true,ite_self]
theorem decS_nn {n:Int} (h:¬n<0):decS n=Lib.decDigits n.toNat:=if_neg h
theorem parts_eq (s:Stp) (h:rightS s=true):(partsS s).flatten=(lineR s).1:=by
 have hr:=right_eq s;rw[h] at hr;obtain ⟨k,n,a,b,t⟩:=s;unfold lineR at hr;unfold partsS lineR;unfold openR endR at *
 dsimp only at hr ⊢
 by_cases c0:n<0\/1073741824<n\/(t≠[]/\(k≠1\/n=0))
 ·rw[if_pos c0] at hr; cases hr
 rw[if_neg c0] at hr ⊢;by_cases c8:k=8
 ·subst c8;by_cases hb:b=1048576 <;> simp[hb]
 by_cases c9:k=9
 ·subst c9;by_cases h1:n=1
  ·simp[h1]
  ·by_cases h2:n=2
   ·simp[h2]
   ·simp[h1,h2] at hr
 by_cases c1:k=1
 ·subst c1;by_cases h0:n=0 <;> simp[h0]
 by_cases c2:k=2
 ·subst c2; simp
 by_cases c3:k=3
 ·subst c3; simp
 by_cases c4:k=4
 ·subst c4; simp
 by_cases c6:k=6
 ·subst c6; simp
 by_cases c5:k=5
 ·subst c5; simp
 by_cases c7:k=7
 ·subst c7;by_cases h1:9<n\/a<0\/1073741824<a\/(a=0/\b≠0)
  ·simp only[h1,if_true] at hr;simp at hr
  ·have g1:¬ 9<n:=fun h=>h1 (.inl h);have g2:¬a<0:=fun h=>h1 (.inr (.inl h));have g3:¬ 1073741824<a:=fun h=>h1 (.inr (.inr (.inl h)));by_cases ha:a=0
   ·have hb:b=0:=by omega
    subst ha hb;simp[g1]
   ·by_cases hb:b=0
    ·subst hb; simp[g1,g2,g3,ha]
    ·simp[g1,g2,g3,ha,hb]
 ·simp[c8,c9,c1,c2,c3,c4,c6,c5,c7] at hr
end Go.Arc
namespace Go.Arc
open Go.Ab
theorem digN_one {n:Nat} (h:n<10):48::Lib.decDigits n=digN n 2:=by
 rw[Lib.decDigits,dif_pos h];simp only[digN,Nat.pow_zero,Nat.div_one,Nat.pow_one];rw[Nat.mod_eq_of_lt h,Nat.div_eq_of_lt h];rfl
theorem digN_two {n:Nat} (h1:10<=n) (h2:n<100):Lib.decDigits n=digN n 2:=by
 rw[Lib.decDigits_two (by omega) h2];simp only[digN,Nat.pow_zero,Nat.div_one,Nat.pow_one];rw[Nat.mod_eq_of_lt (show n / 10<10 by omega)]
theorem digN_four {n:Nat} (h1:1000<=n) (h2:n<10000):Lib.decDigits n=digN n 4:=by
 have e2:n / 10 / 10=n / 100:=Nat.div_div_eq_div_mul n 10 10;have e3:n / 10 / 10 / 10=n / 1000:=by rw[e2,Nat.div_div_eq_div_mul]
 rw[Lib.decDigits,dif_neg (by omega),Lib.decDigits,dif_neg (by omega),Lib.decDigits_two (by omega) (by omega),e3,e2];simp only[digN,Nat.pow_zero,Nat.div_one,Nat.pow_one,show 10 ^ 2=100 from rfl,show 10 ^ 3=1000 from rfl];rw[Nat.mod_eq_of_lt (show n / 1000<10 by omega)];rfl
theorem decN_len {n:Nat} (h:n<10000000000):(Lib.decDigits n).length<=10:=by
 rw[Lib.decDigits_length];refine Nat.le_of_not_lt fun hlt=> ?_
 have key:∀(k u:Nat),u<10 ^ (k+1)->Lib.nDigits u<=k+1:=by
  intro k
  induction k with
  | zero=>intro u hu; rw[Lib.nDigits_small (by simpa using hu)]; exact Nat.le_refl _
  | succ k ih=>
   intro u hu;by_cases h10:u<10
   ·rw[Lib.nDigits_small h10]; omega
   ·rw[Lib.nDigits_big h10];have:=ih (u / 10) (by rw[Nat.pow_succ] at hu; omega);omega
 exact absurd (key 9 n h) (by omega)
def diffN:List Stp->List Stp->Option Nat
  | [],[]=>none
  | a::l,b::x=>if a=b then (diffN l x).map (· + 1) else some 0
  | [],_::_=>some 0
  | _::_,[]=>some 0
def diffS (l x:List Stp):Int:=match diffN l x with
 | some i=>i
 | none=> -1
theorem diffN_same:∀l,diffN l l=none
 | []=>rfl
 | a::l=>by rw[diffN,if_pos rfl,diffN_same l]; rfl
theorem diffN_none:∀ {l x:List Stp},diffN l x=none->l=x
 | [],[],_=>rfl
 | a::l,b::x,h=>by
  rw[diffN] at h;by_cases e:a=b
  ·rw[if_pos e] at h;rw[e,diffN_none (Option.map_eq_none_iff.1 h)]
  ·rw[if_neg e] at h; cases h
 | [],_::_,h=>by cases h
 | _::_,[],h=>by cases h
theorem diffS_same (l:List Stp):diffS l l= -1:=by unfold diffS; rw[diffN_same]
theorem diffS_neg {l x:List Stp} : diffS l x<0↔l=x:=by
 unfold diffS;cases e:diffN l x with
 | none=>exact ⟨fun _=>diffN_none e,fun _=>by show (-1:Int)<0; decide⟩
 | some i=>
  refine ⟨fun h=>absurd h (by show ¬((i:Nat):Int)<0; omega),fun h=> ?_⟩;subst h;rw[diffN_same] at e;cases e
end Go.Arc
namespace Go.Arc
open Go.Ab
def NoCtl (s:Str):Prop:=∀c∈s,32<=c.toNat
theorem NoCtl.app {s t:Str} (h:NoCtl s) (g:NoCtl t):NoCtl (s++t):=fun c hc=>(List.mem_append.1 hc).elim (h c) (g c)
end Go.Arc
namespace Go.Arc
open Go.Ab
variable {r : Rgs} {f : Fil} {d : Int}
end Go.Arc
namespace Go.Arc
open Go.Ab
end Go.Arc
namespace Go.Arc
open Go.Ab
variable {r : Rgs} {f : Fil} {d : Int}
end Go.Arc
namespace Go.Arc
open Go.Ab
variable {r : Rgs} {f : Fil} {d : Int}
structure FactS (r:Rgs) (f:Fil) (d:Int) (s:Stp):Prop where
 opn:s.kind=8->s.fst=f.opn/\s.lst=f.cld
 cls:s.kind=1->s.txt=(classR r.pls f d).1/\((classR r.pls f d).2=0↔0<s.num)
 trg:s.kind=3->∃(i:Nat) (q:Rul),findR r.rls s.num=i/\r.rls[i]? = some q/\trig f q.trg d=some (s.fst,s.lst)
 due:s.kind=4->∃(i:Nat) (q:Rul) (t:Int×Int),findR r.rls s.num=i/\r.rls[i]? = some q/\trig f q.trg d=some t/\dueR q t.1 t.2=some s.lst
 sel:s.kind=5->∃c∈r.sls,c.smp=s.num/\c.day=s.fst/\namedB d f c.day c.fls=true
theorem vdt_nohold (hk:(vdt r f d).kind≠7):(vdt r f d).hls=[]:=by
 revert hk;simp only[vdt]
 repeat' split
 all_goals first | exact fun _=>rfl | exact fun hk=>absurd rfl hk
theorem vdt_hold7 (hk:(vdt r f d).kind=7):(vdt r f d).hls=holding r.ofs r.pls r.hls f d:=by
 revert hk;simp only[vdt]
 repeat' split
 all_goals first | exact fun _=>rfl | exact fun hk=>absurd hk (of_decide_eq_true rfl)
end Go.Arc
namespace Go.Arc
open Go.Ab
variable {r : Rgs} {f : Fil} {d : Int}
theorem don_yes (h:gone1 r f d=true\/gone2 r f d=true):∃s,donS r f d=some s/\s.kind=9:=by
 unfold donS;cases e1:r.crs.find? fun c=>namedB d f c.day c.fls with
 | some c=>exact ⟨_,rfl,rfl⟩
 | none=>
  cases e2:r.dps.find? fun c=>namedB d f c.day [c.fil] with
  | some c=>exact ⟨_,rfl,rfl⟩
  | none=>
   exfalso;rcases h with h | h
   ·obtain ⟨c,hc,hp⟩:=List.any_eq_true.1 h;exact List.find?_eq_none.1 e1 c hc hp
   ·obtain ⟨c,hc,hp⟩:=List.any_eq_true.1 h;exact List.find?_eq_none.1 e2 c hc hp
theorem don_no (h1:gone1 r f d=false) (h2:gone2 r f d=false):donS r f d=none:=by
 have e1:(r.crs.find? fun c=>namedB d f c.day c.fls)=none:=List.find?_eq_none.2 fun c hc hp=>by
  rw[show gone1 r f d=true from List.any_eq_true.2 ⟨c,hc,hp⟩] at h1; cases h1
 have e2:(r.dps.find? fun c=>namedB d f c.day [c.fil])=none:=List.find?_eq_none.2 fun c hc hp=>by
  rw[show gone2 r f d=true from List.any_eq_true.2 ⟨c,hc,hp⟩] at h2; cases h2
 unfold donS;rw[e1,e2]
theorem expl_cases:(d<f.opn/\(vdt r f d).kind=0/\explS r f d=[openS f,endS (vdt r f d)])\/
  (¬d<f.opn/\((vdt r f d).kind=1\/(vdt r f d).kind=2)/\∃s,donS r f d=some s/\s.kind=9/\explS r f d=[s,endS (vdt r f d)])\/
  (¬d<f.opn/\¬((vdt r f d).kind=1\/(vdt r f d).kind=2)/\donS r f d=none/\explS r f d=openS f::clsS r f d::(restS r f d (vdt r f d)++[endS (vdt r f d)])):=by
 unfold explS bodyS;rcases vdt_kind (r:=r) (f:=f) (d:=d) with ⟨h0,hk⟩ | ⟨h0,h1,hk⟩ | ⟨h0,h1,h2,hk⟩ | ⟨h0,h1,h2,hk⟩
 ·exact .inl ⟨h0,hk,by rw[if_pos h0]; rfl⟩
 ·obtain ⟨s,hs,h9⟩:=don_yes (.inl h1);exact .inr (.inl ⟨h0,.inl hk,s,hs,h9,by rw[if_neg h0,hs]; rfl⟩)
 ·obtain ⟨s,hs,h9⟩:=don_yes (.inr h2);exact .inr (.inl ⟨h0,.inr hk,s,hs,h9,by rw[if_neg h0,hs]; rfl⟩)
 ·have hn:=don_no h1 h2;exact .inr (.inr ⟨h0,by omega,hn,by rw[if_neg h0,hn]; rfl⟩)
theorem vdt_hlen:(vdt r f d).hls.length<=r.hls.length:=by
 by_cases h:(vdt r f d).kind=7
 ·rw[vdt_hold7 h];unfold holding;rw[List.length_map];exact List.length_filter_le _ _
 ·rw[vdt_nohold h]; exact Nat.zero_le _
theorem expl_len:(explS r f d).length<=3*r.rls.length+r.hls.length+4:=by
 have h1:=rulesF_len r f d;have h2:=timS_len (f:=f) (d:=d) (rulesF r f d);have h3:=vdt_hlen (r:=r) (f:=f) (d:=d);rcases expl_cases (r:=r) (f:=f) (d:=d) with ⟨-,-,e⟩ | ⟨-,-,s,-,-,e⟩ | ⟨-,-,-,e⟩
 ·rw[e]; simp
 ·rw[e]; simp
 ·rw[e];unfold restS;simp only[List.length_cons,List.length_append,List.length_map,List.length_nil]
  have hs:(if 8<=(vdt r f d).kind then (selS r f d).toList else []).length<=1:=by
   split
   ·cases selS r f d <;> simp
   ·exact Nat.zero_le _
  split
  ·simp only[List.length_nil]; omega
  ·simp only[List.length_append,List.length_map]; omega
end Go.Arc
