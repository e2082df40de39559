/- A part of this claim. -/
import Derived.Test.YtdljpbdmcgmalaaGreatDoorSp9
import Derived.KernelRfl
import Derived.Test.YtdljpbdmcgmalaaGreatDoorBaD
import Derived.Lib.ItoaNum
namespace Go.Arc
open Go.Ab
def je4 (l:List Ofc) (d:Int) (o:Ofc):Option Ofc:=if inS o.frm o.til d=true then none else match o.nxt with
 | []=>none
 | x::_=>jaf l x
def chainF (l:List Ofc) (d:Int):Nat->Ofc->List Int
 | 0,o=>[o.id]
 | n+1,o=>match je4 l d o with
  | none=>[o.id]
  | some q=>o.id::chainF l d n q
def chain (l:List Ofc) (n d:Int):List Int:=if jca l=false then [] else match jaf l n with
 | none=>[]
 | some o=>chainF l d 1048577 o
theorem goodO_all {l:List Ofc} (h:jca l=true):l.length<=32/\∀i,i<l.length->jct l i=0:=by
 have h0:(jcv l).2=0:=by simpa [jca] using h
 obtain ⟨h1,h2⟩:=jh8 h0;exact ⟨om,h2⟩
theorem faultO_zero {l:List Ofc} {i:Nat} {o:Ofc} (ho:l[i]? = some o) (h:jct l i=0):¬badO o/\name o.name=true/\jc3 l o=0/\∀q,i≠0->l[i-1]? = some q->q.id<o.id:=by
 by_cases h1:badO o
 ·rw[jh7 ho h1] at h; cases h
 cases hn:name o.name
 ·rw[faultO_4 ho h1 hn] at h; cases h
 by_cases h0:i=0
 ·subst h0;rw[jpt ho h1 hn] at h;exact ⟨h1,rfl,h,fun q hne=>absurd rfl hne⟩
 ·have hlt:=(gsi.1 ho).1;obtain ⟨q,hq,-,-⟩:=ja1 (l:=l) (k:=i-1) om;by_cases hle:o.id<=q.id
  ·rw[faultO_5 ho h1 hn h0 hq hle] at h; cases h
  ·rw[faultO_s ho h1 hn h0 hq hle] at h;refine ⟨h1,rfl,h,fun q' _ hq'=> ?_⟩;rw[hq] at hq'; cases hq';omega
theorem succErr_zero {l:List Ofc} {o:Ofc} (h:jc3 l o=0):∀n∈o.nxt,∃q,jaf l n=some q/\q.frm=o.til:=by
 unfold jc3 at h;split at h
 ·cases h
 split at h
 ·cases h
 split at h
 ·cases h
 rename_i h1 h2 h3;intro n hn;have h2':(o.nxt.any fun n=>(jaf l n).isNone)=false:=by simpa using h2
 have h3':(o.nxt.any fun n=> !decide (frmO l n=o.til))=false:=by simpa using h3
 have g2:=List.any_eq_false.1 h2' n hn;have g3:=List.any_eq_false.1 h3' n hn;cases e:jaf l n with
 | none=>rw[e] at g2; simp at g2
 | some q=>
  refine ⟨q,rfl,?_⟩;have:frmO l n=q.frm:=by unfold frmO; rw[e]
  rw[this] at g3;simpa using g3
theorem jc8 {l:List Ofc} {n:Int} {o:Ofc} (h:jaf l n=some o):∃i:Nat,l[i]? = some o:=List.getElem?_of_mem (List.mem_of_find?_eq_some h)
theorem goodO_look {l:List Ofc} (h:jca l=true) {n:Int} {o:Ofc} (ho:jaf l n=some o):0<=o.frm/\o.frm<o.til/\o.til<=1048576/\∀n∈o.nxt,∃q,jaf l n=some q/\q.frm=o.til:=by
 obtain ⟨i,hi⟩:=jc8 ho;have hlt:=(gsi.1 hi).1;obtain ⟨h1,-,h2,-⟩:=faultO_zero hi ((goodO_all h).2 i hlt)
 have hg:jaq o.frm o.til=true:=by
  cases e:jaq o.frm o.til
  ·exact absurd (.inr (.inr (.inl e))) h1
  ·rfl
 simp[jaq] at hg;exact ⟨hg.1,hg.2.1,hg.2.2,succErr_zero h2⟩
theorem chain_bad {l:List Ofc} {n d:Int} (h:jca l=false):chain l n d=[]:=by unfold chain; rw[if_pos h]
theorem chain_none {l:List Ofc} {n d:Int} (h:jaf l n=none):chain l n d=[]:=by
 unfold chain;split
 ·rfl
 ·rw[h]
theorem chain_some {l:List Ofc} {n d:Int} {o:Ofc} (h:jca l=true) (ho:jaf l n=some o):chain l n d=chainF l d 1048577 o:=by
 unfold chain; rw[if_neg (by simp[h]),ho]
theorem chainF_end {l:List Ofc} {d:Int} {o:Ofc} (n:Nat) (h:je4 l d o=none):chainF l d n o=[o.id]:=by
 cases n with
 | zero=>rfl
 | succ n=>simp only[chainF,h]
theorem chainF_next {l:List Ofc} {d:Int} {o q:Ofc} (n:Nat) (h:je4 l d o=some q):chainF l d (n+1) o=o.id::chainF l d n q:=by simp only[chainF,h]
theorem nextO_in {l:List Ofc} {d:Int} {o:Ofc} (h:inS o.frm o.til d=true):je4 l d o=none:=by unfold je4; rw[if_pos h]
theorem nextO_nil {l:List Ofc} {d:Int} {o:Ofc} (h:o.nxt=[]):je4 l d o=none:=by unfold je4; rw[h]; split <;> rfl
theorem nextO_cons {l:List Ofc} {d:Int} {o:Ofc} {x:Int} {r:List Int} (h:inS o.frm o.til d=false) (h':o.nxt=x::r):je4 l d o=jaf l x:=by
 unfold je4; rw[if_neg (by simp[h]),h']
theorem chainF_len (l:List Ofc) (d:Int):∀(n:Nat) (o:Ofc),(chainF l d n o).length<=n+1
 | 0,_=>by simp[chainF]
 | n+1,o=>by
  simp only[chainF];split
  ·simp
  ·have:=chainF_len l d n ‹_›;simp only[List.length_cons]; omega
structure Hld where
 id:Int
 kind:Int
 obj:Int
 cls:Str
 why:Str
 frm:Int
 til:Int
 deriving DecidableEq
abbrev Hld.cs (h:Hld):List V:=[vi h.id,vi h.kind,vi h.obj,.str h.cls,.str h.why,vi h.frm,vi h.til]
abbrev hlds (l:List Hld):V:= .slice 7 (l.map Hld.cs)
def Hld.Fit (h:Hld):Prop:=h.cls.length<=1048576/\h.why.length<=1048576
def FitsH (l:List Hld):Prop:=l.length<=1048576/\∀h∈l,h.Fit
def idB (n:Int):Bool:=decide (1<=n/\n<=1073741824)
def jcx (h:Hld):Int:=if h.kind≠3 then (if idB h.obj=false\/h.cls≠[] then 1 else 0) else if h.obj≠0 then 1 else if (ja6 h.cls).isNone=true then 3 else 0
def badH (h:Hld):Prop:=idB h.id=false\/h.kind<1\/3<h.kind\/jaq h.frm h.til=false
instance (h:Hld):Decidable (badH h):=inferInstanceAs (Decidable (_\/_))
def prevH (l:List Hld) (i:Nat) (h:Hld):Bool:=match (if i=0 then none else l[i-1]?) with | some q=>decide (h.id<=q.id) | none=>false
def jf3 (l:List Hld) (i:Nat):Int:=match l[i]? with
 | none=>0
 | some h=>if badH h then 2 else if prevH l i h=true then 5 else if jcx h≠0 then jcx h else if name h.why=false then 4 else 0
def jdt (l:List Hld):Int×Int:=chk 64 l.length (jf3 l)
def jgb (os:List Ofc) (ps:List Plan) (h:Hld) (f:Fil) (d:Int):Bool:=
 if h.kind=1 then decide (h.obj=f.id) else if h.kind=2 then (chain os f.ofc d).any (fun y=>decide (h.obj=y)) else
 if h.kind=3 then decide ((jb4 ps f d).2=0) && jc5 (jb4 ps f d).1 h.cls else false
def jhh (os:List Ofc) (ps:List Plan) (h:Hld) (f:Fil) (d:Int):Bool:=inS h.frm h.til d && jgb os ps h f d
def jch (os:List Ofc) (ps:List Plan) (l:List Hld) (f:Fil) (d:Int):List Int:=(l.filter fun h=>jhh os ps h f d).map (·.id)
end Go.Arc
namespace Go.Arc
def bgn (n:Nat):Nat:=365*n+(n+3) / 4+(n+399) / 400-(n+99) / 100
def jbj (n:Nat):Bool:=decide (n % 4=0) && (decide (n % 100≠0) || decide (n % 400=0))
theorem up_step (n k:Nat) (hk:0<k):(n+1+(k-1)) / k=(n+(k-1)) / k+(if n % k=0 then 1 else 0):=by
 have e:n+1+(k-1)=n+k:=om
 rw[e,Nat.add_div_right _ hk];have hd:=Nat.div_add_mod n k;have hm:=Nat.mod_lt n hk;generalize hq:n / k=q at hd;generalize hr:n % k=r at hd hm;by_cases h0:r=0
 ·subst h0;have:n+(k-1)=(k-1)+k*q:=om
  rw[if_pos rfl,this,Nat.add_mul_div_left _ _ hk,Nat.div_eq_of_lt om];omega
 ·have:n+(k-1)=(r-1)+k*(q+1):=by rw[Nat.mul_add]; omega
  rw[if_neg h0,this,Nat.add_mul_div_left _ _ hk,Nat.div_eq_of_lt om];omega
theorem bgn_step (n:Nat):bgn (n+1)=bgn n+365+(if jbj n=true then 1 else 0):=by
 have a4:=up_step n 4 dc;have a100:=up_step n 100 dc;have a400:=up_step n 400 dc;have h1:(n+99) / 100<=n:=om
 have k1:n % 400=0->n % 100=0:=om
 have k2:n % 100=0->n % 4=0:=om
 simp only[Nat.reduceSub] at a4 a100 a400;unfold bgn jbj;rw[a4,a100,a400];generalize (n+3) / 4=x at *;generalize (n+99) / 100=y at *;generalize (n+399) / 400=z at *;by_cases c:n % 400=0
 ·have b:=k1 c;have a:=k2 b;simp[a,b,c]; omega
 ·by_cases b:n % 100=0
  ·have a:=k2 b;simp[a,b,c]; omega
  ·by_cases a:n % 4=0
   ·simp[a,b,c]; omega
   ·simp[a,b,c]; omega
theorem bgn_lt (n:Nat):bgn n<bgn (n+1):=by rw[bgn_step]; omega
theorem bgn_mono {a b:Nat} (h:a<=b):bgn a<=bgn b:=by
  induction b with
  | zero => have : a = 0 := om
            subst this; exact Nat.le_refl _
  | succ b ih=>
    by_cases e:a=b+1
    · subst e; exact Nat.le_refl _
    · have:=bgn_lt b;have:=ih om;omega
theorem bgn_le (n:Nat):bgn n<=366*n:=by
 induction n with
 | zero=>decide
 | succ n ih=>rw[bgn_step]; split <;> omega
theorem bgn_ge (n:Nat):365*n<=bgn n:=by
 have h1:(n+99) / 100<=(n+3) / 4+(n+399) / 400:=om
 unfold bgn; omega
def yrF:Nat->Nat->Nat->Nat
 | 0,n,_=>n
 | k+1,n,d=>if d<bgn (n+1) then n else yrF k (n+1) d
def yr (d:Nat):Nat:=yrF (d+1) 0 d
theorem yrF_at {d m:Nat} (h1:bgn m<=d) (h2:d<bgn (m+1)):∀(k n:Nat),n<=m->m<=n+k->yrF k n d=m
 | 0,n,a,b=>by simp only[yrF]; omega
 | k+1,n,a,b=>by
  simp only[yrF];split
  ·rename_i h;rcases Nat.lt_or_ge n m with hlt | hge
   ·have:=bgn_mono (show n+1<=m by omega); omega
   ·omega
  ·rename_i h;rcases Nat.lt_or_ge n m with hlt | hge
   ·exact yrF_at h1 h2 k (n+1) om om
   ·have:n=m:=om
    subst this; omega
theorem yr_at {d m:Nat} (h1:bgn m<=d) (h2:d<bgn (m+1)):yr d=m:=yrF_at h1 h2 _ 0 (Nat.zero_le _) (by have:=bgn_ge m; omega)
theorem yr_spec (d:Nat):bgn (yr d)<=d/\d<bgn (yr d+1):=by
 have:∃m,bgn m<=d/\d<bgn (m+1):=by
  induction d with
  | zero=>exact ⟨0,dc,dc⟩
  | succ d ih=>
   obtain ⟨m,h1,h2⟩:=ih;by_cases h:d+1<bgn (m+1)
   ·exact ⟨m,om,h⟩
   ·exact ⟨m+1,om,by have:=bgn_lt (m+1); omega⟩
 obtain ⟨m,h1,h2⟩:=this;rw[yr_at h1 h2];exact ⟨h1,h2⟩
def mlens:List Nat:=[31,28,31,30,31,30,31,31,30,31,30,31]
def lenM (l:Bool) (m:Nat):Nat:=if m=2/\l=true then 29 else (mlens[m-1]?).getD 0
def sumM (l:Bool):Nat->Nat
 | 0=>0
 | m+1=>if m=0 then 0 else sumM l m+lenM l m
theorem sumM_13 (l:Bool):sumM l 13=365+(if l=true then 1 else 0):=by cases l <;> decide
def monF (l:Bool):Nat->Nat->Nat->Nat×Nat
 | 0,m,d=>(m,d)
 | k+1,m,d=>if d<lenM l m then (m,d) else monF l k (m+1) (d-lenM l m)
def mon (l:Bool) (d:Nat):Nat×Nat:=monF l 12 1 d
def date (d:Nat):Nat×Nat×Nat:=(yr d,(mon (jbj (yr d)) (d-bgn (yr d))).1,(mon (jbj (yr d)) (d-bgn (yr d))).2)
theorem monF_spec (l:Bool):∀(k m d:Nat),1<=m->m+k=13->d<sumM l 13-sumM l m->1<=(monF l k m d).1/\(monF l k m d).1<=12/\(monF l k m d).2<lenM l (monF l k m d).1/\d+sumM l m=(monF l k m d).2+sumM l (monF l k m d).1
 | 0,m,d,_,hk,hd=>by
  have:m=13:=om
  subst this; omega
 | k+1,m,d,h1,hk,hd=>by
  simp only[monF];split
  ·rename_i h;exact ⟨h1,(by omega:m<=12),h,rfl⟩
  ·rename_i h;have hs:sumM l (m+1)=sumM l m+lenM l m:=by simp only[sumM]; rw[if_neg om]
   obtain ⟨a,b,c,e⟩:=monF_spec l k (m+1) (d-lenM l m) om om om;exact ⟨a,b,c,om⟩
theorem mon_spec {l:Bool} {d:Nat} (h:d<sumM l 13):1<=(mon l d).1/\(mon l d).1<=12/\(mon l d).2<lenM l (mon l d).1/\d=(mon l d).2+sumM l (mon l d).1:=by
 have:=monF_spec l 12 1 d (Nat.le_refl _) rfl (by simpa [sumM] using h);simpa [mon,sumM] using this
theorem in_year (d:Nat):d-bgn (yr d)<sumM (jbj (yr d)) 13:=by
 obtain ⟨h1,h2⟩:=yr_spec d;rw[sumM_13];rw[bgn_step] at h2;omega
def yearsN (d n:Nat):Nat:=
 let x:=date d
 if 2870<x.1+n then 1048575 else min (bgn (x.1+n)+sumM (jbj (x.1+n)) x.2.1+min (x.2.2+1) (lenM (jbj (x.1+n)) x.2.1)-1) 1048575
def yearEndN (d:Nat):Nat:=min (bgn (yr d+1)-1) 1048575
end Go.Arc
namespace Go.Arc
open Go.Ab
structure Rul where
 id:Int
 cls:Str
 trg:Str
 yrs:Int
 yend:Bool
 act:Int
 frm:Int
 til:Int
abbrev Rul.cs (r:Rul):List V:=[vi r.id,.str r.cls,.str r.trg,vi r.yrs,vb r.yend,vi r.act,vi r.frm,vi r.til]
abbrev ruls (l:List Rul):V:= .slice 8 (l.map Rul.cs)
def Rul.Fit (r:Rul):Prop:=r.cls.length<=1048576/\r.trg.length<=1048576
def FitsR (l:List Rul):Prop:=l.length<=1048576/\∀r∈l,r.Fit
def badR (r:Rul):Prop:=idB r.id=false\/r.yrs<0\/200<r.yrs\/r.act<1\/3<r.act\/jaq r.frm r.til=false
instance (r:Rul):Decidable (badR r):=inferInstanceAs (Decidable (_\/_))
def prevR (l:List Rul) (i:Nat) (r:Rul):Bool:=match (if i=0 then none else l[i-1]?) with | some q=>decide (r.id<=q.id) | none=>false
def jcj (s:Str):Bool:=s.any fun b=>b == 34
def jdk (r:Rul):Int:=
 if (ja6 r.cls).isNone=true then 3 else if name r.trg=false\/jcj r.trg=true then 4 else
 if r.act=3/\(r.trg≠jg2\/r.yrs≠0\/r.yend=true) then 1 else 0
def je1 (l:List Rul) (i:Nat):Int:=match l[i]? with
 | none=>0
 | some r=>if badR r then 2 else if prevR l i r=true then 5 else jdk r
def jcu (l:List Rul):Int×Int:=chk 64 l.length (je1 l)
def goodR (l:List Rul):Bool:=(jcu l).2 == 0
def isIdR (n:Int) (r:Rul):Bool:=decide (r.id=n)
def findR (l:List Rul) (n:Int):Int:=ix (isIdR n) l
def jaz (s:Str):Nat:=match ja6 s with | some l=>l.length | none=>0
def appB (s:Str) (d:Int) (r:Rul):Bool:=inS r.frm r.til d && jc5 s r.cls
def jau (l:List Rul) (s:Str) (d:Int):Nat:=(l.filter (appB s d)).foldl (fun m r=>max m (jaz r.cls)) 0
def jc6 (l:List Rul) (s:Str) (d:Int):List Int:=(l.filter fun r=>appB s d r && (jaz r.cls == jau l s d)).map (·.id)
def datB (a b:Int):Bool:=decide (0<=a) && decide (a<=b) && decide (b<=1048575)
def dueR (r:Rul) (a b:Int):Option Int:=if goodR [r]=true/\datB a b=true then
  some ((if r.yend=true then yearEndN (yearsN b.toNat r.yrs.toNat) else yearsN b.toNat r.yrs.toNat:Nat):Int) else none
abbrev dueV (r:Rul) (a b:Int):V:=match dueR r a b with
 | some d=> .tup [vi d,vi 0]
 | none=> .tup [vi 0,vi 1]
structure Clk where
 id:Int
 role:Int
 name:Str
 frm:Int
 til:Int
structure Sel where
 smp:Int
 day:Int
 fls:List Int
structure Prp where
 id:Int
 day:Int
 clk:Int
 fls:List Int
 wdr:Int
structure Apv where
 prp:Int
 day:Int
 clk:Int
structure Crt where
 num:Int
 prp:Int
 day:Int
 fls:List Int
 bef:Str
 dig:Str
structure Dep where
 fil:Int
 day:Int
abbrev Clk.cs (c:Clk):List V:=[vi c.id,vi c.role,.str c.name,vi c.frm,vi c.til]
abbrev Sel.cs (s:Sel):List V:=[vi s.smp,vi s.day,ints s.fls]
abbrev Prp.cs (p:Prp):List V:=[vi p.id,vi p.day,vi p.clk,ints p.fls,vi p.wdr]
abbrev Apv.cs (a:Apv):List V:=[vi a.prp,vi a.day,vi a.clk]
abbrev Crt.cs (c:Crt):List V:=[vi c.num,vi c.prp,vi c.day,ints c.fls,.str c.bef,.str c.dig]
abbrev Dep.cs (d:Dep):List V:=[vi d.fil,vi d.day]
abbrev clks (l:List Clk):V:= .slice 5 (l.map Clk.cs)
abbrev sels (l:List Sel):V:= .slice 3 (l.map Sel.cs)
abbrev prps (l:List Prp):V:= .slice 5 (l.map Prp.cs)
abbrev apvs (l:List Apv):V:= .slice 3 (l.map Apv.cs)
abbrev crts (l:List Crt):V:= .slice 6 (l.map Crt.cs)
abbrev deps (l:List Dep):V:= .slice 2 (l.map Dep.cs)
structure Rgs where
 ofs:List Ofc
 pls:List Plan
 fls:List Fil
 rls:List Rul
 hls:List Hld
 cks:List Clk
 sls:List Sel
 pps:List Prp
 aps:List Apv
 crs:List Crt
 dps:List Dep
 chg:Int
abbrev Rgs.cs (r:Rgs):List V:=[ofcs r.ofs,jad r.pls,fils r.fls,ruls r.rls,hlds r.hls,clks r.cks,sels r.sls,prps r.pps,apvs r.aps,crts r.crs,deps r.dps,vi r.chg]
structure Rgs.Fit (r:Rgs):Prop where
 ofs:jdw r.ofs
 pls:Fits r.pls
 fls:FitsF r.fls
 rls:FitsR r.rls
 hls:FitsH r.hls
 cks:r.cks.length<=1048576/\∀c∈r.cks,c.name.length<=1048576
 sls:r.sls.length<=1048576/\∀s∈r.sls,s.fls.length<=1048576
 pps:r.pps.length<=1048576/\∀p∈r.pps,p.fls.length<=1048576
 aps:r.aps.length<=1048576
 crs:r.crs.length<=1048576/\∀c∈r.crs,c.fls.length<=1048576/\c.bef.length<=1048576/\c.dig.length<=1048576
 dps:r.dps.length<=1048576
def dayG (d:Int):Bool:=decide (0<=d) && decide (d<=1048575)
def hasF (l:List Fil) (n:Int):Bool:=l.any fun f=>decide (f.id=n)
def risI:List Int->Bool
 | a::b::r=>decide (a<b) && risI (b::r)
 | _=>true
structure Elm where
 id:Int
 day:Int
 fls:List Int
 gone:Bool
abbrev Elm.cs (x:Elm):List V:=[vi x.id,vi x.day,ints x.fls,vb x.gone]
abbrev elms (l:List Elm):V:= .slice 4 (l.map Elm.cs)
def Sel.el (s:Sel):Elm:=⟨s.smp,s.day,s.fls,false⟩
def Crt.el (c:Crt):Elm:=⟨c.num,c.day,c.fls,true⟩
def Dep.el (d:Dep):Elm:=⟨1,d.day,[d.fil],true⟩
def jaj (l:List Elm) (n:Int):Bool:=l.any fun x=>x.gone && x.fls.any fun f=>decide (f=n)
def elmE (fs:List Fil) (pre:List Elm) (last:Option Elm) (x:Elm):Int:=
 if idB x.id=false\/dayG x.day=false then 2 else if x.fls.all (hasF fs)=false then 7 else
 if risI x.fls=false\/(match last with | some q=>decide (x.day<q.day) | none=>false)=true then 5 else
 if x.gone=true/\x.fls.any (jaj pre)=true then 6 else 0
def elsE (fs:List Fil):List Elm->Option Elm->List Elm->Int
 | _,_,[]=>0
 | pre,last,x::r=>if elmE fs pre last x≠0 then elmE fs pre last x else elsE fs (pre++[x]) (some x) r
def jb7 (fs:List Fil) (pre l:List Elm):Int:=if 1024<l.length then 8 else elsE fs pre none l
def fstE:List Int->Int
 | []=>0
 | e::r=>if e≠0 then e else fstE r
def selE (r:Rgs):List Elm:=r.sls.map Sel.el
def crtE (r:Rgs):List Elm:=r.crs.map Crt.el
def depE (r:Rgs):List Elm:=r.dps.map Dep.el
def checkG (r:Rgs):Int:=fstE [(jcv r.ofs).2,(check r.pls).2,(jei r.ofs r.pls r.fls).2,(jcu r.rls).2,(jdt r.hls).2,
 jb7 r.fls [] (selE r),jb7 r.fls (selE r) (crtE r),jb7 r.fls (selE r++crtE r) (depE r)]
structure Vdt where
 kind:Int
 fil:Int
 day:Int
 rule:Int
 due:Int
 hls:List Int
abbrev Vdt.cs (v:Vdt):List V:=[vi v.kind,vi v.fil,vi v.day,vi v.rule,vi v.due,ints v.hls]
def jb2 (r:Rgs) (f:Fil) (d:Int):List Rul:=if (jb4 r.pls f d).2=0 then r.rls.filter fun q=>appB (jb4 r.pls f d).1 d q && (jaz q.cls == jau r.rls (jb4 r.pls f d).1 d) else []
def dueF (f:Fil) (d:Int) (q:Rul):Option Int:=(trig f q.trg d).bind fun t=>dueR q t.1 t.2
def jfr (f:Fil) (d:Int):List Rul->Int×Int->Int×Int
 | [],x=>x
 | q::r,x=>jfr f d r (match dueF f d q with | some t=>if x.1<t then (t,q.id) else x | none=>x)
def jdr (d:Int) (f:Fil) (day:Int) (l:List Int):Bool:=decide (day<=d) && l.any fun n=>decide (n=f.id)
def gone1 (r:Rgs) (f:Fil) (d:Int):Bool:=r.crs.any fun c=>jdr d f c.day c.fls
def gone2 (r:Rgs) (f:Fil) (d:Int):Bool:=r.dps.any fun c=>jdr d f c.day [c.fil]
def selB (r:Rgs) (f:Fil) (d:Int):Bool:=r.sls.any fun s=>jdr d f s.day s.fls
def keepB (q:Rul):Bool:=decide (q.act=3)
def moveB (q:Rul):Bool:=decide (q.act=2)
def jdj (f:Fil) (d:Int) (q:Rul):Bool:=(trig f q.trg d).isNone
def vdt (r:Rgs) (f:Fil) (d:Int):Vdt:=
 let l:=jb2 r f d
 let x:=jfr f d l (-1,0)
 let hs:=jch r.ofs r.pls r.hls f d
 if state f d=0 then ⟨0,f.id,d,0,0,[]⟩ else if gone1 r f d=true then ⟨1,f.id,d,0,0,[]⟩ else if gone2 r f d=true then ⟨2,f.id,d,0,0,[]⟩ else
 if l=[] then ⟨0,f.id,d,0,0,[]⟩ else if state f d=1 then ⟨3,f.id,d,0,0,[]⟩ else
 match l.find? keepB with
 | some q=>⟨4,f.id,d,q.id,0,[]⟩
 | none=>match l.find? (jdj f d) with
  | some q=>⟨5,f.id,d,q.id,0,[]⟩
  | none=>if d<=x.1 then ⟨6,f.id,d,x.2,x.1,[]⟩ else if hs≠[] then ⟨7,f.id,d,x.2,x.1,hs⟩ else
   if l.any moveB=true\/selB r f d=true then ⟨9,f.id,d,x.2,x.1,[]⟩ else ⟨8,f.id,d,x.2,x.1,[]⟩
def xorU (a b:Int):Int:=bitF .xor .u64 a b
def andU (a b:Int):Int:=bitF .and .u64 a b
def orU (a b:Int):Int:=bitF .or .u64 a b
def notU (a:Int):Int:=notF .u64 a
def rotU (x n:Int):Int:=orU (shF true .u64 x n) (shF false .u64 x (64-n))
def atU (l:List Int) (i:Nat):Int:=l.getD i 0
def rotL:List Int:=[0,1,62,28,27,36,44,6,55,20,3,10,43,25,39,41,45,15,21,8,18,2,61,56,14]
def conL:List Int:=[1,32898,9223372036854808714,9223372039002292224,32907,2147483649,9223372039002292353,9223372036854808585,138,136,2147516425,2147483658,2147516555,9223372036854775947,9223372036854808713,9223372036854808579,9223372036854808578,9223372036854775936,32778,9223372039002259466,9223372039002292353,9223372036854808704,2147483649,9223372039002292232]
def jbu (a:List Int) (k:Nat):List Int:=(List.range k).foldl (fun s i=>s.set (i % 5) (xorU (atU s (i % 5)) (atU a i))) (List.replicate 5 0)
def jg8 (a:List Int) (i:Nat):Int:=xorU (xorU (atU a i) (atU (jbu a 25) ((i+4) % 5))) (rotU (atU (jbu a 25) ((i+1) % 5)) 1)
def posF (i:Nat):Nat:=i / 5+5*((2*(i % 5)+3*(i / 5)) % 5)
def layF (g:Nat->Nat) (p:Nat->Nat) (v:Nat->Int) (k:Nat) (b:List Int):List Int:=(List.range k).foldl (fun b j=>b.set (p (g j)) (v (g j))) b
def tr5 (j:Nat):Nat:=j / 5+5*(j % 5)
def bF (a:List Int):List Int:=layF id posF (fun i=>rotU (jg8 a i) (atU rotL i)) 25 (List.replicate 25 0)
def chiF (b:List Int) (i:Nat):Int:=xorU (atU b i) (andU (notU (atU b ((i % 5+1) % 5+5*(i / 5)))) (atU b ((i % 5+2) % 5+5*(i / 5))))
def outF (b:List Int):List Int:=layF id id (chiF b) 25 (List.replicate 25 0)
def jez (a:List Int) (c:Int):List Int:=(outF (bF a)).set 0 (xorU (atU (outF (bF a)) 0) c)
def jfq (a:List Int):List Int:=conL.foldl jez a
def eatF (s:List Int) (d:Str) (k:Nat):List Int:=(List.range k).foldl (fun s i=>s.set (i / 8) (xorU (atU s (i / 8)) (shF true .u64 ((d.getD i 0).toNat:Int) (8*((i % 8:Nat):Int))))) s
def jbm (s:List Int) (d:Str):List Int:=jfq (eatF s d 136)
attribute [irreducible] jfq jbm
def absF:Nat->List Int->Str->List Int×Str
 | 0,s,d=>(s,d)
 | n+1,s,d=>if 136<=d.length then absF n (jbm s (d.take 136)) (d.drop 136) else (s,d)
def orB (b:UInt8):UInt8:=UInt8.ofNat (bitF .or .u8 (b.toNat:Int) 128).toNat
def jdc (l:Str):Str:=l.set (l.length-1) (orB (l.getD (l.length-1) 0))
def padF (d:Str):Str:=jdc (d++6::List.replicate (135-d.length) 0)
def digF (s:List Int) (k:Nat):Str:=(List.range k).map fun i=>UInt8.ofNat (IntKind.wrap .u8 (shF false .u64 (atU s (i / 8)) (8*((i % 8:Nat):Int)))).toNat
def jav:List Int:=List.replicate 25 0
def sumD (d:Str):Str:=digF (jbm (absF d.length jav d).1 (padF (absF d.length jav d).2)) 32
theorem jn3 (d:Str):(sumD d).length=32:=by
 unfold sumD digF;rw[List.length_map,List.length_range]
theorem absF_len:∀(n:Nat) (s:List Int) (d:Str),d.length<=n->(absF n s d).2.length<136
 | 0,s,d,h=>by
  show d.length<136
  omega
 | n+1,s,d,h=>by
  unfold absF;by_cases h1:136<=d.length
  ·rw[if_pos h1];exact absF_len n _ _ (by rw[List.length_drop]; omega)
  ·rw[if_neg h1]
   show d.length<136
   omega
theorem jhu (g p:Nat->Nat) (v:Nat->Int) (k:Nat) (b:List Int):(layF g p v k b).length=b.length:=by
 unfold layF
 induction List.range k generalizing b with
 | nil=>rfl
 | cons j l ih=>rw[List.foldl_cons,ih,List.length_set]
theorem jhq (g p:Nat->Nat) (v:Nat->Int) (k:Nat) (b:List Int):layF g p v (k+1) b=(layF g p v k b).set (p (g k)) (v (g k)):=by
 unfold layF;exact zd9
theorem jod (a:List Int) (k:Nat):jbu a (k+1)=(jbu a k).set (k % 5) (xorU (atU (jbu a k) (k % 5)) (atU a k)):=by
 unfold jbu;exact zd9
theorem jmn (a:List Int) (k:Nat):(jbu a k).length=5:=by
 induction k with
 | zero=>rfl
 | succ k ih=>rw[jod,List.length_set,ih]
theorem jpw (s:List Int) (d:Str) (k:Nat):eatF s d (k+1)=(eatF s d k).set (k / 8) (xorU (atU (eatF s d k) (k / 8)) (shF true .u64 ((d.getD k 0).toNat:Int) (8*((k % 8:Nat):Int)))):=by
 unfold eatF;exact zd9
theorem eatF_len (s:List Int) (d:Str) (k:Nat):(eatF s d k).length=s.length:=by
 induction k with
 | zero=>rfl
 | succ k ih=>rw[jpw,List.length_set,ih]
theorem bF_tr (v:Nat->Int):layF tr5 posF v 25 (List.replicate 25 0)=layF id posF v 25 (List.replicate 25 0):=kr
theorem jn9 (g:Nat->Nat) (v:Nat->Int) (b:List Int) {i:Nat} (hi:i<b.length):∀k:Nat,((∃j,j<k/\g j=i)->(layF g id v k b)[i]? = some (v i))/\((∀j,j<k->g j≠i)->(layF g id v k b)[i]? = b[i]?)
 | 0=>⟨fun ⟨j,h,_⟩=>absurd h (Nat.not_lt_zero j),fun _=>rfl⟩
 | k+1=>by
  obtain ⟨h1,h2⟩:=jn9 g v b hi k;rw[jhq,show id (g k)=g k from rfl];have hl:i<(layF g id v k b).length:=by rw[jhu]; exact hi
  refine ⟨fun ⟨j,hj,he⟩=> ?_,fun h=> ?_⟩
  ·by_cases hg:g k=i
   ·subst hg;rw[List.getElem?_set_self hl]
   ·rw[List.getElem?_set_ne (fun e=>hg e)];refine h1 ⟨j,?_,he⟩;rcases Nat.lt_or_ge j k with h | h
    ·exact h
    ·exact absurd (by rw[<- he,show j=k by omega]) hg
  ·rw[List.getElem?_set_ne (fun e=>h k (Nat.lt_succ_self k) e)];exact h2 fun j hj=>h j (Nat.lt_succ_of_lt hj)
theorem layF_map (g:Nat->Nat) (v:Nat->Int) (b:List Int) (hb:b.length=25) (hg:∀i,i<25->∃j,j<25/\g j=i):layF g id v 25 b=(List.range 25).map v:=by
 apply List.ext_getElem?;intro i;by_cases hi:i<25
 ·rw[(jn9 g v b om 25).1 (hg i hi),List.getElem?_map,List.getElem?_range hi];rfl
 ·rw[List.getElem?_eq_none (by rw[jhu]; omega),List.getElem?_eq_none (by rw[List.length_map,List.length_range]; omega)]
theorem outF_tr (v:Nat->Int) (b:List Int) (hb:b.length=25):layF tr5 id v 25 b=layF id id v 25 (List.replicate 25 0):=by
 rw[layF_map tr5 v b hb (fun i hi=>⟨tr5 i,by unfold tr5; omega,by unfold tr5; omega⟩),layF_map id v _ List.length_replicate (fun i hi=>⟨i,hi,rfl⟩)]
theorem jog (a:List Int) (c:Int):(jez a c).length=25:=by
 rw[jez,List.length_set,outF,jhu,List.length_replicate]
theorem jpq:∀(l:List Int) (a:List Int),a.length=25->(l.foldl jez a).length=25
 | [],a,h=>h
 | c::l,a,_=>by
  have hr:=jog a c;rw[List.foldl_cons];exact jpq l (jez a c) hr
theorem permF_len (a:List Int) (h:a.length=25):(jfq a).length=25:=by
 rw[jfq];exact jpq conL a h
theorem jkq (s:List Int) (d:Str) (h:s.length=25):(jbm s d).length=25:=by
 have he:(eatF s d 136).length=25:=(eatF_len s d 136).trans h;rw[jbm];exact permF_len (eatF s d 136) he
theorem jq9:∀(n:Nat) (s:List Int) (d:Str),s.length=25->(absF n s d).1.length=25
 | 0,s,d,h=>h
 | n+1,s,d,h=>by
  have hb:=jkq s (d.take 136) h;rw[absF];by_cases h1:136<=d.length
  ·rw[if_pos h1];exact jq9 n (jbm s (d.take 136)) (d.drop 136) hb
  ·rw[if_neg h1];exact h
theorem padF_len (d:Str) (h:d.length<136):(padF d).length=136:=by
 unfold padF jdc;rw[List.length_set,List.length_append,List.length_cons,List.length_replicate];omega
def fillN (n:Nat):Nat:=135-n % 136
def jen (d:Str):Str:=jdc (d++6::List.replicate (fillN d.length) 0)
def jgh:Nat->List Int->Str->List Int
 | 0,s,_=>s
 | n+1,s,d=>jgh n (jbm s (d.take 136)) (d.drop 136)
theorem markL_app (a b:Str) (h:b≠[]):jdc (a++b)=a++jdc b:=by
 have hb:0<b.length:=List.length_pos_iff.2 h;unfold jdc;rw[List.length_append,show a.length+b.length-1=a.length+(b.length-1) by omega,List.set_append_right _ _ om,show a.length+(b.length-1)-a.length=b.length-1 by omega];congr 3;simp only[List.getD_eq_getElem?_getD];rw[List.getElem?_append_right om,show a.length+(b.length-1)-a.length=b.length-1 by omega]
theorem js1 (s:List Int) (d:Str) (h:d.length<136):jgh (d.length / 136+1) s (jen d)=jbm s (padF d):=by
 have e1:d.length / 136=0:=om
 have e2:jen d=padF d:=by
  unfold jen padF fillN;rw[Nat.mod_eq_of_lt om]
 have e3:(padF d).length=136:=padF_len d om;rw[e1,e2,jgh,jgh,List.take_of_length_le om]
theorem blksF_full:∀(n:Nat) (s:List Int) (d:Str),d.length<=n->jgh (d.length / 136+1) s (jen d)=jbm (absF n s d).1 (padF (absF n s d).2)
 | 0,s,d,h=>by
  rw[js1 s d om,absF]
 | n+1,s,d,h=>by
  by_cases h1:136<=d.length
  ·rw[absF,if_pos h1];have ih:=blksF_full n (jbm s (d.take 136)) (d.drop 136) (by rw[List.length_drop]; omega);rw[<- ih];have e1:d.length / 136+1=(d.drop 136).length / 136+1+1:=by rw[List.length_drop]; omega
   have e2:jen d=d.take 136++jen (d.drop 136):=by
    have h3:fillN (d.drop 136).length=fillN d.length:=by
     unfold fillN;rw[List.length_drop];omega
    have h4:jen (d.drop 136)=jdc (d.drop 136++6::List.replicate (fillN d.length) 0):=by rw[jen,h3]
    rw[h4,<- markL_app _ _ sm,<- List.append_assoc,List.take_append_drop,jen]
   have e3:(d.take 136).length=136:=by rw[List.length_take]; omega
   rw[e1,e2,jgh,List.take_left' e3,List.drop_left' e3]
  ·rw[absF,if_neg h1,js1 s d om]
theorem sumD_full (d:Str):sumD d=digF (jgh (d.length / 136+1) jav (jen d)) 32:=by
 unfold sumD;rw[blksF_full d.length jav d (Nat.le_refl _)]
theorem faultF_zero {os:List Ofc} {ps:List Plan} {l:List Fil} {i:Nat} {f:Fil} (hi:l[i]? = some f) (h:jdh os ps l i=0):¬badF f/\jek l i f=false/\name f.title=true/\jfl os f.ofc f.opn=true/\jgu ps f=false/\jdy f=0:=by
 by_cases h1:badF f
 ·rw[jg0 hi h1] at h; cases h
 rw[faultF_r hi h1] at h;cases h2:jek l i f
 ·rw[h2,if_neg sm] at h;cases h3:name f.title
  ·rw[h3,if_pos rfl] at h; cases h
  ·rw[h3,if_neg sm] at h;cases h4:jfl os f.ofc f.opn
   ·rw[h4,if_pos rfl] at h; cases h
   ·rw[h4,if_neg sm] at h;cases h5:jgu ps f
    ·rw[h5,if_neg sm] at h;exact ⟨h1,rfl,rfl,rfl,rfl,h⟩
    ·rw[h5,if_pos rfl] at h; cases h
 ·rw[h2,if_pos rfl] at h; cases h
theorem fmax_ge (f:Rul->Nat):∀(l:List Rul) (m:Nat),m<=l.foldl (fun m r=>max m (f r)) m/\∀r∈l,f r<=l.foldl (fun m r=>max m (f r)) m
 | [],m=>⟨Nat.le_refl _,fun r hr=>nomatch hr⟩
 | x::l,m=>by
  obtain ⟨h1,h2⟩:=fmax_ge f l (max m (f x));rw[List.foldl_cons];refine ⟨Nat.le_trans (Nat.le_max_left _ _) h1,fun r hr=> ?_⟩;rcases List.mem_cons.1 hr with rfl | hr
  ·exact Nat.le_trans (Nat.le_max_right _ _) h1
  ·exact h2 r hr
theorem depth_le {l:List Rul} {s:Str} {d:Int} {r:Rul} (hr:r∈l) (ha:appB s d r=true):jaz r.cls<=jau l s d:=
 (fmax_ge (fun r=>jaz r.cls) (l.filter (appB s d)) 0).2 r (List.mem_filter.2 ⟨hr,ha⟩)
theorem jmc {l:List Rul} {s:Str} {d:Int} {x:Rul} (ha:appB s d x=false):jau (l++[x]) s d=jau l s d:=by
 unfold jau;rw[List.filter_append];simp[ha]
theorem jh3 {l:List Rul} {s:Str} {d:Int} {x:Rul} (ha:appB s d x=true):jau (l++[x]) s d=max (jau l s d) (jaz x.cls):=by
 unfold jau;rw[List.filter_append];simp[ha,List.foldl_append]
def deepR (l:List Rul) (s:Str) (d:Int) (n:Nat):List Int:=(l.filter fun r=>appB s d r && (jaz r.cls == n)).map (·.id)
theorem ji9 (l:List Rul) (s:Str) (d:Int):jc6 l s d=deepR l s d (jau l s d):=rfl
theorem jmj (l:List Rul) (s:Str) (d:Int) (n:Nat) (x:Rul):deepR (l++[x]) s d n=deepR l s d n++(if appB s d x=true/\jaz x.cls=n then [x.id] else []):=by
 unfold deepR;rw[List.filter_append,List.map_append];congr 1;by_cases h:appB s d x=true/\jaz x.cls=n
 ·rw[if_pos h]; simp[h.1,h.2]
 ·rw[if_neg h];cases h1:appB s d x
  ·simp[h1]
  ·have h2:¬jaz x.cls=n:=fun e=>h ⟨h1,e⟩;simp[h1,h2]
theorem deepR_none {l:List Rul} {s:Str} {d:Int} {n:Nat} (h:jau l s d<n):deepR l s d n=[]:=by
 unfold deepR;rw[List.map_eq_nil_iff,List.filter_eq_nil_iff];intro r hr hc;simp only[Bool.and_eq_true,beq_iff_eq] at hc;have:=depth_le hr hc.1;omega
theorem apply_no {l:List Rul} {s:Str} {d:Int} {x:Rul} (ha:appB s d x=false):jc6 (l++[x]) s d=jc6 l s d:=by
 rw[ji9,ji9,jmc ha,jmj,if_neg (by simp[ha]),List.append_nil]
theorem apply_gt {l:List Rul} {s:Str} {d:Int} {x:Rul} (ha:appB s d x=true) (h:jau l s d<jaz x.cls):jc6 (l++[x]) s d=[x.id]:=by
 rw[ji9,jh3 ha,Nat.max_eq_right om,jmj,if_pos ⟨ha,rfl⟩,deepR_none h,List.nil_append]
theorem apply_eq {l:List Rul} {s:Str} {d:Int} {x:Rul} (ha:appB s d x=true) (h:jaz x.cls=jau l s d):jc6 (l++[x]) s d=jc6 l s d++[x.id]:=by
 rw[ji9,ji9,jh3 ha,Nat.max_eq_left om,jmj,if_pos ⟨ha,h⟩]
theorem apply_lt {l:List Rul} {s:Str} {d:Int} {x:Rul} (ha:appB s d x=true) (h:jaz x.cls<jau l s d):jc6 (l++[x]) s d=jc6 l s d:=by
 rw[ji9,ji9,jh3 ha,Nat.max_eq_left om,jmj,if_neg om,List.append_nil]
theorem jm4 {l:List Rul} {k:Nat} {x:Rul} (h:l[k]? = some x):l.take (k+1)=l.take k++[x]:=by
 obtain ⟨hlt,rfl⟩:=gsi.1 h;rw[List.take_succ_eq_append_getElem hlt]
theorem rul_step {l:List Rul} (h:goodR l=true) {i:Nat} {q r:Rul} (hq:l[i]? = some q) (hr:l[i+1]? = some r):q.id<r.id:=by
 have hz:(chk 64 l.length (je1 l)).2=0:=by
  have:=h;unfold goodR jcu at this;exact eq_of_beq this
 obtain ⟨-,ha⟩:=jh8 hz;have hlt:=(gsi.1 hr).1;have h0:=ha (i+1) hlt;unfold je1 at h0;rw[hr] at h0;simp only at h0;by_cases hb:badR r
 ·rw[if_pos hb] at h0; cases h0
 ·rw[if_neg hb] at h0;by_cases hp:prevR l (i+1) r=true
  ·rw[if_pos hp] at h0; cases h0
  ·unfold prevR at hp;rw[if_neg (Nat.succ_ne_zero i),Nat.add_sub_cancel,hq] at hp;simp only[decide_eq_true_eq] at hp;omega
theorem rul_asc {l:List Rul} (h:goodR l=true) {i:Nat} {q:Rul} (hq:l[i]? = some q):∀(n:Nat) {r:Rul},l[i+1+n]? = some r->q.id<r.id
 | 0,r,hr=>rul_step h hq hr
 | n+1,r,hr=>by
  have hlt:=(gsi.1 hr).1;have hlt2:i+1+n<l.length:=om
  have h1:=rul_asc h hq n (gge hlt2);have h2:=rul_step h (gge hlt2) hr;omega
theorem findR_at {l:List Rul} (h:goodR l=true) {i:Nat} {q:Rul} (hq:l[i]? = some q):findR l q.id=i:=by
 refine (jge (k:=i) (fun e he=> ?_) hq (by simp[isIdR])).symm;obtain ⟨j,hj⟩:=List.getElem?_of_mem he
 have hji:j<i:=by
  have:=(gsi.1 hj).1;rw[List.length_take] at this;omega
 rw[List.getElem?_take_of_lt hji] at hj;have:=rul_asc h hj (i-(j+1)) (r:=q) (by rw[show j+1+(i-(j+1))=i by omega]; exact hq);unfold isIdR;exact decide_eq_false om
theorem findR_mem {l:List Rul} (h:goodR l=true) {q:Rul} (hq:q∈l):∃i:Nat,i<l.length/\l[i]? = some q/\findR l q.id=i:=by
 obtain ⟨i,hi⟩:=List.getElem?_of_mem hq;exact ⟨i,(gsi.1 hi).1,hi,findR_at h hi⟩
theorem rulesF_mem {r:Rgs} {f:Fil} {d:Int} {q:Rul} (h:q∈jb2 r f d):q∈r.rls:=by
 unfold jb2 at h;split at h
 ·exact (List.mem_filter.1 h).1
 ·cases h
theorem rulesF_len (r:Rgs) (f:Fil) (d:Int):(jb2 r f d).length<=r.rls.length:=by
 unfold jb2;split
 ·exact List.length_filter_le _ _
 ·exact Nat.zero_le _
theorem rulesF_ids {r:Rgs} {f:Fil} {d:Int} (h:(jb4 r.pls f d).2=0):jc6 r.rls (jb4 r.pls f d).1 d=(jb2 r f d).map (·.id):=by
 unfold jb2 jc6;rw[if_pos h]
theorem rulesF_bad {r:Rgs} {f:Fil} {d:Int} (h:(jb4 r.pls f d).2≠0):jb2 r f d=[]:=if_neg h
def jfp (f:Fil) (d:Int) (x:Int×Int) (q:Rul):Int×Int:=match dueF f d q with
 | some t=>if x.1<t then (t,q.id) else x
 | none=>x
theorem jos (f:Fil) (d:Int):∀(l:List Rul) (x:Int×Int),jfr f d l x=l.foldl (jfp f d) x
 | [],_=>rfl
 | _::r,_=>jos f d r _
theorem lateF_snoc (f:Fil) (d:Int) {l:List Rul} {k:Nat} {q:Rul} (x:Int×Int) (h:l[k]? = some q):jfr f d (l.take (k+1)) x=jfp f d (jfr f d (l.take k) x) q:=by
 rw[jm4 h,jos,jos,List.foldl_append];rfl
theorem stepL_none {f:Fil} {d:Int} {x:Int×Int} {q:Rul} (h:dueF f d q=none):jfp f d x q=x:=by unfold jfp; rw[h]
theorem stepL_lt {f:Fil} {d:Int} {x:Int×Int} {q:Rul} {t:Int} (h:dueF f d q=some t) (ht:x.1<t):jfp f d x q=(t,q.id):=by unfold jfp; rw[h]; exact if_pos ht
theorem stepL_ge {f:Fil} {d:Int} {x:Int×Int} {q:Rul} {t:Int} (h:dueF f d q=some t) (ht:¬x.1<t):jfp f d x q=x:=by unfold jfp; rw[h]; exact if_neg ht
theorem dueF_no {f:Fil} {d:Int} {q:Rul} (h:trig f q.trg d=none):dueF f d q=none:=by unfold dueF; rw[h]; rfl
theorem dueF_yes {f:Fil} {d:Int} {q:Rul} {a b:Int} (h:trig f q.trg d=some (a,b)):dueF f d q=dueR q a b:=by unfold dueF; rw[h]; rfl
def jgi (l:List Int) (i:Nat):Bool:=match l[i-1]?,l[i]? with
 | some x,some y=>decide (0<i) && decide (y<x)
 | _,_=>false
def srtI (l:List Int):Bool:= !(List.range l.length).any (jgi l)
theorem backI_s {l:List Int} {i:Nat} (h0:i≠0) {x y:Int} (hx:l[i-1]? = some x) (hy:l[i]? = some y):jgi l i=decide (y<x):=by
 unfold jgi; rw[hx,hy]; simp; omega
theorem backI_0 (l:List Int):jgi l 0=false:=by
 unfold jgi;split
 ·rfl
 ·rfl
theorem srtI_at {l:List Int} {i:Nat} (hi:i<l.length) (h:jgi l i=true):srtI l=false:=by
 unfold srtI;rw[show (List.range l.length).any (jgi l)=true from List.any_eq_true.2 ⟨i,List.mem_range.2 hi,h⟩]; rfl
theorem srtI_end {l:List Int} (h:∀j,j<l.length->jgi l j=false):srtI l=true:=by
 unfold srtI
 rw[show (List.range l.length).any (jgi l)=false from by
  rw[List.any_eq_false];intro j hj
  rw[h j (List.mem_range.1 hj)]; decide]
 rfl
theorem srtI_iff (l:List Int):srtI l=true↔∀(i:Nat) x y,l[i]? = some x->l[i+1]? = some y->x<=y:=by
 constructor
 ·intro h i x y hx hy;by_cases hlt:y<x
  ·have hb:jgi l (i+1)=true:=by rw[backI_s (Nat.succ_ne_zero i) ze9 hy]; simpa using hlt
   rw[srtI_at (gsi.1 hy).1 hb] at h;cases h
  ·omega
 ·intro h;refine srtI_end fun j hj=> ?_;cases j with
  | zero=>exact backI_0 l
  | succ i=>
   have hi:i<l.length:=om
   rw[backI_s (Nat.succ_ne_zero i) (x:=l[i]) (y:=l[i+1]) (by simp[hi]) (gge hj)];have:=h i _ _ (gge hi) (gge hj);exact zcw
theorem jfz:∀l:List Int,risI l=true↔∀(i:Nat) x y,l[i]? = some x->l[i+1]? = some y->x<y
 | []=>by simp[risI]
 | [a]=>by simp[risI]
 | a::b::r=>by
  have ih:=jfz (b::r);unfold risI;simp only[Bool.and_eq_true,decide_eq_true_eq];rw[ih];constructor
  ·rintro ⟨h1,h2⟩ i x y hx hy;cases i with
   | zero=>simp at hx hy; omega
   | succ i=>exact h2 i x y (by simpa using hx) (by simpa using hy)
  ·intro h;exact ⟨h 0 a b rfl rfl,fun i x y hx hy=>h (i+1) x y ze9 (by simpa using hy)⟩
def stpCI (K:List Int) (x:Int):List Int:=if K.getLast? = some x then K else K++[x]
def jao (l:List Int):List Int:=l.foldl stpCI []
theorem stpCI_last (K:List Int) (x:Int):(stpCI K x).getLast? = some x:=by
 unfold stpCI;split
 ·assumption
 ·simp
theorem stpCI_len (K:List Int) (x:Int):(stpCI K x).length<=K.length+1:=by
 unfold stpCI;split
 ·omega
 ·simp
theorem jm5 {l:List Int} {k:Nat} {x:Int} (h:l[k]? = some x):l.take (k+1)=l.take k++[x]:=by
 obtain ⟨hlt,rfl⟩:=gsi.1 h;rw[List.take_succ_eq_append_getElem hlt]
theorem jkp {l:List Int} {k:Nat} {x:Int} (h:l[k]? = some x):jao (l.take (k+1))=stpCI (jao (l.take k)) x:=by
 rw[jm5 h];unfold jao;rw[List.foldl_append];rfl
theorem compI_last {l:List Int} {k:Nat} {x:Int} (h:l[k]? = some x):(jao (l.take (k+1))).getLast? = some x:=by
 rw[jkp h]; exact stpCI_last _ _
theorem jq3 (l:List Int):∀k,(jao (l.take k)).length<=k
 | 0=>by simp[jao]
 | k+1=>by
  have ih:=jq3 l k;cases h:l[k]? with
  | none=>
   have:l.length<=k:=by simpa using h
   rw[List.take_of_length_le om];rw[List.take_of_length_le this] at ih;omega
  | some x=>
   rw[jkp h];have:=stpCI_len (jao (l.take k)) x;omega
theorem jmk {l:List Int} {k:Nat} {x y:Int} (hk:0<k) (hy:l[k-1]? = some y) (hx:l[k]? = some x) (h:x=y):jao (l.take (k+1))=jao (l.take k):=by
 obtain ⟨j,rfl⟩:∃j,k=j+1:=⟨k-1,om⟩;rw[jkp hx];unfold stpCI;rw[if_pos (by rw[compI_last (by simpa using hy),h])]
theorem jp3 {l:List Int} {k:Nat} {x y:Int} (hk:0<k) (hy:l[k-1]? = some y) (hx:l[k]? = some x) (h:x≠y):jao (l.take (k+1))=jao (l.take k)++[x]:=by
 obtain ⟨j,rfl⟩:∃j,k=j+1:=⟨k-1,om⟩;rw[jkp hx];unfold stpCI;rw[if_neg (by rw[compI_last (by simpa using hy)]; simp; omega)]
theorem jq2 {l:List Int} {x:Int} (hx:l[0]? = some x):jao (l.take 1)=[x]:=by
 rw[jkp hx]; rfl
theorem compI_full (l:List Int):∀k,k<=l.length->((jao (l.take k)).length=k↔∀(i:Nat) x y,i+1<k->l[i]? = some x->l[i+1]? = some y->x≠y)
 | 0,_=>by simp[jao]
 | 1,h=>by
  rw[jq2 (gge (show 0<l.length by omega))];simp
 | k+2,h=>by
  have ih:=compI_full l (k+1) om;have hlen:=jq3 l (k+1);have hk1:k+1<l.length:=om
  have hx:=gge hk1;have hy:=gge (show k<l.length by omega);by_cases e:l[k+1]=l[k]
  ·rw[jmk (Nat.succ_pos k) hy hx e];constructor
   ·intro g; simp only[Nat.succ_eq_add_one] at g; omega
   ·intro g; exact absurd e.symm (g k _ _ om hy hx)
  ·rw[jp3 (Nat.succ_pos k) hy hx e,List.length_append];constructor
   ·intro g i x y hi gx gy;by_cases hik:i=k
    ·subst hik;rw[hy] at gx; rw[hx] at gy;cases gx; cases gy;exact fun hh=>e hh.symm
    ·exact ih.1 (by simp at g; omega) i x y om gx gy
   ·intro g;have:=ih.2 fun i x y hi gx gy=>g i x y om gx gy;simp; omega
theorem rise_eq (l:List Int):(srtI l && decide (((jao l).length:Int)=l.length))=risI l:=by
 have h1:=srtI_iff l;have h2:=jfz l;have h3:=compI_full l l.length (Nat.le_refl _);rw[List.take_length] at h3;rw[Bool.eq_iff_iff,Bool.and_eq_true,decide_eq_true_eq,h1,h2];constructor
 ·rintro ⟨g1,g2⟩ i x y hx hy;have:=h3.1 om i x y (gsi.1 hy).1 hx hy;have:=g1 i x y hx hy;omega
 ·intro g;refine ⟨fun i x y hx hy=>by have:=g i x y hx hy; omega,?_⟩;have:=h3.2 fun i x y _ hx hy=>by have:=g i x y hx hy; omega
  omega
def upG:List (Int×Bool)->Int->Bool->List (Int×Bool)
 | [],f,b=>[(f,b)]
 | (g,c)::r,f,b=>if f=g then (f,b)::r else (g,c)::upG r f b
def getG:List (Int×Bool)->Int->Bool
 | [],_=>false
 | (g,c)::r,f=>if f=g then c else getG r f
def mapG (ps:List (Int×Bool)):List (V×V):=ps.map fun q=>(vi q.1,vb q.2)
def findG:List (Int×Bool)->Int->Option V
 | [],_=>none
 | (g,c)::r,f=>if f=g then some (vb c) else findG r f
theorem findG_get (ps:List (Int×Bool)) (f:Int):(findG ps f).getD (vb false)=vb (getG ps f):=by
 induction ps with
 | nil=>rfl
 | cons q r ih=>
  unfold findG getG;by_cases h:f=q.1
  ·rw[if_pos h,if_pos h]; rfl
  ·rw[if_neg h,if_neg h]; exact ih
theorem jpr (f:Int):∀ps,findV (vi f) (mapG ps)=some (findG ps f)
 | []=>rfl
 | (g,c)::r=>by
  have ih:=jpr f r;unfold mapG at ih;simp only[mapG,List.map_cons,findV,jel,if_true,findG];by_cases h:f=g
  ·simp[h]
  ·simp only[h,decide_false,if_false];exact ih
theorem jr5 (f:Int) (b:Bool):∀ps,jfk (vi f) (vb b) (mapG ps)=some (mapG (upG ps f b))
 | []=>rfl
 | (g,c)::r=>by
  have ih:=jr5 f b r;unfold mapG at ih;simp only[mapG,List.map_cons,jfk,jel,if_true,upG];by_cases h:f=g
  ·simp[h]
  ·simp only[h,decide_false,if_false,ih,Option.map_some,List.map_cons]
theorem get_up (f n:Int) (b:Bool):∀ps,getG (upG ps f b) n=if n=f then b else getG ps n
 | []=>by
  unfold upG getG getG;by_cases h:n=f <;> simp[h]
 | (g,c)::r=>by
  have ih:=get_up f n b r;unfold upG;by_cases h:f=g
  ·rw[if_pos h];unfold getG;by_cases h2:n=f
   ·simp[h2]
   ·rw[if_neg h2,if_neg h2,if_neg (by rw[<- h]; exact h2)]
  ·rw[if_neg h];unfold getG;by_cases h2:n=g
   ·rw[if_pos h2,if_pos h2,if_neg (fun e=>h (e.symm.trans h2))]
   ·rw[if_neg h2,if_neg h2,ih]
def addG (ps:List (Int×Bool)) (fs:List Int) (g:Bool):List (Int×Bool):=fs.foldl (fun ps f=>upG ps f (getG ps f || g)) ps
theorem get_add (n:Int) (g:Bool):∀(fs:List Int) ps,getG (addG ps fs g) n=(getG ps n || (g && fs.any fun f=>decide (f=n)))
 | [],ps=>by simp[addG]
 | f::r,ps=>by
  have ih:=get_add n g r (upG ps f (getG ps f || g));unfold addG at ih ⊢;rw[List.foldl_cons,ih,get_up];by_cases h:n=f
  ·subst h; cases g <;> cases getG ps n <;> simp
  ·have h':¬f=n:=fun e=>h e.symm;simp[h,h']
theorem add_snoc (ps:List (Int×Bool)) {fs:List Int} {k:Nat} {f:Int} (g:Bool) (h:fs[k]? = some f):addG ps (fs.take (k+1)) g=upG (addG ps (fs.take k) g) f (getG (addG ps (fs.take k) g) f || g):=by
 rw[jm5 h];unfold addG;rw[List.foldl_append];rfl
theorem jmt (l:List Elm) (x:Elm) (n:Int):jaj (l++[x]) n=(jaj l n || (x.gone && x.fls.any fun f=>decide (f=n))):=by
 unfold jaj;rw[List.any_append];simp
theorem get_gone {ps:List (Int×Bool)} {pre:List Elm} (h:∀n,getG ps n=jaj pre n) (x:Elm):∀n,getG (addG ps x.fls x.gone) n=jaj (pre++[x]) n:=fun n=>by
 rw[get_add,jmt,h]
def elsM (fs:List Fil):List Elm->Option Elm->List (Int×Bool)->List Elm->List (Int×Bool)
 | _,_,ps,[]=>ps
 | pre,last,ps,x::r=>if elmE fs pre last x≠0 then ps else elsM fs (pre++[x]) (some x) (addG ps x.fls x.gone) r
theorem elsM_get (fs:List Fil):∀(l:List Elm) (pre:List Elm) (last:Option Elm) (ps:List (Int×Bool)),(∀n,getG ps n=jaj pre n)->elsE fs pre last l=0->∀n,getG (elsM fs pre last ps l) n=jaj (pre++l) n
 | [],pre,last,ps,h,_=>fun n=>by rw[List.append_nil]; exact h n
 | x::r,pre,last,ps,h,he=>fun n=>by
  unfold elsE at he;unfold elsM;by_cases hx:elmE fs pre last x≠0
  ·rw[if_pos hx] at he; exact absurd he hx
  ·rw[if_neg hx] at he ⊢;rw[elsM_get fs r (pre++[x]) (some x) _ (get_gone h x) he n,List.append_assoc];rfl
theorem elsE_step {fs:List Fil} {l:List Elm} {k:Nat} {x:Elm} (hx:l[k]? = some x) (pre:List Elm) (last:Option Elm):elsE fs pre last (l.drop k)=if elmE fs pre last x≠0 then elmE fs pre last x else elsE fs (pre++[x]) (some x) (l.drop (k+1)):=by
 obtain ⟨hlt,rfl⟩:=gsi.1 hx;exact zc0
theorem elsM_step {fs:List Fil} {l:List Elm} {k:Nat} {x:Elm} (hx:l[k]? = some x) (pre:List Elm) (last:Option Elm) (ps:List (Int×Bool)):elsM fs pre last ps (l.drop k)=if elmE fs pre last x≠0 then ps else elsM fs (pre++[x]) (some x) (addG ps x.fls x.gone) (l.drop (k+1)):=by
 obtain ⟨hlt,rfl⟩:=gsi.1 hx;exact zc0
def jay (l:List Elm) (k:Nat):Option Elm:=if k=0 then none else l[k-1]?
theorem jrc {l:List Elm} {k:Nat} {x:Elm} (hx:l[k]? = some x):jay l (k+1)=some x:=by
 unfold jay;rw[if_neg (Nat.succ_ne_zero k),Nat.add_sub_cancel]; exact hx
theorem jm6 {l:List Elm} {k:Nat} {x:Elm} (h:l[k]? = some x):l.take (k+1)=l.take k++[x]:=by
 obtain ⟨hlt,rfl⟩:=gsi.1 h;rw[List.take_succ_eq_append_getElem hlt]
structure Pce where
 frm:Int
 til:Int
 val:Int
 deriving DecidableEq
abbrev Pce.cs (p:Pce):List V:=[vi p.frm,vi p.til,vi p.val]
def addP:List Pce->Int->Int->Int->List Pce
 | [],c,e,k=>[⟨c,e,k⟩]
 | [p],c,e,k=>if p.val=k then [⟨p.frm,e,p.val⟩] else [p,⟨c,e,k⟩]
 | p::q::r,c,e,k=>p::addP (q::r) c e k
def Runs (K:Int->Int) (b:Int):Int->List Pce->Prop
 | a,[]=>a=b
 | a,p::r=>p.frm=a/\a<p.til/\(∀d,a<=d->d<p.til->K d=p.val)/\(∀q,r.head? = some q->q.val≠p.val)/\Runs K b p.til r
theorem Runs.le {K:Int->Int} {b:Int} : ∀ {l:List Pce} {a:Int},Runs K b a l->a<=b
 | [],a,h=>by have:a=b:=h; omega
 | p::r,a,h=>by have h1:=h.2.1; have h2:=Runs.le h.2.2.2.2; omega
theorem Runs.head {K:Int->Int} {b:Int} {l:List Pce} {a:Int} (h:Runs K b a l) {q:Pce} (hq:l.head? = some q):K a=q.val:=by
 cases l with
 | nil=>cases hq
 | cons p r=>
  simp only[List.head?_cons,Option.some.injEq] at hq;subst hq;exact h.2.2.1 a (Int.le_refl _) h.2.1
theorem Runs.ne {K:Int->Int} {b a:Int} {l:List Pce} (h:Runs K b a l) (hab:a<b):l≠[]:=fun e=>by
 subst e;have:a=b:=h;omega
theorem addP_head {l:List Pce} {c e k:Int} {q x:Pce} (hx:l.head? = some x) (h:(addP l c e k).head? = some q):q.val=x.val:=by
 match l,hx with
 | [p],hx=>
  simp only[List.head?_cons,Option.some.injEq] at hx;subst hx;unfold addP at h;split at h
  ·simp only[List.head?_cons,Option.some.injEq] at h; rw[<- h]
  ·simp only[List.head?_cons,Option.some.injEq] at h; rw[<- h]
 | p::y::r,hx=>
  simp only[List.head?_cons,Option.some.injEq] at hx;subst hx;unfold addP at h;simp only[List.head?_cons,Option.some.injEq] at h;rw[<- h]
theorem Runs.add {K:Int->Int} {c e k:Int} (hce:c<e) (hk:∀d,c<=d->d<e->K d=k):∀ {l:List Pce} {a:Int},Runs K c a l->Runs K e a (addP l c e k)
 | [],a,h=>by
  have h:a=c:=h;subst h;exact ⟨rfl,hce,hk,(fun q hq=>nomatch hq),rfl⟩
 | [p],a,h=>by
  obtain ⟨h1,h2,h3,-,h5⟩:=h;have h5:p.til=c:=h5;unfold addP;by_cases hv:p.val=k
  ·rw[if_pos hv];refine ⟨h1,by show a<e; omega,fun d g1 g2=> ?_,(fun q hq=>nomatch hq),rfl⟩;by_cases hd:d<p.til
   ·exact h3 d g1 hd
   ·exact (hk d om g2).trans hv.symm
  ·rw[if_neg hv];refine ⟨h1,h2,h3,fun q hq=> ?_,⟨h5.symm,by rw[h5]; exact hce,fun d g1 g2=>hk d om g2,(fun q hq=>nomatch hq),rfl⟩⟩;simp only[List.head?_cons,Option.some.injEq] at hq;rw[<- hq];exact fun e=>hv e.symm
 | p::x::r,a,h=>by
  obtain ⟨h1,h2,h3,h4,h5⟩:=h;unfold addP;refine ⟨h1,h2,h3,fun q hq=> ?_,Runs.add hce hk h5⟩;rw[addP_head (x:=x) rfl hq];exact h4 x rfl
theorem Runs.at {K:Int->Int} {b:Int} : ∀ {l:List Pce} {a:Int},Runs K b a l->∀ {i:Nat} {p:Pce},l[i]? = some p->a<=p.frm/\p.frm<p.til/\p.til<=b/\∀d,p.frm<=d->d<p.til->K d=p.val
 | [],a,h,i,p,hp=>by simp at hp
 | x::r,a,h,0,p,hp=>by
  simp only[List.getElem?_cons_zero,Option.some.injEq] at hp;subst hp;exact ⟨by rw[h.1]; exact Int.le_refl _,by rw[h.1]; exact h.2.1,Runs.le h.2.2.2.2,by rw[h.1]; exact h.2.2.1⟩
 | x::r,a,h,i+1,p,hp=>by
  have:=Runs.at h.2.2.2.2 (i:=i) (p:=p) (by simpa using hp);have h2:=h.2.1;exact ⟨om,this.2⟩
def Far (d t c:Int):Prop:=c<=d\/t<c
theorem inS_far {f u d t:Int} (h:d<=t) (hf:Far d t f) (hu:Far d t u):inS f u d=inS f u t:=by
 unfold inS;unfold Far at hf hu;rw[Bool.eq_iff_iff,decide_eq_true_eq,decide_eq_true_eq];omega
theorem le_far {c d t:Int} (h:d<=t) (hc:Far d t c):decide (c<=d)=decide (c<=t):=by
 unfold Far at hc;rw[Bool.eq_iff_iff,decide_eq_true_eq,decide_eq_true_eq];omega
theorem jk5 {α:Type} {p q:α->Bool} : ∀ {l:List α},(∀x∈l,p x=q x)->l.filter p=l.filter q
 | [],_=>rfl
 | x::l,h=>by
  rw[List.filter_cons,List.filter_cons,h x sm,jk5 fun y hy=>h y ze4]
theorem jmm {α:Type} {p q:α->Bool} : ∀ {l:List α},(∀x∈l,p x=q x)->l.any p=l.any q
 | [],_=>rfl
 | x::l,h=>by
  rw[List.any_cons,List.any_cons,h x sm,jmm fun y hy=>h y ze4]
theorem jqd {α:Type} {p q:α->Bool} : ∀ {l:List α},(∀x∈l,p x=q x)->l.findIdx? p=l.findIdx? q
 | [],_=>rfl
 | x::l,h=>by
  rw[List.findIdx?_cons,List.findIdx?_cons,h x sm,jqd fun y hy=>h y ze4]
structure Quiet (r:Rgs) (f:Fil) (d t:Int):Prop where
 le:d<=t
 opn:Far d t f.opn
 cld:Far d t f.cld
 nts:∀n∈f.nts,Far d t n.rcd
 ofs:∀o∈r.ofs,Far d t o.frm/\Far d t o.til
 pls:∀o∈r.pls,Far d t o.frm/\Far d t o.til
 rls:∀o∈r.rls,Far d t o.frm/\Far d t o.til
 hls:∀o∈r.hls,Far d t o.frm/\Far d t o.til
 sls:∀s∈r.sls,(s.fls.any fun n=>decide (n=f.id))=true->Far d t s.day
 crs:∀s∈r.crs,(s.fls.any fun n=>decide (n=f.id))=true->Far d t s.day
 dps:∀s∈r.dps,s.fil=f.id->Far d t s.day
variable {r : Rgs} {f : Fil} {d t : Int}
theorem Quiet.state (h:Quiet r f d t):state f d=state f t:=by
 have:=h.le;have h1:=h.opn;have h2:=h.cld;unfold Far at h1 h2;unfold Arc.state;by_cases a:d<f.opn
 ·rw[if_pos a,if_pos om]
 ·have a':¬t<f.opn:=om
  rw[if_neg a,if_neg a'];by_cases b:d<f.cld
  ·have b':t<f.cld:=om
   rw[if_pos b,if_pos b']
  ·have b':¬t<f.cld:=om
   rw[if_neg b,if_neg b']
theorem onD_far {c:Int} (h:d<=t) (hc:Far d t c):onD c d=onD c t:=by
 unfold Far at hc;unfold onD;by_cases a:d<c
 ·rw[if_pos a,if_pos om]
 ·rw[if_neg a,if_neg om]
theorem Quiet.trig (h:Quiet r f d t) (s:Str):trig f s d=trig f s t:=by
 have hk:jfs f d=jfs f t:=jk5 fun n hn=>le_far h.le (h.nts n hn);unfold Arc.trig;rw[onD_far h.le h.opn,onD_far h.le h.cld];unfold best own;rw[hk]
theorem Quiet.cls (h:Quiet r f d t):jb4 r.pls f d=jb4 r.pls f t:=by
 have hi:idx r.pls d=idx r.pls t:=by
  unfold idx ix;rw[jqd fun p hp=>inS_far h.le (h.pls p hp).1 (h.pls p hp).2]
 unfold jb4;rw[hi]
theorem Quiet.rules (h:Quiet r f d t):jb2 r f d=jb2 r f t:=by
 have ha:∀s,∀q∈r.rls,appB s d q=appB s t q:=fun s q hq=>by
  unfold appB;rw[inS_far h.le (h.rls q hq).1 (h.rls q hq).2]
 have hl:∀s,jau r.rls s d=jau r.rls s t:=fun s=>by
  unfold jau;rw[jk5 (ha s)]
 unfold jb2;rw[h.cls];split
 ·refine jk5 fun q hq=> ?_;rw[ha _ q hq,hl]
 ·rfl
theorem jor {day:Int} {l:List Int} (h:d<=t) (hf:(l.any fun n=>decide (n=f.id))=true->Far d t day):jdr d f day l=jdr t f day l:=by
 unfold jdr;cases e:l.any fun n=>decide (n=f.id) with
 | false=>rw[Bool.and_false,Bool.and_false]
 | true=>rw[le_far h (hf e)]
theorem Quiet.gone1 (h:Quiet r f d t):gone1 r f d=gone1 r f t:=jmm fun c hc=>jor h.le (h.crs c hc)
theorem Quiet.gone2 (h:Quiet r f d t):gone2 r f d=gone2 r f t:=jmm fun c hc=>jor h.le fun e=>h.dps c hc (by simpa using e)
theorem Quiet.sel (h:Quiet r f d t):selB r f d=selB r f t:=jmm fun c hc=>jor h.le (h.sls c hc)
theorem lookO_mem {l:List Ofc} {n:Int} {o:Ofc} (h:jaf l n=some o):o∈l:=List.mem_of_find?_eq_some h
theorem Quiet.chainF (h:Quiet r f d t):∀(n:Nat) (o:Ofc),o∈r.ofs->chainF r.ofs d n o=chainF r.ofs t n o
 | 0,o,_=>rfl
 | n+1,o,ho=>by
  have he:je4 r.ofs d o=je4 r.ofs t o:=by
   unfold je4;rw[inS_far h.le (h.ofs o ho).1 (h.ofs o ho).2]
  unfold Arc.chainF;rw[he];cases e:je4 r.ofs t o with
  | none=>rfl
  | some q=>
   have hq:q∈r.ofs:=by
    unfold je4 at e;split at e
    ·cases e
    ·split at e
     ·cases e
     ·exact lookO_mem e
   simp only;rw[h.chainF n q hq]
theorem Quiet.chain (h:Quiet r f d t) (n:Int):chain r.ofs n d=chain r.ofs n t:=by
 unfold Arc.chain;split
 ·rfl
 ·cases e:jaf r.ofs n with
  | none=>rfl
  | some o=>exact h.chainF _ o (lookO_mem e)
theorem Quiet.hold (h:Quiet r f d t):jch r.ofs r.pls r.hls f d=jch r.ofs r.pls r.hls f t:=by
 unfold jch;rw[jk5 fun x hx=> ?_];unfold jhh jgb;rw[inS_far h.le (h.hls x hx).1 (h.hls x hx).2,h.chain,h.cls]
def kdB (s:Int) (g1 g2 e:Bool) (k w late hd m:Bool):Int:=
 if s=0 then 0 else if g1=true then 1 else if g2=true then 2 else if e=true then 0 else if s=1 then 3 else if k=true then 4 else if w=true then 5 else if late=true then 6 else if hd=true then 7 else if m=true then 9 else 8
theorem Quiet.kind (h:Quiet r f d t) (b:Bool):kdB (Arc.state f d) (Arc.gone1 r f d) (Arc.gone2 r f d) (decide (jb2 r f d=[])) ((jb2 r f d).find? keepB).isSome ((jb2 r f d).find? (jdj f d)).isSome b (decide (jch r.ofs r.pls r.hls f d≠[])) ((jb2 r f d).any moveB || selB r f d)=
  kdB (Arc.state f t) (Arc.gone1 r f t) (Arc.gone2 r f t) (decide (jb2 r f t=[])) ((jb2 r f t).find? keepB).isSome ((jb2 r f t).find? (jdj f t)).isSome b (decide (jch r.ofs r.pls r.hls f t≠[])) ((jb2 r f t).any moveB || selB r f t):=by
 have hw:jdj f d=jdj f t:=by funext q; unfold jdj; rw[h.trig]
 rw[h.state,h.gone1,h.gone2,h.rules,h.hold,h.sel,hw]
end Go.Arc
namespace Go.Arc
open Go.Ab
def keysG (ps:List (Int×Bool)):List Int:=ps.map (·.1)
theorem jh6 {x:Int} {l:List Int} (h:fstE (x::l)=0):x=0/\fstE l=0:=by
 unfold fstE at h;by_cases hx:x≠0
 ·rw[if_pos hx] at h; exact absurd h hx
 ·rw[if_neg hx] at h; exact ⟨om,h⟩
structure OkG (r:Rgs):Prop where
 ofs:(jcv r.ofs).2=0
 pls:(check r.pls).2=0
 fls:(jei r.ofs r.pls r.fls).2=0
 rls:(jcu r.rls).2=0
 hls:(jdt r.hls).2=0
 sls:jb7 r.fls [] (selE r)=0
 crs:jb7 r.fls (selE r) (crtE r)=0
 dps:jb7 r.fls (selE r++crtE r) (depE r)=0
theorem okG_of {r:Rgs} (h:checkG r=0):OkG r:=by
 unfold checkG at h;obtain ⟨h1,h⟩:=jh6 h;obtain ⟨h2,h⟩:=jh6 h;obtain ⟨h3,h⟩:=jh6 h;obtain ⟨h4,h⟩:=jh6 h;obtain ⟨h5,h⟩:=jh6 h;obtain ⟨h6,h⟩:=jh6 h;obtain ⟨h7,h⟩:=jh6 h;obtain ⟨h8,h⟩:=jh6 h;exact ⟨h1,h2,h3,h4,h5,h6,h7,h8⟩
theorem OkG.zero {r:Rgs} (h:OkG r):checkG r=0:=by
 unfold checkG;rw[h.ofs,h.pls,h.fls,h.rls,h.hls,h.sls,h.crs,h.dps];rfl
theorem OkG.goodR {r:Rgs} (h:OkG r):goodR r.rls=true:=by unfold Arc.goodR; rw[h.rls]; rfl
theorem jpj {fs:List Fil} {pre l:List Elm} (h:jb7 fs pre l=0):elsE fs pre none l=0:=by
 unfold jb7 at h;split at h
 ·cases h
 ·exact h
theorem mem_take {α:Type} {l:List α} {i j:Nat} {x:α} (hx:l[i]? = some x) (h:i<j):x∈l.take j:=List.mem_iff_getElem?.2 ⟨i,by rw[List.getElem?_take,if_pos h]; exact hx⟩
def hasI (n:Int) (l:List Int):Bool:=l.any fun f=>decide (f=n)
def jd6 (r:Rgs) (n:Int) (c d:Nat):Int×Int:=match (r.crs.take c).find? fun x=>hasI n x.fls with
 | some x=>(x.day,1)
 | none=>match (r.dps.take d).find? fun x=>decide (x.fil=n) with
  | some x=>(x.day,2)
  | none=>(0,0)
end Go.Arc
namespace Go.Arc
open Go.Ab
variable {r : Rgs} {f : Fil} {d : Int}
end Go.Arc
namespace Go.Arc
open Go.Ab
theorem prevH_0 (l:List Hld) (h:Hld):prevH l 0 h=false:=by unfold prevH; rw[if_pos rfl]
theorem prevH_s {l:List Hld} {i:Nat} {h q:Hld} (h0:i≠0) (hq:l[i-1]? = some q):prevH l i h=decide (h.id<=q.id):=by unfold prevH; rw[if_neg h0,hq]
def endE (q:Option Elm):List Elm->Option Elm
 | []=>q
 | x::l=>endE (some x) l
theorem elsE_more {fs:List Fil} {x:Elm} : ∀(l pre:List Elm) (q:Option Elm),elsE fs pre q l=0->elmE fs (pre++l) (endE q l) x=0->elsE fs pre q (l++[x])=0
 | [],pre,q,_,h=>by
  rw[List.append_nil] at h
  show (if elmE fs pre q x≠0 then elmE fs pre q x else elsE fs (pre++[x]) (some x) [])=0
  have h:elmE fs pre q x=0:=h;rw[if_neg (fun e=>e h)];rfl
 | y::l,pre,q,h0,h=>by
  unfold elsE at h0;by_cases hy:elmE fs pre q y≠0
  ·rw[if_pos hy] at h0; exact absurd h0 hy
  rw[if_neg hy] at h0
  show (if elmE fs pre q y≠0 then elmE fs pre q y else elsE fs (pre++[y]) (some y) (l++[x]))=0
  rw[if_neg hy];exact elsE_more l (pre++[y]) (some y) h0 (by rw[List.append_assoc]; exact h)
theorem endE_last:∀(l:List Elm) (q:Option Elm) (x:Elm),endE q (l++[x])=some x
 | [],_,_=>rfl
 | y::l,_,x=>endE_last l (some y) x
theorem goneB_selA (l:List Sel) (r:List Elm) (n:Int):jaj (l.map Sel.el++r) n=jaj r n:=by
 unfold jaj;rw[List.any_append]
 have:((l.map Sel.el).any fun x=>x.gone && x.fls.any fun f=>decide (f=n))=false:=by
  rw[List.any_map,List.any_eq_false];intro x _
  exact fun hc=>by
   have hc:(false && (x.fls.any fun f=>decide (f=n)))=true:=hc;rw[Bool.false_and] at hc;cases hc
 rw[this,Bool.false_or]
structure Gat (ps:List (Int×Bool)) (S:List Int):Prop where
 mem:∀x,x∈keysG ps↔x∈S
 nd:(keysG ps).Nodup
 len:ps.length<=S.length
end Go.Arc
namespace Go.Arc
open Go.Ab
variable {r : Rgs} {f : Fil} {d e a : Int}
theorem Runs.len {K:Int->Int} {b:Int} : ∀ {l:List Pce} {a:Int},Runs K b a l->a+l.length<=b
 | [],a,h=>by have:a=b:=h; simp; omega
 | p::l,a,h=>by
  have:=h.2.2.2.2.len;have:=h.2.1;simp only[List.length_cons];omega
end Go.Arc
namespace Go.Arc
open Go.Ab
structure Stp where
 kind:Int
 num:Int
 fst:Int
 lst:Int
 txt:Str
 deriving DecidableEq
abbrev Stp.cs (s:Stp):List V:=[vi s.kind,vi s.num,vi s.fst,vi s.lst,.str s.txt]
end Go.Arc
namespace Go.Arc
open Go.Ab
variable {r : Rgs} {f : Fil} {d : Int}
theorem vdt_kind:(d<f.opn/\(vdt r f d).kind=0)\/(¬d<f.opn/\gone1 r f d=true/\(vdt r f d).kind=1)\/(¬d<f.opn/\gone1 r f d=false/\gone2 r f d=true/\(vdt r f d).kind=2)\/
  (¬d<f.opn/\gone1 r f d=false/\gone2 r f d=false/\((vdt r f d).kind=0\/(vdt r f d).kind=3\/(vdt r f d).kind=4\/
   ((vdt r f d).kind=5/\(vdt r f d).hls=[]/\∃q∈jb2 r f d,jdj f d q=true)\/
   ((∀q∈jb2 r f d,jdj f d q=false)/\((vdt r f d).kind=6\/(vdt r f d).kind=7\/(vdt r f d).kind=8\/(vdt r f d).kind=9)))):=by
 have hs:state f d=0↔d<f.opn:=by
  unfold Arc.state;by_cases h1:d<f.opn
  ·simp[h1]
  ·by_cases h2:d<f.cld <;> simp[h1,h2]
 by_cases h0:d<f.opn
 ·exact .inl ⟨h0,by simp only[vdt]; rw[if_pos (hs.2 h0)]⟩
 refine .inr ?_;have h0':¬state f d=0:=fun e=>h0 (hs.1 e);cases h1:gone1 r f d with
 | true=>exact .inl ⟨h0,rfl,by simp only[vdt]; rw[if_neg h0',if_pos h1]⟩
 | false=>
  refine .inr ?_;have h1':¬gone1 r f d=true:=by rw[h1]; exact Bool.false_ne_true
  cases h2:gone2 r f d with
  | true=>exact .inl ⟨h0,rfl,rfl,by simp only[vdt]; rw[if_neg h0',if_neg h1',if_pos h2]⟩
  | false=>
   refine .inr ⟨h0,rfl,rfl,?_⟩;have h2':¬gone2 r f d=true:=by rw[h2]; exact Bool.false_ne_true
   simp only[vdt];rw[if_neg h0',if_neg h1',if_neg h2'];by_cases h3:jb2 r f d=[]
   ·rw[if_pos h3]; exact .inl rfl
   rw[if_neg h3];by_cases h4:state f d=1
   ·rw[if_pos h4]; exact .inr (.inl rfl)
   rw[if_neg h4];cases h5:(jb2 r f d).find? keepB with
   | some q=>exact .inr (.inr (.inl rfl))
   | none=>
    cases h6:(jb2 r f d).find? (jdj f d) with
    | some q=>exact .inr (.inr (.inr (.inl ⟨rfl,rfl,q,List.mem_of_find?_eq_some h6,List.find?_some (p:=jdj f d) h6⟩)))
    | none=>
     refine .inr (.inr (.inr (.inr ⟨fun q hq=>eq_false_of_ne_true (List.find?_eq_none.1 h6 q hq),?_⟩)))
     dsimp only
     by_cases h7:d<=(jfr f d (jb2 r f d) (-1,0)).1
     ·rw[if_pos h7]; exact .inl rfl
     rw[if_neg h7];by_cases h8:jch r.ofs r.pls r.hls f d≠[]
     ·rw[if_pos h8]; exact .inr (.inl rfl)
     rw[if_neg h8];by_cases h9:(jb2 r f d).any moveB=true\/selB r f d=true
     ·rw[if_pos h9]; exact .inr (.inr (.inr rfl))
     ·rw[if_neg h9]; exact .inr (.inr (.inl rfl))
end Go.Arc
namespace Go.Arc
open Go.Ab
abbrev decS (n:Int):Str:=Lib.itoa n
theorem decS_nn {n:Int} (h:¬n<0):decS n=Lib.decDigits n.toNat:=if_neg h
theorem jee {α:Type} (p:α->Bool) (l:List α):(ix p l= -1/\l.find? p=none)\/∃(k:Nat) (q:α),ix p l=k/\k<l.length/\l[k]? = some q/\q∈l/\l.find? p=some q:=by
 unfold ix;cases h:l.findIdx? p with
 | none=>
  left;rw[List.findIdx?_eq_none_iff] at h;exact ⟨rfl,List.find?_eq_none.2 fun x hx=>by simp[h x hx]⟩
 | some k=>
  right;obtain ⟨hk,h1,h2⟩:=List.findIdx?_eq_some_iff_getElem.1 h;exact ⟨k,l[k],rfl,hk,gge hk,List.getElem_mem hk,List.find?_eq_some_iff_getElem.2 ⟨h1,k,hk,rfl,fun j hj=>by simpa using h2 j hj⟩⟩
def askE (r:Rgs) (id:Int):Int:=if checkG r≠0 then 1 else if jbp r.fls id<0 then 7 else 0
theorem askE_1 {r:Rgs} {id:Int} (h:checkG r≠0):askE r id=1:=if_pos h
theorem askE_7 {r:Rgs} {id:Int} (h:checkG r=0) (h2:jbp r.fls id<0):askE r id=7:=by unfold askE; rw[if_neg (fun e=>e h),if_pos h2]
theorem askE_0 {r:Rgs} {id:Int} (h:checkG r=0) (h2:¬jbp r.fls id<0):askE r id=0:=by unfold askE; rw[if_neg (fun e=>e h),if_neg h2]
def filA (r:Rgs) (id:Int):Fil:=match r.fls.find? (jdl id) with
 | some f=>f
 | none=>⟨0,0,0,0,[],[],0,[]⟩
theorem find_fil {r:Rgs} {id:Int} (h:¬jbp r.fls id<0):∃k:Nat,jbp r.fls id=k/\k<r.fls.length/\r.fls[k]? = some (filA r id)/\filA r id∈r.fls/\(filA r id).id=id:=by
 rcases jee (jdl id) r.fls with ⟨h1,-⟩ | ⟨k,q,h1,h2,h3,h4,h5⟩
 ·exact absurd (show jbp r.fls id<0 by unfold jbp; rw[h1]; decide) h
 ·have he:filA r id=q:=by unfold filA; rw[h5]
  rw[he];exact ⟨k,h1,h2,h3,h4,of_decide_eq_true (p:=q.id=id) (show jdl id q=true from List.find?_some (p:=jdl id) h5)⟩
def onE (r:Rgs) (id d:Int):Int:=if askE r id≠0 then askE r id else if dayG d=false then 2 else 0
def vdtZ:Vdt:=⟨0,0,0,0,0,[]⟩
def onV (r:Rgs) (id d:Int):Vdt:=if onE r id d=0 then vdt r (filA r id) d else vdtZ
theorem filA_fit {r:Rgs} (h:r.Fit) {id:Int} (h2:¬jbp r.fls id<0):(filA r id).Fit:=by
 obtain ⟨k,-,-,-,hm,-⟩:=find_fil h2;exact h.fls.2 _ hm
theorem ask_ok {r:Rgs} {id:Int} (h:askE r id=0):checkG r=0/\¬jbp r.fls id<0:=by
 unfold askE at h;split at h
 ·cases h
 rename_i h1;split at h
 ·cases h
 ·exact ⟨om,by assumption⟩
theorem decN_len {n:Nat} (h:n<10000000000):(Lib.decDigits n).length<=10:=by
 rw[Lib.decDigits_length];refine Nat.le_of_not_lt fun hlt=> ?_
 have key:∀(k u:Nat),u<10 ^ (k+1)->Lib.nDigits u<=k+1:=by
  intro k
  induction k with
  | zero=>intro u hu; rw[Lib.nDigits_small (by simpa using hu)]; exact Nat.le_refl _
  | succ k ih=>
   intro u hu;by_cases h10:u<10
   ·rw[Lib.nDigits_small h10]; omega
   ·exact zdr
 exact absurd (key 9 n h) om
def diffN:List Stp->List Stp->Option Nat
  | [],[]=>none
  | a::l,b::x=>if a=b then (diffN l x).map (· + 1) else some 0
  | [],_::_=>some 0
  | _::_,[]=>some 0
def diffS (l x:List Stp):Int:=match diffN l x with
 | some i=>i
 | none=> -1
def NoCtl (s:Str):Prop:=∀c∈s,32<=c.toNat
theorem NoCtl.app {s t:Str} (h:NoCtl s) (g:NoCtl t):NoCtl (s++t):=fun c hc=>(List.mem_append.1 hc).elim (h c) (g c)
end Go.Arc
namespace Go.Arc
open Go.Ab
variable {r : Rgs} {f : Fil} {d : Int}
structure FactS (r:Rgs) (f:Fil) (d:Int) (s:Stp):Prop where
 opn:s.kind=8->s.fst=f.opn/\s.lst=f.cld
 cls:s.kind=1->s.txt=(jb4 r.pls f d).1/\((jb4 r.pls f d).2=0↔0<s.num)
 trg:s.kind=3->∃(i:Nat) (q:Rul),findR r.rls s.num=i/\r.rls[i]? = some q/\trig f q.trg d=some (s.fst,s.lst)
 due:s.kind=4->∃(i:Nat) (q:Rul) (t:Int×Int),findR r.rls s.num=i/\r.rls[i]? = some q/\trig f q.trg d=some t/\dueR q t.1 t.2=some s.lst
 sel:s.kind=5->∃c∈r.sls,c.smp=s.num/\c.day=s.fst/\jdr d f c.day c.fls=true
end Go.Arc
