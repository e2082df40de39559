/- A part of this claim. -/
import Derived.Test.YtdljpbdmcgmalaaGreatDoorSp9
import Derived.KernelRfl
import Derived.Test.YtdljpbdmcgmalaaGreatDoorBaD
import Derived.Lib.ItoaNum
namespace Go.Arc
open Go.Ab
def jdt (l:List Ofc) (d:Int) (o:Ofc):Option Ofc:=if inS o.frm o.til d=true then none else match o.nxt with
 | []=>none
 | x::_=>jab l x
def chainF (l:List Ofc) (d:Int):Nat->Ofc->List Int
 | 0,o=>[o.id]
 | n+1,o=>match jdt l d o with
  | none=>[o.id]
  | some q=>o.id::chainF l d n q
def chain (l:List Ofc) (n d:Int):List Int:=if jby l=false then [] else match jab l n with
 | none=>[]
 | some o=>chainF l d 1048577 o
theorem goodO_all {l:List Ofc} (h:jby l=true):l.length<=32/\∀i,i<l.length->jck l i=0:=by
 have h0:(jcl l).2=0:=by simpa [jby] using h
 obtain ⟨h1,h2⟩:=jfj h0;exact ⟨om,h2⟩
theorem faultO_zero {l:List Ofc} {i:Nat} {o:Ofc} (ho:l[i]? = some o) (h:jck l i=0):¬badO o/\name o.name=true/\jbq l o=0/\∀q,i≠0->l[i-1]? = some q->q.id<o.id:=by
 by_cases h1:badO o
 ·rw[jgz ho h1] at h; cases h
 cases hn:name o.name
 ·rw[faultO_4 ho h1 hn] at h; cases h
 by_cases h0:i=0
 ·subst h0;rw[jpa ho h1 hn] at h;exact ⟨h1,rfl,h,fun q hne=>absurd rfl hne⟩
 ·have hlt:=(gsi.1 ho).1;obtain ⟨q,hq,-,-⟩:=ja1 (l:=l) (k:=i-1) om;by_cases hle:o.id<=q.id
  ·rw[faultO_5 ho h1 hn h0 hq hle] at h; cases h
  ·rw[faultO_s ho h1 hn h0 hq hle] at h;refine ⟨h1,rfl,h,fun q' _ hq'=> ?_⟩;rw[hq] at hq'; cases hq';omega
theorem succErr_zero {l:List Ofc} {o:Ofc} (h:jbq l o=0):∀n∈o.nxt,∃q,jab l n=some q/\q.frm=o.til:=by
 unfold jbq at h;split at h
 ·cases h
 split at h
 ·cases h
 split at h
 ·cases h
 rename_i h1 h2 h3;intro n hn;have h2':(o.nxt.any fun n=>(jab l n).isNone)=false:=by simpa using h2
 have h3':(o.nxt.any fun n=> !decide (frmO l n=o.til))=false:=by simpa using h3
 have g2:=List.any_eq_false.1 h2' n hn;have g3:=List.any_eq_false.1 h3' n hn;cases e:jab l n with
 | none=>rw[e] at g2; simp at g2
 | some q=>
  refine ⟨q,rfl,?_⟩;have:frmO l n=q.frm:=by unfold frmO; rw[e]
  rw[this] at g3;simpa using g3
theorem jbw {l:List Ofc} {n:Int} {o:Ofc} (h:jab l n=some o):∃i:Nat,l[i]? = some o:=List.getElem?_of_mem (List.mem_of_find?_eq_some h)
theorem goodO_look {l:List Ofc} (h:jby l=true) {n:Int} {o:Ofc} (ho:jab l n=some o):0<=o.frm/\o.frm<o.til/\o.til<=1048576/\∀n∈o.nxt,∃q,jab l n=some q/\q.frm=o.til:=by
 obtain ⟨i,hi⟩:=jbw ho;have hlt:=(gsi.1 hi).1;obtain ⟨h1,-,h2,-⟩:=faultO_zero hi ((goodO_all h).2 i hlt)
 have hg:jak o.frm o.til=true:=by
  cases e:jak o.frm o.til
  ·exact absurd (.inr (.inr (.inl e))) h1
  ·rfl
 simp[jak] at hg;exact ⟨hg.1,hg.2.1,hg.2.2,succErr_zero h2⟩
theorem chain_bad {l:List Ofc} {n d:Int} (h:jby l=false):chain l n d=[]:=by unfold chain; rw[if_pos h]
theorem chain_none {l:List Ofc} {n d:Int} (h:jab l n=none):chain l n d=[]:=by
 unfold chain;split
 ·rfl
 ·rw[h]
theorem chain_some {l:List Ofc} {n d:Int} {o:Ofc} (h:jby l=true) (ho:jab l n=some o):chain l n d=chainF l d 1048577 o:=by
 unfold chain; rw[if_neg (by simp[h]),ho]
theorem chainF_end {l:List Ofc} {d:Int} {o:Ofc} (n:Nat) (h:jdt l d o=none):chainF l d n o=[o.id]:=by
 cases n with
 | zero=>rfl
 | succ n=>simp only[chainF,h]
theorem chainF_next {l:List Ofc} {d:Int} {o q:Ofc} (n:Nat) (h:jdt l d o=some q):chainF l d (n+1) o=o.id::chainF l d n q:=by simp only[chainF,h]
theorem nextO_in {l:List Ofc} {d:Int} {o:Ofc} (h:inS o.frm o.til d=true):jdt l d o=none:=by unfold jdt; rw[if_pos h]
theorem nextO_nil {l:List Ofc} {d:Int} {o:Ofc} (h:o.nxt=[]):jdt l d o=none:=by unfold jdt; rw[h]; split <;> rfl
theorem nextO_cons {l:List Ofc} {d:Int} {o:Ofc} {x:Int} {r:List Int} (h:inS o.frm o.til d=false) (h':o.nxt=x::r):jdt l d o=jab l x:=by
 unfold jdt; rw[if_neg (by simp[h]),h']
theorem chainF_len (l:List Ofc) (d:Int):∀(n:Nat) (o:Ofc),(chainF l d n o).length<=n+1
 | 0,_=>by simp[chainF]
 | n+1,o=>by
  simp only[chainF];split
  ·simp
  ·have:=chainF_len l d n ‹_›;simp only[List.length_cons]; omega
structure Hld where
 id:Int
 kind:Int
 obj:Int
 cls:Str
 why:Str
 frm:Int
 til:Int
 deriving DecidableEq
abbrev Hld.cs (h:Hld):List V:=[vi h.id,vi h.kind,vi h.obj,.str h.cls,.str h.why,vi h.frm,vi h.til]
abbrev hlds (l:List Hld):V:= .slice 7 (l.map Hld.cs)
def Hld.Fit (h:Hld):Prop:=h.cls.length<=1048576/\h.why.length<=1048576
def FitsH (l:List Hld):Prop:=l.length<=1048576/\∀h∈l,h.Fit
def idB (n:Int):Bool:=decide (1<=n/\n<=1073741824)
def jcm (h:Hld):Int:=if h.kind≠3 then (if idB h.obj=false\/h.cls≠[] then 1 else 0) else if h.obj≠0 then 1 else if (ja5 h.cls).isNone=true then 3 else 0
def badH (h:Hld):Prop:=idB h.id=false\/h.kind<1\/3<h.kind\/jak h.frm h.til=false
instance (h:Hld):Decidable (badH h):=inferInstanceAs (Decidable (_\/_))
def prevH (l:List Hld) (i:Nat) (h:Hld):Bool:=match (if i=0 then none else l[i-1]?) with | some q=>decide (h.id<=q.id) | none=>false
def jep (l:List Hld) (i:Nat):Int:=match l[i]? with
 | none=>0
 | some h=>if badH h then 2 else if prevH l i h=true then 5 else if jcm h≠0 then jcm h else if name h.why=false then 4 else 0
def jdi (l:List Hld):Int×Int:=chk 64 l.length (jep l)
def jfw (os:List Ofc) (ps:List Plan) (h:Hld) (f:Fil) (d:Int):Bool:=
 if h.kind=1 then decide (h.obj=f.id) else if h.kind=2 then (chain os f.ofc d).any (fun y=>decide (h.obj=y)) else
 if h.kind=3 then decide ((jaw ps f d).2=0) && jbs (jaw ps f d).1 h.cls else false
def jh5 (os:List Ofc) (ps:List Plan) (h:Hld) (f:Fil) (d:Int):Bool:=inS h.frm h.til d && jfw os ps h f d
def jbr (os:List Ofc) (ps:List Plan) (l:List Hld) (f:Fil) (d:Int):List Int:=(l.filter fun h=>jh5 os ps h f d).map (·.id)
end Go.Arc
namespace Go.Arc
def bgn (n:Nat):Nat:=365*n+(n+3) / 4+(n+399) / 400-(n+99) / 100
def jbb (n:Nat):Bool:=decide (n % 4=0) && (decide (n % 100≠0) || decide (n % 400=0))
theorem up_step (n k:Nat) (hk:0<k):(n+1+(k-1)) / k=(n+(k-1)) / k+(if n % k=0 then 1 else 0):=by
 have e:n+1+(k-1)=n+k:=om
 rw[e,Nat.add_div_right _ hk];have hd:=Nat.div_add_mod n k;have hm:=Nat.mod_lt n hk;generalize hq:n / k=q at hd;generalize hr:n % k=r at hd hm;by_cases h0:r=0
 ·subst h0;have:n+(k-1)=(k-1)+k*q:=om
  rw[if_pos rfl,this,Nat.add_mul_div_left _ _ hk,Nat.div_eq_of_lt om];omega
 ·have:n+(k-1)=(r-1)+k*(q+1):=by rw[Nat.mul_add]; omega
  rw[if_neg h0,this,Nat.add_mul_div_left _ _ hk,Nat.div_eq_of_lt om];omega
theorem bgn_step (n:Nat):bgn (n+1)=bgn n+365+(if jbb n=true then 1 else 0):=by
 have a4:=up_step n 4 dc;have a100:=up_step n 100 dc;have a400:=up_step n 400 dc;have h1:(n+99) / 100<=n:=om
 have k1:n % 400=0->n % 100=0:=om
 have k2:n % 100=0->n % 4=0:=om
 simp only[Nat.reduceSub] at a4 a100 a400;unfold bgn jbb;rw[a4,a100,a400];generalize (n+3) / 4=x at *;generalize (n+99) / 100=y at *;generalize (n+399) / 400=z at *;by_cases c:n % 400=0
 ·have b:=k1 c;have a:=k2 b;simp[a,b,c]; omega
 ·by_cases b:n % 100=0
  ·have a:=k2 b;simp[a,b,c]; omega
  ·by_cases a:n % 4=0
   ·simp[a,b,c]; omega
   ·simp[a,b,c]; omega
theorem bgn_lt (n:Nat):bgn n<bgn (n+1):=by rw[bgn_step]; omega
theorem bgn_mono {a b:Nat} (h:a<=b):bgn a<=bgn b:=by
  induction b with
  | zero => have : a = 0 := om
            subst this; exact Nat.le_refl _
  | succ b ih=>
    by_cases e:a=b+1
    · subst e; exact Nat.le_refl _
    · have:=bgn_lt b;have:=ih om;omega
theorem bgn_le (n:Nat):bgn n<=366*n:=by
 induction n with
 | zero=>decide
 | succ n ih=>rw[bgn_step]; split <;> omega
theorem bgn_ge (n:Nat):365*n<=bgn n:=by
 have h1:(n+99) / 100<=(n+3) / 4+(n+399) / 400:=om
 unfold bgn; omega
def yrF:Nat->Nat->Nat->Nat
 | 0,n,_=>n
 | k+1,n,d=>if d<bgn (n+1) then n else yrF k (n+1) d
def yr (d:Nat):Nat:=yrF (d+1) 0 d
theorem yrF_at {d m:Nat} (h1:bgn m<=d) (h2:d<bgn (m+1)):∀(k n:Nat),n<=m->m<=n+k->yrF k n d=m
 | 0,n,a,b=>by simp only[yrF]; omega
 | k+1,n,a,b=>by
  simp only[yrF];split
  ·rename_i h;rcases Nat.lt_or_ge n m with hlt | hge
   ·have:=bgn_mono (show n+1<=m by omega); omega
   ·omega
  ·rename_i h;rcases Nat.lt_or_ge n m with hlt | hge
   ·exact yrF_at h1 h2 k (n+1) om om
   ·have:n=m:=om
    subst this; omega
theorem yr_at {d m:Nat} (h1:bgn m<=d) (h2:d<bgn (m+1)):yr d=m:=yrF_at h1 h2 _ 0 (Nat.zero_le _) (by have:=bgn_ge m; omega)
theorem yr_spec (d:Nat):bgn (yr d)<=d/\d<bgn (yr d+1):=by
 have:∃m,bgn m<=d/\d<bgn (m+1):=by
  induction d with
  | zero=>exact ⟨0,dc,dc⟩
  | succ d ih=>
   obtain ⟨m,h1,h2⟩:=ih;by_cases h:d+1<bgn (m+1)
   ·exact ⟨m,om,h⟩
   ·exact ⟨m+1,om,by have:=bgn_lt (m+1); omega⟩
 obtain ⟨m,h1,h2⟩:=this;rw[yr_at h1 h2];exact ⟨h1,h2⟩
def mlens:List Nat:=[31,28,31,30,31,30,31,31,30,31,30,31]
def lenM (l:Bool) (m:Nat):Nat:=if m=2/\l=true then 29 else (mlens[m-1]?).getD 0
def sumM (l:Bool):Nat->Nat
 | 0=>0
 | m+1=>if m=0 then 0 else sumM l m+lenM l m
theorem sumM_13 (l:Bool):sumM l 13=365+(if l=true then 1 else 0):=by cases l <;> decide
def monF (l:Bool):Nat->Nat->Nat->Nat×Nat
 | 0,m,d=>(m,d)
 | k+1,m,d=>if d<lenM l m then (m,d) else monF l k (m+1) (d-lenM l m)
def mon (l:Bool) (d:Nat):Nat×Nat:=monF l 12 1 d
def date (d:Nat):Nat×Nat×Nat:=(yr d,(mon (jbb (yr d)) (d-bgn (yr d))).1,(mon (jbb (yr d)) (d-bgn (yr d))).2)
theorem monF_spec (l:Bool):∀(k m d:Nat),1<=m->m+k=13->d<sumM l 13-sumM l m->1<=(monF l k m d).1/\(monF l k m d).1<=12/\(monF l k m d).2<lenM l (monF l k m d).1/\d+sumM l m=(monF l k m d).2+sumM l (monF l k m d).1
 | 0,m,d,_,hk,hd=>by
  have:m=13:=om
  subst this; omega
 | k+1,m,d,h1,hk,hd=>by
  simp only[monF];split
  ·rename_i h;exact ⟨h1,(by omega:m<=12),h,rfl⟩
  ·rename_i h;have hs:sumM l (m+1)=sumM l m+lenM l m:=by simp only[sumM]; rw[if_neg om]
   obtain ⟨a,b,c,e⟩:=monF_spec l k (m+1) (d-lenM l m) om om om;exact ⟨a,b,c,om⟩
theorem mon_spec {l:Bool} {d:Nat} (h:d<sumM l 13):1<=(mon l d).1/\(mon l d).1<=12/\(mon l d).2<lenM l (mon l d).1/\d=(mon l d).2+sumM l (mon l d).1:=by
 have:=monF_spec l 12 1 d (Nat.le_refl _) rfl (by simpa [sumM] using h);simpa [mon,sumM] using this
theorem in_year (d:Nat):d-bgn (yr d)<sumM (jbb (yr d)) 13:=by
 obtain ⟨h1,h2⟩:=yr_spec d;rw[sumM_13];rw[bgn_step] at h2;omega
def yearsN (d n:Nat):Nat:=
 let x:=date d
 if 2870<x.1+n then 1048575 else min (bgn (x.1+n)+sumM (jbb (x.1+n)) x.2.1+min (x.2.2+1) (lenM (jbb (x.1+n)) x.2.1)-1) 1048575
def yearEndN (d:Nat):Nat:=min (bgn (yr d+1)-1) 1048575
end Go.Arc
namespace Go.Arc
open Go.Ab
structure Rul where
 id:Int
 cls:Str
 trg:Str
 yrs:Int
 yend:Bool
 act:Int
 frm:Int
 til:Int
abbrev Rul.cs (r:Rul):List V:=[vi r.id,.str r.cls,.str r.trg,vi r.yrs,vb r.yend,vi r.act,vi r.frm,vi r.til]
abbrev ruls (l:List Rul):V:= .slice 8 (l.map Rul.cs)
def Rul.Fit (r:Rul):Prop:=r.cls.length<=1048576/\r.trg.length<=1048576
def FitsR (l:List Rul):Prop:=l.length<=1048576/\∀r∈l,r.Fit
def badR (r:Rul):Prop:=idB r.id=false\/r.yrs<0\/200<r.yrs\/r.act<1\/3<r.act\/jak r.frm r.til=false
instance (r:Rul):Decidable (badR r):=inferInstanceAs (Decidable (_\/_))
def jer (l:List Rul) (i:Nat) (r:Rul):Bool:=match (if i=0 then none else l[i-1]?) with | some q=>decide (r.id<=q.id) | none=>false
def jc7 (s:Str):Bool:=s.any fun b=>b == 34
def jd0 (r:Rul):Int:=
 if (ja5 r.cls).isNone=true then 3 else if name r.trg=false\/jc7 r.trg=true then 4 else
 if r.act=3/\(r.trg≠jfl\/r.yrs≠0\/r.yend=true) then 1 else 0
def jdh (l:List Rul) (i:Nat):Int:=match l[i]? with
 | none=>0
 | some r=>if badR r then 2 else if jer l i r=true then 5 else jd0 r
def jcb (l:List Rul):Int×Int:=chk 64 l.length (jdh l)
def goodR (l:List Rul):Bool:=(jcb l).2 == 0
def isIdR (n:Int) (r:Rul):Bool:=decide (r.id=n)
def findR (l:List Rul) (n:Int):Int:=ix (isIdR n) l
def jar (s:Str):Nat:=match ja5 s with | some l=>l.length | none=>0
def appB (s:Str) (d:Int) (r:Rul):Bool:=inS r.frm r.til d && jbs s r.cls
def jan (l:List Rul) (s:Str) (d:Int):Nat:=(l.filter (appB s d)).foldl (fun m r=>max m (jar r.cls)) 0
def jbt (l:List Rul) (s:Str) (d:Int):List Int:=(l.filter fun r=>appB s d r && (jar r.cls == jan l s d)).map (·.id)
def datB (a b:Int):Bool:=decide (0<=a) && decide (a<=b) && decide (b<=1048575)
def dueR (r:Rul) (a b:Int):Option Int:=if goodR [r]=true/\datB a b=true then
  some ((if r.yend=true then yearEndN (yearsN b.toNat r.yrs.toNat) else yearsN b.toNat r.yrs.toNat:Nat):Int) else none
abbrev dueV (r:Rul) (a b:Int):V:=match dueR r a b with
 | some d=> .tup [vi d,vi 0]
 | none=> .tup [vi 0,vi 1]
structure Clk where
 id:Int
 role:Int
 name:Str
 frm:Int
 til:Int
structure Sel where
 smp:Int
 day:Int
 fls:List Int
structure Prp where
 id:Int
 day:Int
 clk:Int
 fls:List Int
 wdr:Int
structure Apv where
 prp:Int
 day:Int
 clk:Int
structure Crt where
 num:Int
 prp:Int
 day:Int
 fls:List Int
 bef:Str
 dig:Str
structure Dep where
 fil:Int
 day:Int
abbrev Clk.cs (c:Clk):List V:=[vi c.id,vi c.role,.str c.name,vi c.frm,vi c.til]
abbrev Sel.cs (s:Sel):List V:=[vi s.smp,vi s.day,ints s.fls]
abbrev Prp.cs (p:Prp):List V:=[vi p.id,vi p.day,vi p.clk,ints p.fls,vi p.wdr]
abbrev Apv.cs (a:Apv):List V:=[vi a.prp,vi a.day,vi a.clk]
abbrev Crt.cs (c:Crt):List V:=[vi c.num,vi c.prp,vi c.day,ints c.fls,.str c.bef,.str c.dig]
abbrev Dep.cs (d:Dep):List V:=[vi d.fil,vi d.day]
abbrev clks (l:List Clk):V:= .slice 5 (l.map Clk.cs)
abbrev sels (l:List Sel):V:= .slice 3 (l.map Sel.cs)
abbrev prps (l:List Prp):V:= .slice 5 (l.map Prp.cs)
abbrev apvs (l:List Apv):V:= .slice 3 (l.map Apv.cs)
abbrev crts (l:List Crt):V:= .slice 6 (l.map Crt.cs)
abbrev deps (l:List Dep):V:= .slice 2 (l.map Dep.cs)
structure Rgs where
 ofs:List Ofc
 pls:List Plan
 fls:List Fil
 rls:List Rul
 hls:List Hld
 cks:List Clk
 sls:List Sel
 pps:List Prp
 aps:List Apv
 crs:List Crt
 dps:List Dep
 chg:Int
abbrev Rgs.cs (r:Rgs):List V:=[ofcs r.ofs,jau r.pls,fils r.fls,ruls r.rls,hlds r.hls,clks r.cks,sels r.sls,prps r.pps,apvs r.aps,crts r.crs,deps r.dps,vi r.chg]
structure Rgs.Fit (r:Rgs):Prop where
 ofs:jdm r.ofs
 pls:Fits r.pls
 fls:FitsF r.fls
 rls:FitsR r.rls
 hls:FitsH r.hls
 cks:r.cks.length<=1048576/\∀c∈r.cks,c.name.length<=1048576
 sls:r.sls.length<=1048576/\∀s∈r.sls,s.fls.length<=1048576
 pps:r.pps.length<=1048576/\∀p∈r.pps,p.fls.length<=1048576
 aps:r.aps.length<=1048576
 crs:r.crs.length<=1048576/\∀c∈r.crs,c.fls.length<=1048576/\c.bef.length<=1048576/\c.dig.length<=1048576
 dps:r.dps.length<=1048576
def dayG (d:Int):Bool:=decide (0<=d) && decide (d<=1048575)
def hasF (l:List Fil) (n:Int):Bool:=l.any fun f=>decide (f.id=n)
def risI:List Int->Bool
 | a::b::r=>decide (a<b) && risI (b::r)
 | _=>true
structure Elm where
 id:Int
 day:Int
 fls:List Int
 gone:Bool
abbrev Elm.cs (x:Elm):List V:=[vi x.id,vi x.day,ints x.fls,vb x.gone]
abbrev elms (l:List Elm):V:= .slice 4 (l.map Elm.cs)
def Sel.el (s:Sel):Elm:=⟨s.smp,s.day,s.fls,false⟩
def Crt.el (c:Crt):Elm:=⟨c.num,c.day,c.fls,true⟩
def Dep.el (d:Dep):Elm:=⟨1,d.day,[d.fil],true⟩
def jad (l:List Elm) (n:Int):Bool:=l.any fun x=>x.gone && x.fls.any fun f=>decide (f=n)
def elmE (fs:List Fil) (pre:List Elm) (last:Option Elm) (x:Elm):Int:=
 if idB x.id=false\/dayG x.day=false then 2 else if x.fls.all (hasF fs)=false then 7 else
 if risI x.fls=false\/(match last with | some q=>decide (x.day<q.day) | none=>false)=true then 5 else
 if x.gone=true/\x.fls.any (jad pre)=true then 6 else 0
def elsE (fs:List Fil):List Elm->Option Elm->List Elm->Int
 | _,_,[]=>0
 | pre,last,x::r=>if elmE fs pre last x≠0 then elmE fs pre last x else elsE fs (pre++[x]) (some x) r
def jb0 (fs:List Fil) (pre l:List Elm):Int:=if 1024<l.length then 8 else elsE fs pre none l
def fstE:List Int->Int
 | []=>0
 | e::r=>if e≠0 then e else fstE r
def selE (r:Rgs):List Elm:=r.sls.map Sel.el
def crtE (r:Rgs):List Elm:=r.crs.map Crt.el
def depE (r:Rgs):List Elm:=r.dps.map Dep.el
def checkG (r:Rgs):Int:=fstE [(jcl r.ofs).2,(check r.pls).2,(jdq r.ofs r.pls r.fls).2,(jcb r.rls).2,(jdi r.hls).2,
 jb0 r.fls [] (selE r),jb0 r.fls (selE r) (crtE r),jb0 r.fls (selE r++crtE r) (depE r)]
structure Vdt where
 kind:Int
 fil:Int
 day:Int
 rule:Int
 due:Int
 hls:List Int
abbrev Vdt.cs (v:Vdt):List V:=[vi v.kind,vi v.fil,vi v.day,vi v.rule,vi v.due,ints v.hls]
def jaf (r:Rgs) (f:Fil) (d:Int):List Rul:=if (jaw r.pls f d).2=0 then r.rls.filter fun q=>appB (jaw r.pls f d).1 d q && (jar q.cls == jan r.rls (jaw r.pls f d).1 d) else []
def dueF (f:Fil) (d:Int) (q:Rul):Option Int:=(trig f q.trg d).bind fun t=>dueR q t.1 t.2
def jdk (f:Fil) (d:Int):List Rul->Int×Int->Int×Int
 | [],x=>x
 | q::r,x=>jdk f d r (match dueF f d q with | some t=>if x.1<t then (t,q.id) else x | none=>x)
def jd7 (d:Int) (f:Fil) (day:Int) (l:List Int):Bool:=decide (day<=d) && l.any fun n=>decide (n=f.id)
def gone1 (r:Rgs) (f:Fil) (d:Int):Bool:=r.crs.any fun c=>jd7 d f c.day c.fls
def gone2 (r:Rgs) (f:Fil) (d:Int):Bool:=r.dps.any fun c=>jd7 d f c.day [c.fil]
def selB (r:Rgs) (f:Fil) (d:Int):Bool:=r.sls.any fun s=>jd7 d f s.day s.fls
def je7 (q:Rul):Bool:=decide (q.act=3)
def jf9 (q:Rul):Bool:=decide (q.act=2)
def jcc (f:Fil) (d:Int) (q:Rul):Bool:=(trig f q.trg d).isNone
def vdt (r:Rgs) (f:Fil) (d:Int):Vdt:=
 let l:=jaf r f d
 let x:=jdk f d l (-1,0)
 let hs:=jbr r.ofs r.pls r.hls f d
 if state f d=0 then ⟨0,f.id,d,0,0,[]⟩ else if gone1 r f d=true then ⟨1,f.id,d,0,0,[]⟩ else if gone2 r f d=true then ⟨2,f.id,d,0,0,[]⟩ else
 if l=[] then ⟨0,f.id,d,0,0,[]⟩ else if state f d=1 then ⟨3,f.id,d,0,0,[]⟩ else
 match l.find? je7 with
 | some q=>⟨4,f.id,d,q.id,0,[]⟩
 | none=>match l.find? (jcc f d) with
  | some q=>⟨5,f.id,d,q.id,0,[]⟩
  | none=>if d<=x.1 then ⟨6,f.id,d,x.2,x.1,[]⟩ else if hs≠[] then ⟨7,f.id,d,x.2,x.1,hs⟩ else
   if l.any jf9=true\/selB r f d=true then ⟨9,f.id,d,x.2,x.1,[]⟩ else ⟨8,f.id,d,x.2,x.1,[]⟩
theorem prevH_0 (l:List Hld) (h:Hld):prevH l 0 h=false:=by unfold prevH; rw[if_pos rfl]
theorem prevH_s {l:List Hld} {i:Nat} {h q:Hld} (h0:i≠0) (hq:l[i-1]? = some q):prevH l i h=decide (h.id<=q.id):=by unfold prevH; rw[if_neg h0,hq]
theorem fmax_ge (f:Rul->Nat):∀(l:List Rul) (m:Nat),m<=l.foldl (fun m r=>max m (f r)) m/\∀r∈l,f r<=l.foldl (fun m r=>max m (f r)) m
 | [],m=>⟨Nat.le_refl _,fun r hr=>nomatch hr⟩
 | x::l,m=>by
  obtain ⟨h1,h2⟩:=fmax_ge f l (max m (f x));rw[List.foldl_cons];refine ⟨Nat.le_trans (Nat.le_max_left _ _) h1,fun r hr=> ?_⟩;rcases List.mem_cons.1 hr with rfl | hr
  ·exact Nat.le_trans (Nat.le_max_right _ _) h1
  ·exact h2 r hr
theorem depth_le {l:List Rul} {s:Str} {d:Int} {r:Rul} (hr:r∈l) (ha:appB s d r=true):jar r.cls<=jan l s d:=
 (fmax_ge (fun r=>jar r.cls) (l.filter (appB s d)) 0).2 r (List.mem_filter.2 ⟨hr,ha⟩)
theorem jlq {l:List Rul} {s:Str} {d:Int} {x:Rul} (ha:appB s d x=false):jan (l++[x]) s d=jan l s d:=by
 unfold jan;rw[List.filter_append];simp[ha]
theorem jgv {l:List Rul} {s:Str} {d:Int} {x:Rul} (ha:appB s d x=true):jan (l++[x]) s d=max (jan l s d) (jar x.cls):=by
 unfold jan;rw[List.filter_append];simp[ha,List.foldl_append]
def deepR (l:List Rul) (s:Str) (d:Int) (n:Nat):List Int:=(l.filter fun r=>appB s d r && (jar r.cls == n)).map (·.id)
theorem jhu (l:List Rul) (s:Str) (d:Int):jbt l s d=deepR l s d (jan l s d):=rfl
theorem jlx (l:List Rul) (s:Str) (d:Int) (n:Nat) (x:Rul):deepR (l++[x]) s d n=deepR l s d n++(if appB s d x=true/\jar x.cls=n then [x.id] else []):=by
 unfold deepR;rw[List.filter_append,List.map_append];congr 1;by_cases h:appB s d x=true/\jar x.cls=n
 ·rw[if_pos h]; simp[h.1,h.2]
 ·rw[if_neg h];cases h1:appB s d x
  ·simp[h1]
  ·have h2:¬jar x.cls=n:=fun e=>h ⟨h1,e⟩;simp[h1,h2]
theorem deepR_none {l:List Rul} {s:Str} {d:Int} {n:Nat} (h:jan l s d<n):deepR l s d n=[]:=by
 unfold deepR;rw[List.map_eq_nil_iff,List.filter_eq_nil_iff];intro r hr hc;simp only[Bool.and_eq_true,beq_iff_eq] at hc;have:=depth_le hr hc.1;omega
theorem apply_no {l:List Rul} {s:Str} {d:Int} {x:Rul} (ha:appB s d x=false):jbt (l++[x]) s d=jbt l s d:=by
 rw[jhu,jhu,jlq ha,jlx,if_neg (by simp[ha]),List.append_nil]
theorem apply_gt {l:List Rul} {s:Str} {d:Int} {x:Rul} (ha:appB s d x=true) (h:jan l s d<jar x.cls):jbt (l++[x]) s d=[x.id]:=by
 rw[jhu,jgv ha,Nat.max_eq_right om,jlx,if_pos ⟨ha,rfl⟩,deepR_none h,List.nil_append]
theorem apply_eq {l:List Rul} {s:Str} {d:Int} {x:Rul} (ha:appB s d x=true) (h:jar x.cls=jan l s d):jbt (l++[x]) s d=jbt l s d++[x.id]:=by
 rw[jhu,jhu,jgv ha,Nat.max_eq_left om,jlx,if_pos ⟨ha,h⟩]
theorem apply_lt {l:List Rul} {s:Str} {d:Int} {x:Rul} (ha:appB s d x=true) (h:jar x.cls<jan l s d):jbt (l++[x]) s d=jbt l s d:=by
 rw[jhu,jhu,jgv ha,Nat.max_eq_left om,jlx,if_neg om,List.append_nil]
theorem jlh {l:List Rul} {k:Nat} {x:Rul} (h:l[k]? = some x):l.take (k+1)=l.take k++[x]:=by
 obtain ⟨hlt,rfl⟩:=gsi.1 h;rw[List.take_succ_eq_append_getElem hlt]
def xorU (a b:Int):Int:=bitF .xor .u64 a b
def andU (a b:Int):Int:=bitF .and .u64 a b
def orU (a b:Int):Int:=bitF .or .u64 a b
def notU (a:Int):Int:=notF .u64 a
def rotU (x n:Int):Int:=orU (shF true .u64 x n) (shF false .u64 x (64-n))
def atU (l:List Int) (i:Nat):Int:=l.getD i 0
def rotL:List Int:=[0,1,62,28,27,36,44,6,55,20,3,10,43,25,39,41,45,15,21,8,18,2,61,56,14]
def conL:List Int:=[1,32898,9223372036854808714,9223372039002292224,32907,2147483649,9223372039002292353,9223372036854808585,138,136,2147516425,2147483658,2147516555,9223372036854775947,9223372036854808713,9223372036854808579,9223372036854808578,9223372036854775936,32778,9223372039002259466,9223372039002292353,9223372036854808704,2147483649,9223372039002292232]
def jbl (a:List Int) (k:Nat):List Int:=(List.range k).foldl (fun s i=>s.set (i % 5) (xorU (atU s (i % 5)) (atU a i))) (List.replicate 5 0)
def jft (a:List Int) (i:Nat):Int:=xorU (xorU (atU a i) (atU (jbl a 25) ((i+4) % 5))) (rotU (atU (jbl a 25) ((i+1) % 5)) 1)
def posF (i:Nat):Nat:=i / 5+5*((2*(i % 5)+3*(i / 5)) % 5)
def layF (g:Nat->Nat) (p:Nat->Nat) (v:Nat->Int) (k:Nat) (b:List Int):List Int:=(List.range k).foldl (fun b j=>b.set (p (g j)) (v (g j))) b
def tr5 (j:Nat):Nat:=j / 5+5*(j % 5)
def bF (a:List Int):List Int:=layF id posF (fun i=>rotU (jft a i) (atU rotL i)) 25 (List.replicate 25 0)
def chiF (b:List Int) (i:Nat):Int:=xorU (atU b i) (andU (notU (atU b ((i % 5+1) % 5+5*(i / 5)))) (atU b ((i % 5+2) % 5+5*(i / 5))))
def outF (b:List Int):List Int:=layF id id (chiF b) 25 (List.replicate 25 0)
def jel (a:List Int) (c:Int):List Int:=(outF (bF a)).set 0 (xorU (atU (outF (bF a)) 0) c)
def jf8 (a:List Int):List Int:=conL.foldl jel a
def eatF (s:List Int) (d:Str) (k:Nat):List Int:=(List.range k).foldl (fun s i=>s.set (i / 8) (xorU (atU s (i / 8)) (shF true .u64 ((d.getD i 0).toNat:Int) (8*((i % 8:Nat):Int))))) s
def jbf (s:List Int) (d:Str):List Int:=jf8 (eatF s d 136)
attribute [irreducible] jf8 jbf
def absF:Nat->List Int->Str->List Int×Str
 | 0,s,d=>(s,d)
 | n+1,s,d=>if 136<=d.length then absF n (jbf s (d.take 136)) (d.drop 136) else (s,d)
def orB (b:UInt8):UInt8:=UInt8.ofNat (bitF .or .u8 (b.toNat:Int) 128).toNat
def jd1 (l:Str):Str:=l.set (l.length-1) (orB (l.getD (l.length-1) 0))
def padF (d:Str):Str:=jd1 (d++6::List.replicate (135-d.length) 0)
def digF (s:List Int) (k:Nat):Str:=(List.range k).map fun i=>UInt8.ofNat (IntKind.wrap .u8 (shF false .u64 (atU s (i / 8)) (8*((i % 8:Nat):Int)))).toNat
def jao:List Int:=List.replicate 25 0
def sumD (d:Str):Str:=digF (jbf (absF d.length jao d).1 (padF (absF d.length jao d).2)) 32
theorem jmi (d:Str):(sumD d).length=32:=by
 unfold sumD digF;rw[List.length_map,List.length_range]
theorem absF_len:∀(n:Nat) (s:List Int) (d:Str),d.length<=n->(absF n s d).2.length<136
 | 0,s,d,h=>by
  show d.length<136
  omega
 | n+1,s,d,h=>by
  unfold absF;by_cases h1:136<=d.length
  ·rw[if_pos h1];exact absF_len n _ _ (by rw[List.length_drop]; omega)
  ·rw[if_neg h1]
   show d.length<136
   omega
theorem jhf (g p:Nat->Nat) (v:Nat->Int) (k:Nat) (b:List Int):(layF g p v k b).length=b.length:=by
 unfold layF
 induction List.range k generalizing b with
 | nil=>rfl
 | cons j l ih=>rw[List.foldl_cons,ih,List.length_set]
theorem jhc (g p:Nat->Nat) (v:Nat->Int) (k:Nat) (b:List Int):layF g p v (k+1) b=(layF g p v k b).set (p (g k)) (v (g k)):=by
 unfold layF;exact zdu
theorem jns (a:List Int) (k:Nat):jbl a (k+1)=(jbl a k).set (k % 5) (xorU (atU (jbl a k) (k % 5)) (atU a k)):=by
 unfold jbl;exact zdu
theorem jm2 (a:List Int) (k:Nat):(jbl a k).length=5:=by
 induction k with
 | zero=>rfl
 | succ k ih=>rw[jns,List.length_set,ih]
theorem jpe (s:List Int) (d:Str) (k:Nat):eatF s d (k+1)=(eatF s d k).set (k / 8) (xorU (atU (eatF s d k) (k / 8)) (shF true .u64 ((d.getD k 0).toNat:Int) (8*((k % 8:Nat):Int)))):=by
 unfold eatF;exact zdu
theorem eatF_len (s:List Int) (d:Str) (k:Nat):(eatF s d k).length=s.length:=by
 induction k with
 | zero=>rfl
 | succ k ih=>rw[jpe,List.length_set,ih]
theorem bF_tr (v:Nat->Int):layF tr5 posF v 25 (List.replicate 25 0)=layF id posF v 25 (List.replicate 25 0):=kr
theorem jmo (g:Nat->Nat) (v:Nat->Int) (b:List Int) {i:Nat} (hi:i<b.length):∀k:Nat,((∃j,j<k/\g j=i)->(layF g id v k b)[i]? = some (v i))/\((∀j,j<k->g j≠i)->(layF g id v k b)[i]? = b[i]?)
 | 0=>⟨fun ⟨j,h,_⟩=>absurd h (Nat.not_lt_zero j),fun _=>rfl⟩
 | k+1=>by
  obtain ⟨h1,h2⟩:=jmo g v b hi k;rw[jhc,show id (g k)=g k from rfl];have hl:i<(layF g id v k b).length:=by rw[jhf]; exact hi
  refine ⟨fun ⟨j,hj,he⟩=> ?_,fun h=> ?_⟩
  ·by_cases hg:g k=i
   ·subst hg;rw[List.getElem?_set_self hl]
   ·rw[List.getElem?_set_ne (fun e=>hg e)];refine h1 ⟨j,?_,he⟩;rcases Nat.lt_or_ge j k with h | h
    ·exact h
    ·exact absurd (by rw[<- he,show j=k by omega]) hg
  ·rw[List.getElem?_set_ne (fun e=>h k (Nat.lt_succ_self k) e)];exact h2 fun j hj=>h j (Nat.lt_succ_of_lt hj)
theorem layF_map (g:Nat->Nat) (v:Nat->Int) (b:List Int) (hb:b.length=25) (hg:∀i,i<25->∃j,j<25/\g j=i):layF g id v 25 b=(List.range 25).map v:=by
 apply List.ext_getElem?;intro i;by_cases hi:i<25
 ·rw[(jmo g v b om 25).1 (hg i hi),List.getElem?_map,List.getElem?_range hi];rfl
 ·rw[List.getElem?_eq_none (by rw[jhf]; omega),List.getElem?_eq_none (by rw[List.length_map,List.length_range]; omega)]
theorem outF_tr (v:Nat->Int) (b:List Int) (hb:b.length=25):layF tr5 id v 25 b=layF id id v 25 (List.replicate 25 0):=by
 rw[layF_map tr5 v b hb (fun i hi=>⟨tr5 i,by unfold tr5; omega,by unfold tr5; omega⟩),layF_map id v _ List.length_replicate (fun i hi=>⟨i,hi,rfl⟩)]
theorem jnv (a:List Int) (c:Int):(jel a c).length=25:=by
 rw[jel,List.length_set,outF,jhf,List.length_replicate]
theorem jp7:∀(l:List Int) (a:List Int),a.length=25->(l.foldl jel a).length=25
 | [],a,h=>h
 | c::l,a,_=>by
  have hr:=jnv a c;rw[List.foldl_cons];exact jp7 l (jel a c) hr
theorem permF_len (a:List Int) (h:a.length=25):(jf8 a).length=25:=by
 rw[jf8];exact jp7 conL a h
theorem jk3 (s:List Int) (d:Str) (h:s.length=25):(jbf s d).length=25:=by
 have he:(eatF s d 136).length=25:=(eatF_len s d 136).trans h;rw[jbf];exact permF_len (eatF s d 136) he
theorem jpr:∀(n:Nat) (s:List Int) (d:Str),s.length=25->(absF n s d).1.length=25
 | 0,s,d,h=>h
 | n+1,s,d,h=>by
  have hb:=jk3 s (d.take 136) h;rw[absF];by_cases h1:136<=d.length
  ·rw[if_pos h1];exact jpr n (jbf s (d.take 136)) (d.drop 136) hb
  ·rw[if_neg h1];exact h
theorem padF_len (d:Str) (h:d.length<136):(padF d).length=136:=by
 unfold padF jd1;rw[List.length_set,List.length_append,List.length_cons,List.length_replicate];omega
def fillN (n:Nat):Nat:=135-n % 136
def je8 (d:Str):Str:=jd1 (d++6::List.replicate (fillN d.length) 0)
def jg3:Nat->List Int->Str->List Int
 | 0,s,_=>s
 | n+1,s,d=>jg3 n (jbf s (d.take 136)) (d.drop 136)
theorem markL_app (a b:Str) (h:b≠[]):jd1 (a++b)=a++jd1 b:=by
 have hb:0<b.length:=List.length_pos_iff.2 h;unfold jd1;rw[List.length_append,show a.length+b.length-1=a.length+(b.length-1) by omega,List.set_append_right _ _ om,show a.length+(b.length-1)-a.length=b.length-1 by omega];congr 3;simp only[List.getD_eq_getElem?_getD];rw[List.getElem?_append_right om,show a.length+(b.length-1)-a.length=b.length-1 by omega]
theorem jrj (s:List Int) (d:Str) (h:d.length<136):jg3 (d.length / 136+1) s (je8 d)=jbf s (padF d):=by
 have e1:d.length / 136=0:=om
 have e2:je8 d=padF d:=by
  unfold je8 padF fillN;rw[Nat.mod_eq_of_lt om]
 have e3:(padF d).length=136:=padF_len d om;rw[e1,e2,jg3,jg3,List.take_of_length_le om]
theorem blksF_full:∀(n:Nat) (s:List Int) (d:Str),d.length<=n->jg3 (d.length / 136+1) s (je8 d)=jbf (absF n s d).1 (padF (absF n s d).2)
 | 0,s,d,h=>by
  rw[jrj s d om,absF]
 | n+1,s,d,h=>by
  by_cases h1:136<=d.length
  ·rw[absF,if_pos h1];have ih:=blksF_full n (jbf s (d.take 136)) (d.drop 136) (by rw[List.length_drop]; omega);rw[<- ih];have e1:d.length / 136+1=(d.drop 136).length / 136+1+1:=by rw[List.length_drop]; omega
   have e2:je8 d=d.take 136++je8 (d.drop 136):=by
    have h3:fillN (d.drop 136).length=fillN d.length:=by
     unfold fillN;rw[List.length_drop];omega
    have h4:je8 (d.drop 136)=jd1 (d.drop 136++6::List.replicate (fillN d.length) 0):=by rw[je8,h3]
    rw[h4,<- markL_app _ _ sm,<- List.append_assoc,List.take_append_drop,je8]
   have e3:(d.take 136).length=136:=by rw[List.length_take]; omega
   rw[e1,e2,jg3,List.take_left' e3,List.drop_left' e3]
  ·rw[absF,if_neg h1,jrj s d om]
theorem sumD_full (d:Str):sumD d=digF (jg3 (d.length / 136+1) jao (je8 d)) 32:=by
 unfold sumD;rw[blksF_full d.length jao d (Nat.le_refl _)]
theorem jqx {os:List Ofc} {ps:List Plan} {l:List Fil} {i:Nat} {f:Fil} (hi:l[i]? = some f) (h:jd8 os ps l i=0):¬badF f/\je5 l i f=false/\name f.title=true/\jf3 os f.ofc f.opn=true/\jgk ps f=false/\jde f=0:=by
 by_cases h1:badF f
 ·rw[jfi hi h1] at h; cases h
 rw[faultF_r hi h1] at h;cases h2:je5 l i f
 ·rw[h2,if_neg sm] at h;cases h3:name f.title
  ·rw[h3,if_pos rfl] at h; cases h
  ·rw[h3,if_neg sm] at h;cases h4:jf3 os f.ofc f.opn
   ·rw[h4,if_pos rfl] at h; cases h
   ·rw[h4,if_neg sm] at h;cases h5:jgk ps f
    ·rw[h5,if_neg sm] at h;exact ⟨h1,rfl,rfl,rfl,rfl,h⟩
    ·rw[h5,if_pos rfl] at h; cases h
 ·rw[h2,if_pos rfl] at h; cases h
theorem notesErr_zero {f:Fil} (h:jde f=0):¬ 16<f.nts.length/\(f.nts.any fun n=> !jcf n.name)=false/\(f.nts.any fun n=> !jd6 f n)=false/\jgc f.nts=false:=by
 by_cases h1:16<f.nts.length
 ·rw[jo5 h1] at h; cases h
 cases h2:f.nts.any fun n=> !jcf n.name
 ·cases h3:f.nts.any fun n=> !jd6 f n
  ·rw[jo4 h1 h2 h3] at h;cases h4:jgc f.nts
   ·exact ⟨h1,rfl,rfl,rfl⟩
   ·rw[h4,if_pos rfl] at h; cases h
  ·rw[jlo h1 h2 h3] at h; cases h
 ·rw[jo6 h1 h2] at h; cases h
theorem rul_step {l:List Rul} (h:goodR l=true) {i:Nat} {q r:Rul} (hq:l[i]? = some q) (hr:l[i+1]? = some r):q.id<r.id:=by
 have hz:(chk 64 l.length (jdh l)).2=0:=by
  have:=h;unfold goodR jcb at this;exact eq_of_beq this
 obtain ⟨-,ha⟩:=jfj hz;have hlt:=(gsi.1 hr).1;have h0:=ha (i+1) hlt;unfold jdh at h0;rw[hr] at h0;simp only at h0;by_cases hb:badR r
 ·rw[if_pos hb] at h0; cases h0
 ·rw[if_neg hb] at h0;by_cases hp:jer l (i+1) r=true
  ·rw[if_pos hp] at h0; cases h0
  ·unfold jer at hp;rw[if_neg (Nat.succ_ne_zero i),Nat.add_sub_cancel,hq] at hp;simp only[decide_eq_true_eq] at hp;omega
theorem rul_asc {l:List Rul} (h:goodR l=true) {i:Nat} {q:Rul} (hq:l[i]? = some q):∀(n:Nat) {r:Rul},l[i+1+n]? = some r->q.id<r.id
 | 0,r,hr=>rul_step h hq hr
 | n+1,r,hr=>by
  have hlt:=(gsi.1 hr).1;have hlt2:i+1+n<l.length:=om
  have h1:=rul_asc h hq n (gge hlt2);have h2:=rul_step h (gge hlt2) hr;omega
theorem findR_at {l:List Rul} (h:goodR l=true) {i:Nat} {q:Rul} (hq:l[i]? = some q):findR l q.id=i:=by
 refine (jg0 (k:=i) (fun e he=> ?_) hq (by simp[isIdR])).symm;obtain ⟨j,hj⟩:=List.getElem?_of_mem he
 have hji:j<i:=by
  have:=(gsi.1 hj).1;rw[List.length_take] at this;omega
 rw[List.getElem?_take_of_lt hji] at hj;have:=rul_asc h hj (i-(j+1)) (r:=q) (by rw[show j+1+(i-(j+1))=i by omega]; exact hq);unfold isIdR;exact decide_eq_false om
theorem findR_mem {l:List Rul} (h:goodR l=true) {q:Rul} (hq:q∈l):∃i:Nat,i<l.length/\l[i]? = some q/\findR l q.id=i:=by
 obtain ⟨i,hi⟩:=List.getElem?_of_mem hq;exact ⟨i,(gsi.1 hi).1,hi,findR_at h hi⟩
theorem rulesF_mem {r:Rgs} {f:Fil} {d:Int} {q:Rul} (h:q∈jaf r f d):q∈r.rls:=by
 unfold jaf at h;split at h
 ·exact (List.mem_filter.1 h).1
 ·cases h
theorem rulesF_len (r:Rgs) (f:Fil) (d:Int):(jaf r f d).length<=r.rls.length:=by
 unfold jaf;split
 ·exact List.length_filter_le _ _
 ·exact Nat.zero_le _
theorem rulesF_ids {r:Rgs} {f:Fil} {d:Int} (h:(jaw r.pls f d).2=0):jbt r.rls (jaw r.pls f d).1 d=(jaf r f d).map (·.id):=by
 unfold jaf jbt;rw[if_pos h]
theorem rulesF_bad {r:Rgs} {f:Fil} {d:Int} (h:(jaw r.pls f d).2≠0):jaf r f d=[]:=if_neg h
def jf7 (f:Fil) (d:Int) (x:Int×Int) (q:Rul):Int×Int:=match dueF f d q with
 | some t=>if x.1<t then (t,q.id) else x
 | none=>x
theorem jo9 (f:Fil) (d:Int):∀(l:List Rul) (x:Int×Int),jdk f d l x=l.foldl (jf7 f d) x
 | [],_=>rfl
 | _::r,_=>jo9 f d r _
theorem lateF_snoc (f:Fil) (d:Int) {l:List Rul} {k:Nat} {q:Rul} (x:Int×Int) (h:l[k]? = some q):jdk f d (l.take (k+1)) x=jf7 f d (jdk f d (l.take k) x) q:=by
 rw[jlh h,jo9,jo9,List.foldl_append];rfl
theorem stepL_none {f:Fil} {d:Int} {x:Int×Int} {q:Rul} (h:dueF f d q=none):jf7 f d x q=x:=by unfold jf7; rw[h]
theorem stepL_lt {f:Fil} {d:Int} {x:Int×Int} {q:Rul} {t:Int} (h:dueF f d q=some t) (ht:x.1<t):jf7 f d x q=(t,q.id):=by unfold jf7; rw[h]; exact if_pos ht
theorem stepL_ge {f:Fil} {d:Int} {x:Int×Int} {q:Rul} {t:Int} (h:dueF f d q=some t) (ht:¬x.1<t):jf7 f d x q=x:=by unfold jf7; rw[h]; exact if_neg ht
theorem dueF_no {f:Fil} {d:Int} {q:Rul} (h:trig f q.trg d=none):dueF f d q=none:=by unfold dueF; rw[h]; rfl
theorem dueF_yes {f:Fil} {d:Int} {q:Rul} {a b:Int} (h:trig f q.trg d=some (a,b)):dueF f d q=dueR q a b:=by unfold dueF; rw[h]; rfl
def jg4 (l:List Int) (i:Nat):Bool:=match l[i-1]?,l[i]? with
 | some x,some y=>decide (0<i) && decide (y<x)
 | _,_=>false
def srtI (l:List Int):Bool:= !(List.range l.length).any (jg4 l)
theorem backI_s {l:List Int} {i:Nat} (h0:i≠0) {x y:Int} (hx:l[i-1]? = some x) (hy:l[i]? = some y):jg4 l i=decide (y<x):=by
 unfold jg4; rw[hx,hy]; simp; omega
theorem backI_0 (l:List Int):jg4 l 0=false:=by
 unfold jg4;split
 ·rfl
 ·rfl
theorem srtI_at {l:List Int} {i:Nat} (hi:i<l.length) (h:jg4 l i=true):srtI l=false:=by
 unfold srtI;rw[show (List.range l.length).any (jg4 l)=true from List.any_eq_true.2 ⟨i,List.mem_range.2 hi,h⟩]; rfl
theorem srtI_end {l:List Int} (h:∀j,j<l.length->jg4 l j=false):srtI l=true:=by
 unfold srtI
 rw[show (List.range l.length).any (jg4 l)=false from by
  rw[List.any_eq_false];intro j hj
  rw[h j (List.mem_range.1 hj)]; decide]
 rfl
theorem srtI_iff (l:List Int):srtI l=true↔∀(i:Nat) x y,l[i]? = some x->l[i+1]? = some y->x<=y:=by
 constructor
 ·intro h i x y hx hy;by_cases hlt:y<x
  ·have hb:jg4 l (i+1)=true:=by rw[backI_s (Nat.succ_ne_zero i) zej hy]; simpa using hlt
   rw[srtI_at (gsi.1 hy).1 hb] at h;cases h
  ·omega
 ·intro h;refine srtI_end fun j hj=> ?_;cases j with
  | zero=>exact backI_0 l
  | succ i=>
   have hi:i<l.length:=om
   rw[backI_s (Nat.succ_ne_zero i) (x:=l[i]) (y:=l[i+1]) (by simp[hi]) (gge hj)];have:=h i _ _ (gge hi) (gge hj);exact zck
theorem jfh:∀l:List Int,risI l=true↔∀(i:Nat) x y,l[i]? = some x->l[i+1]? = some y->x<y
 | []=>by simp[risI]
 | [a]=>by simp[risI]
 | a::b::r=>by
  have ih:=jfh (b::r);unfold risI;simp only[Bool.and_eq_true,decide_eq_true_eq];rw[ih];constructor
  ·rintro ⟨h1,h2⟩ i x y hx hy;cases i with
   | zero=>simp at hx hy; omega
   | succ i=>exact h2 i x y (by simpa using hx) (by simpa using hy)
  ·intro h;exact ⟨h 0 a b rfl rfl,fun i x y hx hy=>h (i+1) x y zej (by simpa using hy)⟩
def stpCI (K:List Int) (x:Int):List Int:=if K.getLast? = some x then K else K++[x]
def jaj (l:List Int):List Int:=l.foldl stpCI []
theorem stpCI_last (K:List Int) (x:Int):(stpCI K x).getLast? = some x:=by
 unfold stpCI;split
 ·assumption
 ·simp
theorem stpCI_len (K:List Int) (x:Int):(stpCI K x).length<=K.length+1:=by
 unfold stpCI;split
 ·omega
 ·simp
theorem jli {l:List Int} {k:Nat} {x:Int} (h:l[k]? = some x):l.take (k+1)=l.take k++[x]:=by
 obtain ⟨hlt,rfl⟩:=gsi.1 h;rw[List.take_succ_eq_append_getElem hlt]
theorem jk2 {l:List Int} {k:Nat} {x:Int} (h:l[k]? = some x):jaj (l.take (k+1))=stpCI (jaj (l.take k)) x:=by
 rw[jli h];unfold jaj;rw[List.foldl_append];rfl
theorem compI_last {l:List Int} {k:Nat} {x:Int} (h:l[k]? = some x):(jaj (l.take (k+1))).getLast? = some x:=by
 rw[jk2 h]; exact stpCI_last _ _
theorem jpk (l:List Int):∀k,(jaj (l.take k)).length<=k
 | 0=>by simp[jaj]
 | k+1=>by
  have ih:=jpk l k;cases h:l[k]? with
  | none=>
   have:l.length<=k:=by simpa using h
   rw[List.take_of_length_le om];rw[List.take_of_length_le this] at ih;omega
  | some x=>
   rw[jk2 h];have:=stpCI_len (jaj (l.take k)) x;omega
theorem jly {l:List Int} {k:Nat} {x y:Int} (hk:0<k) (hy:l[k-1]? = some y) (hx:l[k]? = some x) (h:x=y):jaj (l.take (k+1))=jaj (l.take k):=by
 obtain ⟨j,rfl⟩:∃j,k=j+1:=⟨k-1,om⟩;rw[jk2 hx];unfold stpCI;rw[if_pos (by rw[compI_last (by simpa using hy),h])]
theorem joj {l:List Int} {k:Nat} {x y:Int} (hk:0<k) (hy:l[k-1]? = some y) (hx:l[k]? = some x) (h:x≠y):jaj (l.take (k+1))=jaj (l.take k)++[x]:=by
 obtain ⟨j,rfl⟩:∃j,k=j+1:=⟨k-1,om⟩;rw[jk2 hx];unfold stpCI;rw[if_neg (by rw[compI_last (by simpa using hy)]; simp; omega)]
theorem jpj {l:List Int} {x:Int} (hx:l[0]? = some x):jaj (l.take 1)=[x]:=by
 rw[jk2 hx]; rfl
theorem compI_full (l:List Int):∀k,k<=l.length->((jaj (l.take k)).length=k↔∀(i:Nat) x y,i+1<k->l[i]? = some x->l[i+1]? = some y->x≠y)
 | 0,_=>by simp[jaj]
 | 1,h=>by
  rw[jpj (gge (show 0<l.length by omega))];simp
 | k+2,h=>by
  have ih:=compI_full l (k+1) om;have hlen:=jpk l (k+1);have hk1:k+1<l.length:=om
  have hx:=gge hk1;have hy:=gge (show k<l.length by omega);by_cases e:l[k+1]=l[k]
  ·rw[jly (Nat.succ_pos k) hy hx e];constructor
   ·intro g; simp only[Nat.succ_eq_add_one] at g; omega
   ·intro g; exact absurd e.symm (g k _ _ om hy hx)
  ·rw[joj (Nat.succ_pos k) hy hx e,List.length_append];constructor
   ·intro g i x y hi gx gy;by_cases hik:i=k
    ·subst hik;rw[hy] at gx; rw[hx] at gy;cases gx; cases gy;exact fun hh=>e hh.symm
    ·exact ih.1 (by simp at g; omega) i x y om gx gy
   ·intro g;have:=ih.2 fun i x y hi gx gy=>g i x y om gx gy;simp; omega
theorem rise_eq (l:List Int):(srtI l && decide (((jaj l).length:Int)=l.length))=risI l:=by
 have h1:=srtI_iff l;have h2:=jfh l;have h3:=compI_full l l.length (Nat.le_refl _);rw[List.take_length] at h3;rw[Bool.eq_iff_iff,Bool.and_eq_true,decide_eq_true_eq,h1,h2];constructor
 ·rintro ⟨g1,g2⟩ i x y hx hy;have:=h3.1 om i x y (gsi.1 hy).1 hx hy;have:=g1 i x y hx hy;omega
 ·intro g;refine ⟨fun i x y hx hy=>by have:=g i x y hx hy; omega,?_⟩;have:=h3.2 fun i x y _ hx hy=>by have:=g i x y hx hy; omega
  omega
def upG:List (Int×Bool)->Int->Bool->List (Int×Bool)
 | [],f,b=>[(f,b)]
 | (g,c)::r,f,b=>if f=g then (f,b)::r else (g,c)::upG r f b
def getG:List (Int×Bool)->Int->Bool
 | [],_=>false
 | (g,c)::r,f=>if f=g then c else getG r f
def mapG (ps:List (Int×Bool)):List (V×V):=ps.map fun q=>(vi q.1,vb q.2)
def findG:List (Int×Bool)->Int->Option V
 | [],_=>none
 | (g,c)::r,f=>if f=g then some (vb c) else findG r f
theorem findG_get (ps:List (Int×Bool)) (f:Int):(findG ps f).getD (vb false)=vb (getG ps f):=by
 induction ps with
 | nil=>rfl
 | cons q r ih=>
  unfold findG getG;by_cases h:f=q.1
  ·rw[if_pos h,if_pos h]; rfl
  ·rw[if_neg h,if_neg h]; exact ih
theorem jp8 (f:Int):∀ps,findV (vi f) (mapG ps)=some (findG ps f)
 | []=>rfl
 | (g,c)::r=>by
  have ih:=jp8 f r;unfold mapG at ih;simp only[mapG,List.map_cons,findV,je6,if_true,findG];by_cases h:f=g
  ·simp[h]
  ·simp only[h,decide_false,if_false];exact ih
theorem jqm (f:Int) (b:Bool):∀ps,jf2 (vi f) (vb b) (mapG ps)=some (mapG (upG ps f b))
 | []=>rfl
 | (g,c)::r=>by
  have ih:=jqm f b r;unfold mapG at ih;simp only[mapG,List.map_cons,jf2,je6,if_true,upG];by_cases h:f=g
  ·simp[h]
  ·simp only[h,decide_false,if_false,ih,Option.map_some,List.map_cons]
theorem get_up (f n:Int) (b:Bool):∀ps,getG (upG ps f b) n=if n=f then b else getG ps n
 | []=>by
  unfold upG getG getG;by_cases h:n=f <;> simp[h]
 | (g,c)::r=>by
  have ih:=get_up f n b r;unfold upG;by_cases h:f=g
  ·rw[if_pos h];unfold getG;by_cases h2:n=f
   ·simp[h2]
   ·rw[if_neg h2,if_neg h2,if_neg (by rw[<- h]; exact h2)]
  ·rw[if_neg h];unfold getG;by_cases h2:n=g
   ·rw[if_pos h2,if_pos h2,if_neg (fun e=>h (e.symm.trans h2))]
   ·rw[if_neg h2,if_neg h2,ih]
def addG (ps:List (Int×Bool)) (fs:List Int) (g:Bool):List (Int×Bool):=fs.foldl (fun ps f=>upG ps f (getG ps f || g)) ps
theorem get_add (n:Int) (g:Bool):∀(fs:List Int) ps,getG (addG ps fs g) n=(getG ps n || (g && fs.any fun f=>decide (f=n)))
 | [],ps=>by simp[addG]
 | f::r,ps=>by
  have ih:=get_add n g r (upG ps f (getG ps f || g));unfold addG at ih ⊢;rw[List.foldl_cons,ih,get_up];by_cases h:n=f
  ·subst h; cases g <;> cases getG ps n <;> simp
  ·have h':¬f=n:=fun e=>h e.symm;simp[h,h']
theorem add_snoc (ps:List (Int×Bool)) {fs:List Int} {k:Nat} {f:Int} (g:Bool) (h:fs[k]? = some f):addG ps (fs.take (k+1)) g=upG (addG ps (fs.take k) g) f (getG (addG ps (fs.take k) g) f || g):=by
 rw[jli h];unfold addG;rw[List.foldl_append];rfl
theorem jm8 (l:List Elm) (x:Elm) (n:Int):jad (l++[x]) n=(jad l n || (x.gone && x.fls.any fun f=>decide (f=n))):=by
 unfold jad;rw[List.any_append];simp
theorem get_gone {ps:List (Int×Bool)} {pre:List Elm} (h:∀n,getG ps n=jad pre n) (x:Elm):∀n,getG (addG ps x.fls x.gone) n=jad (pre++[x]) n:=fun n=>by
 rw[get_add,jm8,h]
def elsM (fs:List Fil):List Elm->Option Elm->List (Int×Bool)->List Elm->List (Int×Bool)
 | _,_,ps,[]=>ps
 | pre,last,ps,x::r=>if elmE fs pre last x≠0 then ps else elsM fs (pre++[x]) (some x) (addG ps x.fls x.gone) r
theorem elsM_get (fs:List Fil):∀(l:List Elm) (pre:List Elm) (last:Option Elm) (ps:List (Int×Bool)),(∀n,getG ps n=jad pre n)->elsE fs pre last l=0->∀n,getG (elsM fs pre last ps l) n=jad (pre++l) n
 | [],pre,last,ps,h,_=>fun n=>by rw[List.append_nil]; exact h n
 | x::r,pre,last,ps,h,he=>fun n=>by
  unfold elsE at he;unfold elsM;by_cases hx:elmE fs pre last x≠0
  ·rw[if_pos hx] at he; exact absurd he hx
  ·rw[if_neg hx] at he ⊢;rw[elsM_get fs r (pre++[x]) (some x) _ (get_gone h x) he n,List.append_assoc];rfl
theorem elsE_step {fs:List Fil} {l:List Elm} {k:Nat} {x:Elm} (hx:l[k]? = some x) (pre:List Elm) (last:Option Elm):elsE fs pre last (l.drop k)=if elmE fs pre last x≠0 then elmE fs pre last x else elsE fs (pre++[x]) (some x) (l.drop (k+1)):=by
 obtain ⟨hlt,rfl⟩:=gsi.1 hx;exact zcp
theorem elsM_step {fs:List Fil} {l:List Elm} {k:Nat} {x:Elm} (hx:l[k]? = some x) (pre:List Elm) (last:Option Elm) (ps:List (Int×Bool)):elsM fs pre last ps (l.drop k)=if elmE fs pre last x≠0 then ps else elsM fs (pre++[x]) (some x) (addG ps x.fls x.gone) (l.drop (k+1)):=by
 obtain ⟨hlt,rfl⟩:=gsi.1 hx;exact zcp
def jaq (l:List Elm) (k:Nat):Option Elm:=if k=0 then none else l[k-1]?
theorem jqt {l:List Elm} {k:Nat} {x:Elm} (hx:l[k]? = some x):jaq l (k+1)=some x:=by
 unfold jaq;rw[if_neg (Nat.succ_ne_zero k),Nat.add_sub_cancel]; exact hx
theorem jlj {l:List Elm} {k:Nat} {x:Elm} (h:l[k]? = some x):l.take (k+1)=l.take k++[x]:=by
 obtain ⟨hlt,rfl⟩:=gsi.1 h;rw[List.take_succ_eq_append_getElem hlt]
structure Pce where
 frm:Int
 til:Int
 val:Int
 deriving DecidableEq
abbrev Pce.cs (p:Pce):List V:=[vi p.frm,vi p.til,vi p.val]
def addP:List Pce->Int->Int->Int->List Pce
 | [],c,e,k=>[⟨c,e,k⟩]
 | [p],c,e,k=>if p.val=k then [⟨p.frm,e,p.val⟩] else [p,⟨c,e,k⟩]
 | p::q::r,c,e,k=>p::addP (q::r) c e k
def Runs (K:Int->Int) (b:Int):Int->List Pce->Prop
 | a,[]=>a=b
 | a,p::r=>p.frm=a/\a<p.til/\(∀d,a<=d->d<p.til->K d=p.val)/\(∀q,r.head? = some q->q.val≠p.val)/\Runs K b p.til r
theorem Runs.le {K:Int->Int} {b:Int} : ∀ {l:List Pce} {a:Int},Runs K b a l->a<=b
 | [],a,h=>by have:a=b:=h; omega
 | p::r,a,h=>by have h1:=h.2.1; have h2:=Runs.le h.2.2.2.2; omega
theorem Runs.head {K:Int->Int} {b:Int} {l:List Pce} {a:Int} (h:Runs K b a l) {q:Pce} (hq:l.head? = some q):K a=q.val:=by
 cases l with
 | nil=>cases hq
 | cons p r=>
  simp only[List.head?_cons,Option.some.injEq] at hq;subst hq;exact h.2.2.1 a (Int.le_refl _) h.2.1
theorem Runs.ne {K:Int->Int} {b a:Int} {l:List Pce} (h:Runs K b a l) (hab:a<b):l≠[]:=fun e=>by
 subst e;have:a=b:=h;omega
theorem addP_head {l:List Pce} {c e k:Int} {q x:Pce} (hx:l.head? = some x) (h:(addP l c e k).head? = some q):q.val=x.val:=by
 match l,hx with
 | [p],hx=>
  simp only[List.head?_cons,Option.some.injEq] at hx;subst hx;unfold addP at h;split at h
  ·simp only[List.head?_cons,Option.some.injEq] at h; rw[<- h]
  ·simp only[List.head?_cons,Option.some.injEq] at h; rw[<- h]
 | p::y::r,hx=>
  simp only[List.head?_cons,Option.some.injEq] at hx;subst hx;unfold addP at h;simp only[List.head?_cons,Option.some.injEq] at h;rw[<- h]
theorem Runs.add {K:Int->Int} {c e k:Int} (hce:c<e) (hk:∀d,c<=d->d<e->K d=k):∀ {l:List Pce} {a:Int},Runs K c a l->Runs K e a (addP l c e k)
 | [],a,h=>by
  have h:a=c:=h;subst h;exact ⟨rfl,hce,hk,(fun q hq=>nomatch hq),rfl⟩
 | [p],a,h=>by
  obtain ⟨h1,h2,h3,-,h5⟩:=h;have h5:p.til=c:=h5;unfold addP;by_cases hv:p.val=k
  ·rw[if_pos hv];refine ⟨h1,by show a<e; omega,fun d g1 g2=> ?_,(fun q hq=>nomatch hq),rfl⟩;by_cases hd:d<p.til
   ·exact h3 d g1 hd
   ·exact (hk d om g2).trans hv.symm
  ·rw[if_neg hv];refine ⟨h1,h2,h3,fun q hq=> ?_,⟨h5.symm,by rw[h5]; exact hce,fun d g1 g2=>hk d om g2,(fun q hq=>nomatch hq),rfl⟩⟩;simp only[List.head?_cons,Option.some.injEq] at hq;rw[<- hq];exact fun e=>hv e.symm
 | p::x::r,a,h=>by
  obtain ⟨h1,h2,h3,h4,h5⟩:=h;unfold addP;refine ⟨h1,h2,h3,fun q hq=> ?_,Runs.add hce hk h5⟩;rw[addP_head (x:=x) rfl hq];exact h4 x rfl
theorem Runs.at {K:Int->Int} {b:Int} : ∀ {l:List Pce} {a:Int},Runs K b a l->∀ {i:Nat} {p:Pce},l[i]? = some p->a<=p.frm/\p.frm<p.til/\p.til<=b/\∀d,p.frm<=d->d<p.til->K d=p.val
 | [],a,h,i,p,hp=>by simp at hp
 | x::r,a,h,0,p,hp=>by
  simp only[List.getElem?_cons_zero,Option.some.injEq] at hp;subst hp;exact ⟨by rw[h.1]; exact Int.le_refl _,by rw[h.1]; exact h.2.1,Runs.le h.2.2.2.2,by rw[h.1]; exact h.2.2.1⟩
 | x::r,a,h,i+1,p,hp=>by
  have:=Runs.at h.2.2.2.2 (i:=i) (p:=p) (by simpa using hp);have h2:=h.2.1;exact ⟨om,this.2⟩
theorem Runs.step {K:Int->Int} {b:Int} : ∀ {l:List Pce} {a:Int},Runs K b a l->∀ {i:Nat} {p q:Pce},l[i]? = some p->l[i+1]? = some q->p.til=q.frm/\q.val≠p.val
 | [],a,h,i,p,q,hp,hq=>by simp at hp
 | [x],a,h,i,p,q,hp,hq=>by simp at hq
 | x::y::r,a,h,0,p,q,hp,hq=>by
  simp at hp hq;subst hp; subst hq;exact ⟨h.2.2.2.2.1.symm,h.2.2.2.1 _ rfl⟩
 | x::y::r,a,h,i+1,p,q,hp,hq=>Runs.step h.2.2.2.2 (i:=i) (by simpa using hp) (by simpa using hq)
theorem Runs.last {K:Int->Int} {b:Int} : ∀ {l:List Pce} {a:Int},Runs K b a l->∀ {p:Pce},l.getLast? = some p->p.til=b
 | [],a,h,p,hp=>by simp at hp
 | [x],a,h,p,hp=>by
  simp at hp; subst hp; exact h.2.2.2.2
 | x::y::r,a,h,p,hp=>Runs.last (l:=y::r) h.2.2.2.2 (by simpa using hp)
def Far (d t c:Int):Prop:=c<=d\/t<c
theorem inS_far {f u d t:Int} (h:d<=t) (hf:Far d t f) (hu:Far d t u):inS f u d=inS f u t:=by
 unfold inS;unfold Far at hf hu;rw[Bool.eq_iff_iff,decide_eq_true_eq,decide_eq_true_eq];omega
theorem le_far {c d t:Int} (h:d<=t) (hc:Far d t c):decide (c<=d)=decide (c<=t):=by
 unfold Far at hc;rw[Bool.eq_iff_iff,decide_eq_true_eq,decide_eq_true_eq];omega
theorem jjh {α:Type} {p q:α->Bool} : ∀ {l:List α},(∀x∈l,p x=q x)->l.filter p=l.filter q
 | [],_=>rfl
 | x::l,h=>by
  rw[List.filter_cons,List.filter_cons,h x sm,jjh fun y hy=>h y zer]
theorem jm0 {α:Type} {p q:α->Bool} : ∀ {l:List α},(∀x∈l,p x=q x)->l.any p=l.any q
 | [],_=>rfl
 | x::l,h=>by
  rw[List.any_cons,List.any_cons,h x sm,jm0 fun y hy=>h y zer]
theorem jpv {α:Type} {p q:α->Bool} : ∀ {l:List α},(∀x∈l,p x=q x)->l.findIdx? p=l.findIdx? q
 | [],_=>rfl
 | x::l,h=>by
  rw[List.findIdx?_cons,List.findIdx?_cons,h x sm,jpv fun y hy=>h y zer]
structure Quiet (r:Rgs) (f:Fil) (d t:Int):Prop where
 le:d<=t
 opn:Far d t f.opn
 cld:Far d t f.cld
 nts:∀n∈f.nts,Far d t n.rcd
 ofs:∀o∈r.ofs,Far d t o.frm/\Far d t o.til
 pls:∀o∈r.pls,Far d t o.frm/\Far d t o.til
 rls:∀o∈r.rls,Far d t o.frm/\Far d t o.til
 hls:∀o∈r.hls,Far d t o.frm/\Far d t o.til
 sls:∀s∈r.sls,(s.fls.any fun n=>decide (n=f.id))=true->Far d t s.day
 crs:∀s∈r.crs,(s.fls.any fun n=>decide (n=f.id))=true->Far d t s.day
 dps:∀s∈r.dps,s.fil=f.id->Far d t s.day
variable {r : Rgs} {f : Fil} {d t : Int}
theorem Far.sub {d t d' t' c:Int} (h:Far d t c) (h1:d<=d') (h2:t'<=t):Far d' t' c:=by unfold Far at h ⊢; omega
theorem Quiet.sub (h:Quiet r f d t) {d' t':Int} (h1:d<=d') (h2:d'<=t') (h3:t'<=t):Quiet r f d' t':=
  ⟨h2,h.opn.sub h1 h3,h.cld.sub h1 h3,fun n hn=>(h.nts n hn).sub h1 h3,fun o ho=>⟨(h.ofs o ho).1.sub h1 h3,(h.ofs o ho).2.sub h1 h3⟩,fun o ho=>⟨(h.pls o ho).1.sub h1 h3,(h.pls o ho).2.sub h1 h3⟩,
   fun o ho=>⟨(h.rls o ho).1.sub h1 h3,(h.rls o ho).2.sub h1 h3⟩,fun o ho=>⟨(h.hls o ho).1.sub h1 h3,(h.hls o ho).2.sub h1 h3⟩,fun s hs e=>(h.sls s hs e).sub h1 h3,fun s hs e=>(h.crs s hs e).sub h1 h3,fun s hs e=>(h.dps s hs e).sub h1 h3⟩
theorem Quiet.state (h:Quiet r f d t):state f d=state f t:=by
 have:=h.le;have h1:=h.opn;have h2:=h.cld;unfold Far at h1 h2;unfold Arc.state;by_cases a:d<f.opn
 ·rw[if_pos a,if_pos om]
 ·have a':¬t<f.opn:=om
  rw[if_neg a,if_neg a'];by_cases b:d<f.cld
  ·have b':t<f.cld:=om
   rw[if_pos b,if_pos b']
  ·have b':¬t<f.cld:=om
   rw[if_neg b,if_neg b']
theorem onD_far {c:Int} (h:d<=t) (hc:Far d t c):onD c d=onD c t:=by
 unfold Far at hc;unfold onD;by_cases a:d<c
 ·rw[if_pos a,if_pos om]
 ·rw[if_neg a,if_neg om]
theorem Quiet.trig (h:Quiet r f d t) (s:Str):trig f s d=trig f s t:=by
 have hk:jes f d=jes f t:=jjh fun n hn=>le_far h.le (h.nts n hn);unfold Arc.trig;rw[onD_far h.le h.opn,onD_far h.le h.cld];unfold best own;rw[hk]
theorem Quiet.cls (h:Quiet r f d t):jaw r.pls f d=jaw r.pls f t:=by
 have hi:idx r.pls d=idx r.pls t:=by
  unfold idx ix;rw[jpv fun p hp=>inS_far h.le (h.pls p hp).1 (h.pls p hp).2]
 unfold jaw;rw[hi]
theorem Quiet.rules (h:Quiet r f d t):jaf r f d=jaf r f t:=by
 have ha:∀s,∀q∈r.rls,appB s d q=appB s t q:=fun s q hq=>by
  unfold appB;rw[inS_far h.le (h.rls q hq).1 (h.rls q hq).2]
 have hl:∀s,jan r.rls s d=jan r.rls s t:=fun s=>by
  unfold jan;rw[jjh (ha s)]
 unfold jaf;rw[h.cls];split
 ·refine jjh fun q hq=> ?_;rw[ha _ q hq,hl]
 ·rfl
theorem Quiet.late (h:Quiet r f d t):∀(l:List Rul) (x:Int×Int),jdk f d l x=jdk f t l x
 | [],x=>rfl
 | q::l,x=>by
  unfold jdk;have:dueF f d q=dueF f t q:=by unfold dueF; rw[h.trig]
  rw[this];exact h.late l _
theorem jo8 {day:Int} {l:List Int} (h:d<=t) (hf:(l.any fun n=>decide (n=f.id))=true->Far d t day):jd7 d f day l=jd7 t f day l:=by
 unfold jd7;cases e:l.any fun n=>decide (n=f.id) with
 | false=>rw[Bool.and_false,Bool.and_false]
 | true=>rw[le_far h (hf e)]
theorem Quiet.gone1 (h:Quiet r f d t):gone1 r f d=gone1 r f t:=jm0 fun c hc=>jo8 h.le (h.crs c hc)
theorem Quiet.gone2 (h:Quiet r f d t):gone2 r f d=gone2 r f t:=jm0 fun c hc=>jo8 h.le fun e=>h.dps c hc (by simpa using e)
theorem Quiet.sel (h:Quiet r f d t):selB r f d=selB r f t:=jm0 fun c hc=>jo8 h.le (h.sls c hc)
theorem lookO_mem {l:List Ofc} {n:Int} {o:Ofc} (h:jab l n=some o):o∈l:=List.mem_of_find?_eq_some h
theorem Quiet.chainF (h:Quiet r f d t):∀(n:Nat) (o:Ofc),o∈r.ofs->chainF r.ofs d n o=chainF r.ofs t n o
 | 0,o,_=>rfl
 | n+1,o,ho=>by
  have he:jdt r.ofs d o=jdt r.ofs t o:=by
   unfold jdt;rw[inS_far h.le (h.ofs o ho).1 (h.ofs o ho).2]
  unfold Arc.chainF;rw[he];cases e:jdt r.ofs t o with
  | none=>rfl
  | some q=>
   have hq:q∈r.ofs:=by
    unfold jdt at e;split at e
    ·cases e
    ·split at e
     ·cases e
     ·exact lookO_mem e
   simp only;rw[h.chainF n q hq]
theorem Quiet.chain (h:Quiet r f d t) (n:Int):chain r.ofs n d=chain r.ofs n t:=by
 unfold Arc.chain;split
 ·rfl
 ·cases e:jab r.ofs n with
  | none=>rfl
  | some o=>exact h.chainF _ o (lookO_mem e)
theorem Quiet.hold (h:Quiet r f d t):jbr r.ofs r.pls r.hls f d=jbr r.ofs r.pls r.hls f t:=by
 unfold jbr;rw[jjh fun x hx=> ?_];unfold jh5 jfw;rw[inS_far h.le (h.hls x hx).1 (h.hls x hx).2,h.chain,h.cls]
def kdB (s:Int) (g1 g2 e:Bool) (k w late hd m:Bool):Int:=
 if s=0 then 0 else if g1=true then 1 else if g2=true then 2 else if e=true then 0 else if s=1 then 3 else if k=true then 4 else if w=true then 5 else if late=true then 6 else if hd=true then 7 else if m=true then 9 else 8
def dueL (r:Rgs) (f:Fil) (d:Int):Int:=(jdk f d (jaf r f d) (-1,0)).1
theorem vdt_kd (r:Rgs) (f:Fil) (d:Int):(vdt r f d).kind=kdB (Arc.state f d) (Arc.gone1 r f d) (Arc.gone2 r f d) (decide (jaf r f d=[])) ((jaf r f d).find? je7).isSome ((jaf r f d).find? (jcc f d)).isSome (decide (d<=dueL r f d)) (decide (jbr r.ofs r.pls r.hls f d≠[])) ((jaf r f d).any jf9 || selB r f d):=by
 unfold vdt kdB dueL;simp only[decide_eq_true_eq,Bool.or_eq_true];split
 ·rfl
 split
 ·rfl
 split
 ·rfl
 split
 ·rfl
 split
 ·rfl
 cases (jaf r f d).find? je7 with
 | some q=>rfl
 | none=>
  cases (jaf r f d).find? (jcc f d) with
  | some q=>rfl
  | none=>
   simp only[Option.isSome_none,Bool.false_eq_true,if_false];split
   ·rfl
   split
   ·rfl
   split <;> rfl
theorem vdt_due (h:(vdt r f d).kind=6):(vdt r f d).due=dueL r f d/\d<=dueL r f d:=by
 unfold vdt at h ⊢;unfold dueL;simp only at h ⊢;split at h
 ·cases h
 rename_i h1;rw[if_neg h1];split at h
 ·cases h
 rename_i h1;rw[if_neg h1];split at h
 ·cases h
 rename_i h1;rw[if_neg h1];split at h
 ·cases h
 rename_i h1;rw[if_neg h1];split at h
 ·cases h
 rename_i h1;rw[if_neg h1];cases e:(jaf r f d).find? je7 with
 | some q=>rw[e] at h; cases h
 | none=>
  rw[e] at h;simp only at h ⊢;cases e:(jaf r f d).find? (jcc f d) with
  | some q=>rw[e] at h; cases h
  | none=>
   rw[e] at h;simp only at h ⊢;split at h
   ·rename_i h1;rw[if_pos h1];exact ⟨rfl,h1⟩
   split at h
   ·cases h
   split at h <;> cases h
theorem kdB_late (s:Int) (g1 g2 e k w hd m:Bool):kdB s g1 g2 e k w true hd m=6\/∀b,kdB s g1 g2 e k w b hd m=kdB s g1 g2 e k w true hd m:=by
 unfold kdB;by_cases a:s=0
 ·right; intro b; rw[if_pos a,if_pos a]
 rw[if_neg a];simp only[if_neg a];cases g1
 ·cases g2
  ·cases e
   ·by_cases c:s=1
    ·right; intro b; simp[c]
    ·cases k
     ·cases w
      ·left; simp[c]
      ·right; intro b; rfl
     ·right; intro b; rfl
   ·right; intro b; rfl
  ·right; intro b; rfl
 ·right; intro b; rfl
theorem Quiet.kind (h:Quiet r f d t) (b:Bool):kdB (Arc.state f d) (Arc.gone1 r f d) (Arc.gone2 r f d) (decide (jaf r f d=[])) ((jaf r f d).find? je7).isSome ((jaf r f d).find? (jcc f d)).isSome b (decide (jbr r.ofs r.pls r.hls f d≠[])) ((jaf r f d).any jf9 || selB r f d)=
  kdB (Arc.state f t) (Arc.gone1 r f t) (Arc.gone2 r f t) (decide (jaf r f t=[])) ((jaf r f t).find? je7).isSome ((jaf r f t).find? (jcc f t)).isSome b (decide (jbr r.ofs r.pls r.hls f t≠[])) ((jaf r f t).any jf9 || selB r f t):=by
 have hw:jcc f d=jcc f t:=by funext q; unfold jcc; rw[h.trig]
 rw[h.state,h.gone1,h.gone2,h.rules,h.hold,h.sel,hw]
theorem Quiet.due (h:Quiet r f d t):dueL r f d=dueL r f t:=by unfold dueL; rw[h.rules,h.late]
theorem Quiet.other (h:Quiet r f d t) (h6:(vdt r f d).kind≠6):(vdt r f t).kind=(vdt r f d).kind:=by
 rw[vdt_kd] at h6;rw[vdt_kd,vdt_kd,<- h.kind,<- h.due];have hle:=h.le;by_cases hd:d<=dueL r f d
 ·rw[decide_eq_true hd] at h6 ⊢;rcases kdB_late (Arc.state f d) (Arc.gone1 r f d) (Arc.gone2 r f d) (decide (jaf r f d=[])) ((jaf r f d).find? je7).isSome ((jaf r f d).find? (jcc f d)).isSome (decide (jbr r.ofs r.pls r.hls f d≠[])) ((jaf r f d).any jf9 || selB r f d) with g | g
  ·exact absurd g h6
  ·exact g _
 ·rw[decide_eq_false hd,decide_eq_false (show ¬t<=dueL r f d by omega)]
theorem Quiet.keep (h:Quiet r f d t) (h6:(vdt r f d).kind=6) (ht:t<=(vdt r f d).due):(vdt r f t).kind=6:=by
 obtain ⟨h1,h2⟩:=vdt_due h6;rw[h1] at ht;rw[vdt_kd,decide_eq_true h2] at h6;rw[vdt_kd,<- h.kind,<- h.due,decide_eq_true ht];exact h6
end Go.Arc
namespace Go.Arc
open Go.Ab
def setG (ps:List (Int×Bool)) (l:List Int):List (Int×Bool):=l.foldl (fun ps x=>upG ps x true) ps
def jfx (ps:List (Int×Bool)):List Int:=ps.map (·.1)
theorem keys_up (x:Int) (b:Bool):∀ps,(∀y,y∈jfx (upG ps x b)↔y=x\/y∈jfx ps)/\((jfx ps).Nodup->(jfx (upG ps x b)).Nodup)
 | []=>⟨fun y=>by simp[jfx,upG],fun _=>by simp[jfx,upG]⟩
 | (g,c)::r=>by
  obtain ⟨h1,h2⟩:=keys_up x b r;unfold upG;by_cases h:x=g
  ·rw[if_pos h];subst h;exact ⟨fun y=>by simp[jfx],fun hn=>hn⟩
  ·rw[if_neg h];refine ⟨fun y=> ?_,fun hn=> ?_⟩
   ·have:=h1 y;simp only[jfx,List.map_cons,List.mem_cons] at this ⊢;rw[this];constructor
    ·rintro (a | a | a)
     ·exact .inr (.inl a)
     ·exact .inl a
     ·exact .inr (.inr a)
    ·rintro (a | a | a)
     ·exact .inr (.inl a)
     ·exact .inl a
     ·exact .inr (.inr a)
   ·simp only[jfx,List.map_cons,List.nodup_cons] at hn ⊢;refine ⟨fun hc=> ?_,h2 hn.2⟩;rcases (h1 g).1 hc with e | e
    ·exact h e.symm
    ·exact hn.1 e
theorem jgy {x:Int} {l:List Int} (h:fstE (x::l)=0):x=0/\fstE l=0:=by
 unfold fstE at h;by_cases hx:x≠0
 ·rw[if_pos hx] at h; exact absurd h hx
 ·rw[if_neg hx] at h; exact ⟨om,h⟩
structure OkG (r:Rgs):Prop where
 ofs:(jcl r.ofs).2=0
 pls:(check r.pls).2=0
 fls:(jdq r.ofs r.pls r.fls).2=0
 rls:(jcb r.rls).2=0
 hls:(jdi r.hls).2=0
 sls:jb0 r.fls [] (selE r)=0
 crs:jb0 r.fls (selE r) (crtE r)=0
 dps:jb0 r.fls (selE r++crtE r) (depE r)=0
theorem okG_of {r:Rgs} (h:checkG r=0):OkG r:=by
 unfold checkG at h;obtain ⟨h1,h⟩:=jgy h;obtain ⟨h2,h⟩:=jgy h;obtain ⟨h3,h⟩:=jgy h;obtain ⟨h4,h⟩:=jgy h;obtain ⟨h5,h⟩:=jgy h;obtain ⟨h6,h⟩:=jgy h;obtain ⟨h7,h⟩:=jgy h;obtain ⟨h8,h⟩:=jgy h;exact ⟨h1,h2,h3,h4,h5,h6,h7,h8⟩
theorem OkG.zero {r:Rgs} (h:OkG r):checkG r=0:=by
 unfold checkG;rw[h.ofs,h.pls,h.fls,h.rls,h.hls,h.sls,h.crs,h.dps];rfl
theorem OkG.goodR {r:Rgs} (h:OkG r):goodR r.rls=true:=by unfold Arc.goodR; rw[h.rls]; rfl
theorem jmt {fs:List Fil} : ∀(l pre:List Elm) (last:Option Elm),elsE fs pre last l=0->∀(i:Nat) x,l[i]? = some x->∃q,elmE fs (pre++l.take i) q x=0
 | [],_,_,_,i,x,hx=>by simp at hx
 | y::r,pre,last,h,0,x,hx=>by
  simp only[List.getElem?_cons_zero,Option.some.injEq] at hx;subst hx;unfold elsE at h;by_cases h0:elmE fs pre last y≠0
  ·exact zcn
  ·exact ⟨last,by rw[List.take_zero,List.append_nil]; omega⟩
 | y::r,pre,last,h,i+1,x,hx=>by
  unfold elsE at h;by_cases h0:elmE fs pre last y≠0
  ·exact zcn
  ·rw[if_neg h0] at h;obtain ⟨q,hq⟩:=jmt r (pre++[y]) (some y) h i x zej;exact ⟨q,by rw[List.take_succ_cons,List.append_cons]; exact hq⟩
theorem ite_z {c:Prop} [Decidable c] {a b:Int} (ha:a≠0) (hb:b≠0):(if c then a else b)≠0:=by split <;> assumption
theorem jpd {fs:List Fil} {pre:List Elm} {q:Option Elm} {x:Elm} (h:elmE fs pre q x=0) (hg:x.gone=true) {n:Int} (hn:n∈x.fls):jad pre n=false:=by
 cases e:jad pre n
 ·rfl
 ·exfalso;have h6:x.gone=true/\x.fls.any (jad pre)=true:=⟨hg,List.any_eq_true.2 ⟨n,hn,e⟩⟩;unfold elmE at h;rw[if_pos h6] at h;exact ite_z dc (ite_z dc (ite_z dc dc)) h
theorem jp4 {l:List Elm} {x:Elm} {n:Int} (hx:x∈l) (hg:x.gone=true) (hn:n∈x.fls):jad l n=true:=by
 unfold jad;rw[List.any_eq_true];exact ⟨x,hx,by rw[hg,Bool.true_and,List.any_eq_true]; exact ⟨n,hn,decide_eq_true rfl⟩⟩
theorem jj0 {fs:List Fil} {pre l:List Elm} (h:jb0 fs pre l=0):elsE fs pre none l=0:=by
 unfold jb0 at h;split at h
 ·cases h
 ·exact h
theorem jkk {α:Type} {l:List α} {i j:Nat} {x:α} (hx:l[i]? = some x) (h:i<j):x∈l.take j:=List.mem_iff_getElem?.2 ⟨i,by rw[List.getElem?_take,if_pos h]; exact hx⟩
theorem OkG.crt1 {r:Rgs} (h:OkG r) {i j:Nat} {x y:Crt} {n:Int} (hx:r.crs[i]? = some x) (hy:r.crs[j]? = some y) (hn:n∈x.fls) (hm:n∈y.fls):i=j:=by
 have key:∀ {i j:Nat} {x y:Crt},r.crs[i]? = some x->r.crs[j]? = some y->n∈x.fls->n∈y.fls->¬i<j:=fun {i j x y} hx hy hn hm hij=>by
  have hy':(crtE r)[j]? = some y.el:=by unfold crtE; rw[List.getElem?_map,hy]; rfl
  have hx':(crtE r)[i]? = some x.el:=by unfold crtE; rw[List.getElem?_map,hx]; rfl
  obtain ⟨q,hq⟩:=jmt _ _ _ (jj0 h.crs) j _ hy';have h1:=jpd hq rfl hm;have hm2:x.el∈selE r++(crtE r).take j:=List.mem_append_right _ (jkk hx' hij);rw[jp4 hm2 rfl hn] at h1;cases h1
 have:=key hx hy hn hm;have:=key hy hx hm hn;omega
theorem OkG.crt_dep {r:Rgs} (h:OkG r) {x:Crt} {y:Dep} (hx:x∈r.crs) (hy:y∈r.dps) (hn:y.fil∈x.fls):False:=by
 obtain ⟨j,hj⟩:=List.getElem?_of_mem hy;have hy':(depE r)[j]? = some y.el:=by unfold depE; rw[List.getElem?_map,hj]; rfl
 obtain ⟨q,hq⟩:=jmt _ _ _ (jj0 h.dps) j _ hy';have h1:=jpd hq rfl (n:=y.fil) (List.mem_singleton.2 rfl);have hm2:x.el∈selE r++crtE r++(depE r).take j:=List.mem_append_left _ (List.mem_append_right _ (by unfold crtE; exact List.mem_map.2 ⟨x,hx,rfl⟩));rw[jp4 hm2 rfl hn] at h1;cases h1
theorem OkG.dep1 {r:Rgs} (h:OkG r) {i j:Nat} {x y:Dep} (hx:r.dps[i]? = some x) (hy:r.dps[j]? = some y) (hn:x.fil=y.fil):i=j:=by
 have key:∀ {i j:Nat} {x y:Dep},r.dps[i]? = some x->r.dps[j]? = some y->x.fil=y.fil->¬i<j:=fun {i j x y} hx hy hn hij=>by
  have hy':(depE r)[j]? = some y.el:=by unfold depE; rw[List.getElem?_map,hy]; rfl
  have hx':(depE r)[i]? = some x.el:=by unfold depE; rw[List.getElem?_map,hx]; rfl
  obtain ⟨q,hq⟩:=jmt _ _ _ (jj0 h.dps) j _ hy';have h1:=jpd hq rfl (n:=y.fil) (List.mem_singleton.2 rfl);have hm2:x.el∈selE r++crtE r++(depE r).take j:=List.mem_append_right _ (jkk hx' hij);rw[jp4 hm2 rfl (List.mem_singleton.2 hn.symm)] at h1;cases h1
 have:=key hx hy hn;have:=key hy hx hn.symm;omega
def hasI (n:Int) (l:List Int):Bool:=l.any fun f=>decide (f=n)
theorem hasI_mem {n:Int} {l:List Int} : hasI n l=true↔n∈l:=by
 unfold hasI;rw[List.any_eq_true];constructor
 ·rintro ⟨x,hx,h⟩;have:=of_decide_eq_true h;subst this;exact hx
 ·intro h;exact ⟨n,h,decide_eq_true rfl⟩
def jbu (r:Rgs) (n:Int) (c d:Nat):Int×Int:=match (r.crs.take c).find? fun x=>hasI n x.fls with
 | some x=>(x.day,1)
 | none=>match (r.dps.take d).find? fun x=>decide (x.fil=n) with
  | some x=>(x.day,2)
  | none=>(0,0)
theorem OkG.gone {r:Rgs} (h:OkG r) (f:Fil):(∃t,jbu r f.id r.crs.length r.dps.length=(t,1)/\∀d,gone1 r f d=decide (t<=d)/\gone2 r f d=false)\/
  (∃t,jbu r f.id r.crs.length r.dps.length=(t,2)/\∀d,gone1 r f d=false/\gone2 r f d=decide (t<=d))\/
  (jbu r f.id r.crs.length r.dps.length=(0,0)/\∀d,gone1 r f d=false/\gone2 r f d=false):=by
 have g1:∀d,gone1 r f d=r.crs.any fun c=>decide (c.day<=d) && hasI f.id c.fls:=fun d=>rfl
 have g2:∀d,gone2 r f d=r.dps.any fun c=>decide (c.day<=d) && decide (c.fil=f.id):=fun d=>by
  unfold gone2 jd7;congr 1
  funext c
  simp
 unfold jbu;rw[List.take_length,List.take_length];cases e:r.crs.find? fun x=>hasI f.id x.fls with
 | some x=>
  left;have hx:=List.mem_of_find?_eq_some e;have hn:f.id∈x.fls:=hasI_mem.1 (List.find?_some (p:=fun x:Crt=>hasI f.id x.fls) e);refine ⟨x.day,rfl,fun d=>⟨?_,?_⟩⟩
  ·rw[g1];obtain ⟨i,hi⟩:=List.getElem?_of_mem hx;by_cases hd:x.day<=d
   ·rw[decide_eq_true hd,List.any_eq_true];exact ⟨x,hx,by rw[decide_eq_true hd,hasI_mem.2 hn]; rfl⟩
   ·rw[decide_eq_false hd,List.any_eq_false];intro y hy;obtain ⟨j,hj⟩:=List.getElem?_of_mem hy;by_cases hm:f.id∈y.fls
    ·have:=h.crt1 hi hj hn hm;subst this;rw[hi] at hj;cases hj;rw[decide_eq_false hd];simp
    ·have:hasI f.id y.fls=false:=by
      cases e2:hasI f.id y.fls
      ·rfl
      ·exact absurd (hasI_mem.1 e2) hm
     rw[this,Bool.and_false];simp
  ·rw[g2,List.any_eq_false];intro y hy;by_cases hm:y.fil=f.id
   ·exact absurd (h.crt_dep hx hy (by rw[hm]; exact hn)) id
   ·rw[decide_eq_false hm,Bool.and_false];simp
 | none=>
  right
  have hno:∀d,gone1 r f d=false:=fun d=>by
   rw[g1,List.any_eq_false];intro y hy;have:=List.find?_eq_none.1 e y hy
   have h2:hasI f.id y.fls=false:=by
    cases e2:hasI f.id y.fls
    ·rfl
    ·exact absurd e2 this
   rw[h2,Bool.and_false];simp
  cases e3:r.dps.find? fun x=>decide (x.fil=f.id) with
  | some x=>
   left;have hx:=List.mem_of_find?_eq_some e3;have hn:x.fil=f.id:=of_decide_eq_true (List.find?_some (p:=fun x:Dep=>decide (x.fil=f.id)) e3);refine ⟨x.day,rfl,fun d=>⟨hno d,?_⟩⟩;rw[g2];obtain ⟨i,hi⟩:=List.getElem?_of_mem hx;by_cases hd:x.day<=d
   ·rw[decide_eq_true hd,List.any_eq_true];exact ⟨x,hx,by rw[decide_eq_true hd,decide_eq_true hn]; rfl⟩
   ·rw[decide_eq_false hd,List.any_eq_false];intro y hy;obtain ⟨j,hj⟩:=List.getElem?_of_mem hy;by_cases hm:y.fil=f.id
    ·have:=h.dep1 hi hj (hn.trans hm.symm);subst this;rw[hi] at hj;cases hj;rw[decide_eq_false hd];simp
    ·rw[decide_eq_false hm,Bool.and_false];simp
  | none=>
   right;refine ⟨rfl,fun d=>⟨hno d,?_⟩⟩;rw[g2,List.any_eq_false];intro y hy;have:=List.find?_eq_none.1 e3 y hy
   have h2:decide (y.fil=f.id)=false:=by
    cases e2:decide (y.fil=f.id)
    ·rfl
    ·exact absurd e2 this
   rw[h2,Bool.and_false];simp
theorem OkG.rule {r:Rgs} (h:OkG r) {q:Rul} (hq:q∈r.rls):Arc.goodR [q]=true/\1<=q.id/\q.id<=1073741824/\0<=q.yrs/\q.yrs<=200/\1<=q.act/\q.act<=3:=by
 obtain ⟨i,hi⟩:=List.getElem?_of_mem hq;have hlt:=(gsi.1 hi).1;have h0:=(jfj h.rls).2 i hlt;unfold jdh at h0;rw[hi] at h0;simp only at h0;by_cases hb:badR q
 ·rw[if_pos hb] at h0; cases h0
 rw[if_neg hb] at h0;by_cases hp:jer r.rls i q=true
 ·rw[if_pos hp] at h0; cases h0
 rw[if_neg hp] at h0
 have hgood:Arc.goodR [q]=true:=by
  unfold Arc.goodR jcb;rw[jcz sm fun j hj=> ?_]
  ·rfl
  ·have hj0:j=0:=by simp at hj; omega
   subst hj0
   show (if badR q then (2:Int) else if jer [q] 0 q=true then 5 else jd0 q)=0
   rw[if_neg hb,if_neg (show ¬jer [q] 0 q=true from fun e=>by cases e)];exact h0
 unfold badR idB at hb;simp only[decide_eq_false_iff_not] at hb;refine ⟨hgood,?_⟩;omega
theorem OkG.file {r:Rgs} (h:OkG r) {f:Fil} (hf:f∈r.fls):0<=f.opn/\f.opn<=1048575/\f.opn<=f.cld/\f.cld<=1048576/\1<=f.id/\∀n∈f.nts,jce n.fst n.lst=true/\f.opn<=n.rcd/\n.rcd<=1048575:=by
 obtain ⟨i,hi⟩:=List.getElem?_of_mem hf;have hlt:=(gsi.1 hi).1;have hz:=h.fls;unfold jdq at hz;split at hz
 ·cases hz
 have h0:=(jfj hz).2 i hlt;obtain ⟨hb,-,-,-,-,hn⟩:=jqx hi h0;obtain ⟨-,-,hr,-⟩:=notesErr_zero hn;unfold badF dayB at hb;simp only[decide_eq_false_iff_not,not_or] at hb;refine ⟨om,om,om,om,om,fun n hn=> ?_⟩;have:=List.any_eq_false.1 hr n hn;unfold jd6 dayB at this;simp only[Bool.not_eq_true',Bool.not_eq_false,Bool.and_eq_true,decide_eq_true_eq] at this;exact ⟨this.1,this.2.1,this.2.2⟩
theorem datB_goodD' (a b:Int):datB a b=jce a b:=by
 unfold datB jce;by_cases h1:0<=a <;> by_cases h2:a<=b <;> by_cases h3:b<=1048575 <;> simp[h1,h2,h3]
theorem OkG.dat {r:Rgs} (h:OkG r) {f:Fil} (hf:f∈r.fls) {s:Str} {d a b:Int} (hd:d<=1048575) (ht:trig f s d=some (a,b)):datB a b=true:=by
 obtain ⟨h1,h2,h3,h4,-,h5⟩:=h.file hf;unfold trig onD at ht;split at ht
 ·split at ht
  ·cases ht
  ·cases ht;exact zdv
 split at ht
 ·split at ht
  ·cases ht
  ·cases ht;exact zdv
 ·obtain ⟨m,hm,he⟩:=msi.1 ht;have hmem:m∈own f s d:=(jpo hm).resolve_left sm;unfold own jes at hmem;have hmn:=(List.mem_filter.1 (List.mem_filter.1 hmem).1).1;cases he;rw[datB_goodD'];exact (h5 m hmn).1
theorem OkG.due {r:Rgs} (h:OkG r) {f:Fil} (hf:f∈r.fls) {q:Rul} (hq:q∈r.rls) {d a b:Int} (hd:d<=1048575) (ht:trig f q.trg d=some (a,b)):∃t,dueR q a b=some t/\dueF f d q=some t/\0<=t:=by
 have h1:=(h.rule hq).1;have h2:=h.dat hf hd ht;refine ⟨((if q.yend=true then yearEndN (yearsN b.toNat q.yrs.toNat) else yearsN b.toNat q.yrs.toNat:Nat):Int),?_,?_,om⟩
 ·unfold dueR;rw[if_pos ⟨h1,h2⟩]
 ·rw[dueF_yes ht];unfold dueR;rw[if_pos ⟨h1,h2⟩]
end Go.Arc
namespace Go.Arc
open Go.Ab
variable {r : Rgs} {f : Fil} {d : Int}
end Go.Arc
namespace Go.Arc
open Go.Ab
def endE (q:Option Elm):List Elm->Option Elm
 | []=>q
 | x::l=>endE (some x) l
theorem elsE_more {fs:List Fil} {x:Elm} : ∀(l pre:List Elm) (q:Option Elm),elsE fs pre q l=0->elmE fs (pre++l) (endE q l) x=0->elsE fs pre q (l++[x])=0
 | [],pre,q,_,h=>by
  rw[List.append_nil] at h
  show (if elmE fs pre q x≠0 then elmE fs pre q x else elsE fs (pre++[x]) (some x) [])=0
  have h:elmE fs pre q x=0:=h;rw[if_neg (fun e=>e h)];rfl
 | y::l,pre,q,h0,h=>by
  unfold elsE at h0;by_cases hy:elmE fs pre q y≠0
  ·rw[if_pos hy] at h0; exact absurd h0 hy
  rw[if_neg hy] at h0
  show (if elmE fs pre q y≠0 then elmE fs pre q y else elsE fs (pre++[y]) (some y) (l++[x]))=0
  rw[if_neg hy];exact elsE_more l (pre++[y]) (some y) h0 (by rw[List.append_assoc]; exact h)
theorem endE_last:∀(l:List Elm) (q:Option Elm) (x:Elm),endE q (l++[x])=some x
 | [],_,_=>rfl
 | y::l,_,x=>endE_last l (some y) x
theorem goneB_selA (l:List Sel) (r:List Elm) (n:Int):jad (l.map Sel.el++r) n=jad r n:=by
 unfold jad;rw[List.any_append]
 have:((l.map Sel.el).any fun x=>x.gone && x.fls.any fun f=>decide (f=n))=false:=by
  rw[List.any_map,List.any_eq_false];intro x _
  exact fun hc=>by
   have hc:(false && (x.fls.any fun f=>decide (f=n)))=true:=hc;rw[Bool.false_and] at hc;cases hc
 rw[this,Bool.false_or]
structure Gat (ps:List (Int×Bool)) (S:List Int):Prop where
 mem:∀x,x∈jfx ps↔x∈S
 nd:(jfx ps).Nodup
 len:ps.length<=S.length
theorem upG_len (x:Int) (b:Bool):∀ps,(upG ps x b).length<=ps.length+1
 | []=>Nat.le_refl _
 | (g,c)::r=>by
  have:=upG_len x b r;unfold upG;split <;> simp only[List.length_cons] <;> omega
theorem Gat.up {ps:List (Int×Bool)} {S:List Int} (h:Gat ps S) (x:Int):Gat (upG ps x true) (S++[x]):=by
 obtain ⟨h1,h2⟩:=keys_up x true ps;refine ⟨fun y=> ?_,h2 h.nd,?_⟩
 ·rw[h1,h.mem,List.mem_append,List.mem_singleton];exact or_comm
 ·have:=upG_len x true ps;have:=h.len;rw[List.length_append,List.length_singleton];omega
theorem Gat.set {S:List Int} : ∀(L:List Int) {ps:List (Int×Bool)},Gat ps S->Gat (setG ps L) (S++L)
 | [],ps,h=>by rw[List.append_nil]; exact h
 | x::r,ps,h=>by
  have:=Gat.set r (h.up x);rw[List.append_assoc] at this;exact this
end Go.Arc
namespace Go.Arc
open Go.Ab
variable {r : Rgs} {f : Fil} {d e a : Int}
theorem Runs.len {K:Int->Int} {b:Int} : ∀ {l:List Pce} {a:Int},Runs K b a l->a+l.length<=b
 | [],a,h=>by have:a=b:=h; simp; omega
 | p::l,a,h=>by
  have:=h.2.2.2.2.len;have:=h.2.1;simp only[List.length_cons];omega
end Go.Arc
namespace Go.Arc
open Go.Ab
structure Stp where
 kind:Int
 num:Int
 fst:Int
 lst:Int
 txt:Str
 deriving DecidableEq
abbrev Stp.cs (s:Stp):List V:=[vi s.kind,vi s.num,vi s.fst,vi s.lst,.str s.txt]
end Go.Arc
namespace Go.Arc
open Go.Ab
variable {r : Rgs} {f : Fil} {d : Int}
theorem vdt_kind:(d<f.opn/\(vdt r f d).kind=0)\/(¬d<f.opn/\gone1 r f d=true/\(vdt r f d).kind=1)\/(¬d<f.opn/\gone1 r f d=false/\gone2 r f d=true/\(vdt r f d).kind=2)\/
  (¬d<f.opn/\gone1 r f d=false/\gone2 r f d=false/\((vdt r f d).kind=0\/(vdt r f d).kind=3\/(vdt r f d).kind=4\/
   ((vdt r f d).kind=5/\(vdt r f d).hls=[]/\∃q∈jaf r f d,jcc f d q=true)\/
   ((∀q∈jaf r f d,jcc f d q=false)/\((vdt r f d).kind=6\/(vdt r f d).kind=7\/(vdt r f d).kind=8\/(vdt r f d).kind=9)))):=by
 have hs:state f d=0↔d<f.opn:=by
  unfold Arc.state;by_cases h1:d<f.opn
  ·simp[h1]
  ·by_cases h2:d<f.cld <;> simp[h1,h2]
 by_cases h0:d<f.opn
 ·exact .inl ⟨h0,by simp only[vdt]; rw[if_pos (hs.2 h0)]⟩
 refine .inr ?_;have h0':¬state f d=0:=fun e=>h0 (hs.1 e);cases h1:gone1 r f d with
 | true=>exact .inl ⟨h0,rfl,by simp only[vdt]; rw[if_neg h0',if_pos h1]⟩
 | false=>
  refine .inr ?_;have h1':¬gone1 r f d=true:=by rw[h1]; exact Bool.false_ne_true
  cases h2:gone2 r f d with
  | true=>exact .inl ⟨h0,rfl,rfl,by simp only[vdt]; rw[if_neg h0',if_neg h1',if_pos h2]⟩
  | false=>
   refine .inr ⟨h0,rfl,rfl,?_⟩;have h2':¬gone2 r f d=true:=by rw[h2]; exact Bool.false_ne_true
   simp only[vdt];rw[if_neg h0',if_neg h1',if_neg h2'];by_cases h3:jaf r f d=[]
   ·rw[if_pos h3]; exact .inl rfl
   rw[if_neg h3];by_cases h4:state f d=1
   ·rw[if_pos h4]; exact .inr (.inl rfl)
   rw[if_neg h4];cases h5:(jaf r f d).find? je7 with
   | some q=>exact .inr (.inr (.inl rfl))
   | none=>
    cases h6:(jaf r f d).find? (jcc f d) with
    | some q=>exact .inr (.inr (.inr (.inl ⟨rfl,rfl,q,List.mem_of_find?_eq_some h6,List.find?_some (p:=jcc f d) h6⟩)))
    | none=>
     refine .inr (.inr (.inr (.inr ⟨fun q hq=>eq_false_of_ne_true (List.find?_eq_none.1 h6 q hq),?_⟩)))
     dsimp only
     by_cases h7:d<=(jdk f d (jaf r f d) (-1,0)).1
     ·rw[if_pos h7]; exact .inl rfl
     rw[if_neg h7];by_cases h8:jbr r.ofs r.pls r.hls f d≠[]
     ·rw[if_pos h8]; exact .inr (.inl rfl)
     rw[if_neg h8];by_cases h9:(jaf r f d).any jf9=true\/selB r f d=true
     ·rw[if_pos h9]; exact .inr (.inr (.inr rfl))
     ·rw[if_neg h9]; exact .inr (.inr (.inl rfl))
end Go.Arc
namespace Go.Arc
open Go.Ab
abbrev decS (n:Int):Str:=Lib.itoa n
theorem decS_nn {n:Int} (h:¬n<0):decS n=Lib.decDigits n.toNat:=if_neg h
theorem jfr {α:Type} (p:α->Bool) (l:List α):(ix p l= -1/\l.find? p=none)\/∃(k:Nat) (q:α),ix p l=k/\k<l.length/\l[k]? = some q/\q∈l/\l.find? p=some q:=by
 unfold ix;cases h:l.findIdx? p with
 | none=>
  left;rw[List.findIdx?_eq_none_iff] at h;exact ⟨rfl,List.find?_eq_none.2 fun x hx=>by simp[h x hx]⟩
 | some k=>
  right;obtain ⟨hk,h1,h2⟩:=List.findIdx?_eq_some_iff_getElem.1 h;exact ⟨k,l[k],rfl,hk,gge hk,List.getElem_mem hk,List.find?_eq_some_iff_getElem.2 ⟨h1,k,hk,rfl,fun j hj=>by simpa using h2 j hj⟩⟩
def askE (r:Rgs) (id:Int):Int:=if checkG r≠0 then 1 else if jbi r.fls id<0 then 7 else 0
theorem askE_1 {r:Rgs} {id:Int} (h:checkG r≠0):askE r id=1:=if_pos h
theorem askE_7 {r:Rgs} {id:Int} (h:checkG r=0) (h2:jbi r.fls id<0):askE r id=7:=by unfold askE; rw[if_neg (fun e=>e h),if_pos h2]
theorem askE_0 {r:Rgs} {id:Int} (h:checkG r=0) (h2:¬jbi r.fls id<0):askE r id=0:=by unfold askE; rw[if_neg (fun e=>e h),if_neg h2]
def filA (r:Rgs) (id:Int):Fil:=match r.fls.find? (jda id) with
 | some f=>f
 | none=>⟨0,0,0,0,[],[],0,[]⟩
theorem find_fil {r:Rgs} {id:Int} (h:¬jbi r.fls id<0):∃k:Nat,jbi r.fls id=k/\k<r.fls.length/\r.fls[k]? = some (filA r id)/\filA r id∈r.fls/\(filA r id).id=id:=by
 rcases jfr (jda id) r.fls with ⟨h1,-⟩ | ⟨k,q,h1,h2,h3,h4,h5⟩
 ·exact absurd (show jbi r.fls id<0 by unfold jbi; rw[h1]; decide) h
 ·have he:filA r id=q:=by unfold filA; rw[h5]
  rw[he];exact ⟨k,h1,h2,h3,h4,of_decide_eq_true (p:=q.id=id) (show jda id q=true from List.find?_some (p:=jda id) h5)⟩
def onE (r:Rgs) (id d:Int):Int:=if askE r id≠0 then askE r id else if dayG d=false then 2 else 0
def vdtZ:Vdt:=⟨0,0,0,0,0,[]⟩
def onV (r:Rgs) (id d:Int):Vdt:=if onE r id d=0 then vdt r (filA r id) d else vdtZ
theorem filA_fit {r:Rgs} (h:r.Fit) {id:Int} (h2:¬jbi r.fls id<0):(filA r id).Fit:=by
 obtain ⟨k,-,-,-,hm,-⟩:=find_fil h2;exact h.fls.2 _ hm
theorem ask_ok {r:Rgs} {id:Int} (h:askE r id=0):checkG r=0/\¬jbi r.fls id<0:=by
 unfold askE at h;split at h
 ·cases h
 rename_i h1;split at h
 ·cases h
 ·exact ⟨om,by assumption⟩
theorem decN_len {n:Nat} (h:n<10000000000):(Lib.decDigits n).length<=10:=by
 rw[Lib.decDigits_length];refine Nat.le_of_not_lt fun hlt=> ?_
 have key:∀(k u:Nat),u<10 ^ (k+1)->Lib.nDigits u<=k+1:=by
  intro k
  induction k with
  | zero=>intro u hu; rw[Lib.nDigits_small (by simpa using hu)]; exact Nat.le_refl _
  | succ k ih=>
   intro u hu;by_cases h10:u<10
   ·rw[Lib.nDigits_small h10]; omega
   ·exact zdf
 exact absurd (key 9 n h) om
def diffN:List Stp->List Stp->Option Nat
  | [],[]=>none
  | a::l,b::x=>if a=b then (diffN l x).map (· + 1) else some 0
  | [],_::_=>some 0
  | _::_,[]=>some 0
def diffS (l x:List Stp):Int:=match diffN l x with
 | some i=>i
 | none=> -1
def NoCtl (s:Str):Prop:=∀c∈s,32<=c.toNat
theorem NoCtl.app {s t:Str} (h:NoCtl s) (g:NoCtl t):NoCtl (s++t):=fun c hc=>(List.mem_append.1 hc).elim (h c) (g c)
end Go.Arc
namespace Go.Arc
open Go.Ab
variable {r : Rgs} {f : Fil} {d : Int}
structure FactS (r:Rgs) (f:Fil) (d:Int) (s:Stp):Prop where
 opn:s.kind=8->s.fst=f.opn/\s.lst=f.cld
 cls:s.kind=1->s.txt=(jaw r.pls f d).1/\((jaw r.pls f d).2=0↔0<s.num)
 trg:s.kind=3->∃(i:Nat) (q:Rul),findR r.rls s.num=i/\r.rls[i]? = some q/\trig f q.trg d=some (s.fst,s.lst)
 due:s.kind=4->∃(i:Nat) (q:Rul) (t:Int×Int),findR r.rls s.num=i/\r.rls[i]? = some q/\trig f q.trg d=some t/\dueR q t.1 t.2=some s.lst
 sel:s.kind=5->∃c∈r.sls,c.smp=s.num/\c.day=s.fst/\jd7 d f c.day c.fls=true
end Go.Arc
