/- A part of this claim. -/
import Derived.Test.YtdljpbdmcgmalaaGreatDoorPl1
namespace Go.Arc
open Go.Ab
structure Note where
 name:Str
 fst:Int
 lst:Int
 rcd:Int
 deriving DecidableEq
structure Fil where
 id:Int
 ofc:Int
 opn:Int
 cld:Int
 cls:Str
 title:Str
 pts:Int
 nts:List Note
abbrev Note.cs (n:Note):List V:=[.str n.name,vi n.fst,vi n.lst,vi n.rcd]
abbrev ntss (l:List Note):V:= .slice 4 (l.map Note.cs)
abbrev Fil.cs (f:Fil):List V:=[vi f.id,vi f.ofc,vi f.opn,vi f.cld,.str f.cls,.str f.title,vi f.pts,ntss f.nts]
abbrev fils (l:List Fil):V:= .slice 8 (l.map Fil.cs)
abbrev datg (a b:Int):V:= .agg [vi a,vi b]
def Note.Fit (n:Note):Prop:=n.name.length<=1048576
def Fil.Fit (f:Fil):Prop:=f.cls.length<=1048576/\f.title.length<=1048576/\f.nts.length<=1048576/\∀n∈f.nts,n.Fit
def FitsF (l:List Fil):Prop:=l.length<=1048576/\∀f∈l,f.Fit
def jhx (d:Int) (n:Note):Bool:=decide (n.rcd<=d)
def jfs (f:Fil) (d:Int):List Note:=f.nts.filter (jhx d)
def gtN (a b:Note):Bool:=decide (b.lst<a.lst) || (decide (a.lst=b.lst) && decide (b.fst<a.fst))
def bestN:Option Note->List Note->Option Note
 | o,[]=>o
 | none,n::l=>bestN (some n) l
 | some m,n::l=>bestN (some (if gtN n m=true then n else m)) l
def jg2:Str:=[111,112,101,110,101,100]
def sClosed:Str:=[99,108,111,115,101,100]
def onD (d day:Int):Option (Int×Int):=if day<d then none else some (d,d)
def named (s:Str) (n:Note):Bool:=n.name == s
def own (f:Fil) (s:Str) (d:Int):List Note:=(jfs f d).filter (named s)
def best (f:Fil) (s:Str) (d:Int):Option Note:=bestN none (own f s d)
def trig (f:Fil) (s:Str) (d:Int):Option (Int×Int):=
 if s=jg2 then onD f.opn d else if s=sClosed then onD f.cld d else (best f s d).map fun n=>(n.fst,n.lst)
abbrev datgV (r:Option (Int×Int)):V:=match r with
 | some x=> .tup [datg x.1 x.2,vb true]
 | none=> .tup [datg 0 0,vb false]
abbrev trigV (f:Fil) (s:Str) (d:Int):V:=datgV (trig f s d)
def state (f:Fil) (d:Int):Int:=if d<f.opn then 0 else if d<f.cld then 1 else 2
def jb4 (l:List Plan) (f:Fil) (d:Int):Str×Int:=
 if jbe l=false then ([],1)
 else if idx l f.opn<0\/idx l d<idx l f.opn then ([],24)
 else if has (pl l (idx l f.opn).toNat) f.cls=false then ([],24)
 else (walkI l (idx l f.opn+1) (idx l d+1) f.cls,0)
abbrev classV (l:List Plan) (f:Fil) (d:Int):V:= .tup [.str (jb4 l f d).1,vi (jb4 l f d).2]
theorem trig_own {f:Fil} {s:Str} {d:Int} (h1:s≠jg2) (h2:s≠sClosed):trig f s d=(best f s d).map fun n=>(n.fst,n.lst):=by
 unfold trig; rw[if_neg h1,if_neg h2]
end Go.Arc
