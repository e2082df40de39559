/- A part of this claim. -/
import Derived.Test.YtagljlfkpofdnaaGreatDoorBaS
namespace Go.Arc
open Go.Ab
structure Smp where
 id:Int
 mth:Int
 n:Int
 sta:Int
 cls:Str
 seed:Str
abbrev Smp.cs (s:Smp):List V:=[vi s.id,vi s.mth,vi s.n,vi s.sta,.str s.cls,.str s.seed]
def risU:Str->Bool
 | a::b::r=>decide (a.toNat<b.toNat) && risU (b::r)
 | _=>true
def capB (c:UInt8):Bool:=decide (65<=c.toNat) && decide (c.toNat<=90)
def letB (s:Str):Bool:=s.all capB && risU s && !decide (s=[])
def numB (s:Smp):Bool:=if s.mth=1 then decide (1<=s.n/\s.n<=256) && decide (0<=s.sta/\s.sta<=s.n-1) else
 decide (s.sta=0) && (if s.mth=2 then decide (0<=s.n/\s.n<=256) else if s.mth=3 then decide (s.n=0) else decide (0<=s.n/\s.n<=100))
def seedB (s:Smp):Bool:=if s.mth=2 then name s.seed else if s.mth=3 then letB s.seed else decide (s.seed=[])
def smpE (s:Smp):Int:=if idB s.id=false\/¬(1<=s.mth/\s.mth<=4)\/numB s=false then 2 else if (parse s.cls).isSome=false then 3 else if seedB s=false then 1 else 0
def candB (r:Rgs) (cls:Str) (d:Int) (f:Fil):Bool:=decide (state f d=2) && !(gone1 r f d || gone2 r f d) && decide ((classR r.pls f d).2=0) && within (classR r.pls f d).1 cls
def candL (r:Rgs) (cls:Str) (d:Int):List Fil:=r.fls.filter (candB r cls d)
def candE (r:Rgs) (cls:Str) (d:Int):Int:=if checkG r≠0 then 1 else if (parse cls).isSome=false then 3 else if dayG d=false then 2 else 0
def candR (r:Rgs) (cls:Str) (d:Int):List Fil:=if candE r cls d=0 then candL r cls d else []
def idsF (l:List Fil):List Int:=l.map (·.id)
def scrT (seed:Str) (n:Int):Str:=seed++[32]++decS n
def scrD (seed:Str) (n:Int):Str:=sumD (scrT seed n)
def scrR (seed:Str) (n:Int):Str×Int:=if name seed=false then ([],4) else if idB n=false then ([],2) else (scrD seed n,0)
theorem risU_iff:∀l:Str,risU l=true↔∀(i:Nat) x y,l[i]? = some x->l[i+1]? = some y->x.toNat<y.toNat
 | []=>by simp[risU]
 | [a]=>by simp[risU]
 | a::b::r=>by
  rw[risU,Bool.and_eq_true,decide_eq_true_eq,risU_iff (b::r)];constructor
  ·rintro ⟨h1,h2⟩ i x y hx hy;cases i with
   | zero=>simp at hx hy; subst hx; subst hy; exact h1
   | succ i=>exact h2 i x y (by simpa using hx) (by simpa using hy)
  ·intro h;exact ⟨h 0 a b rfl rfl,fun i x y hx hy=>h (i+1) x y (by simpa using hx) (by simpa using hy)⟩
theorem letB_iff (s:Str):letB s=true↔(∀c∈s,capB c=true)/\(∀(i:Nat) x y,s[i]? = some x->s[i+1]? = some y->x.toNat<y.toNat)/\s≠[]:=by
 unfold letB;rw[Bool.and_eq_true,Bool.and_eq_true,List.all_eq_true,risU_iff,Bool.not_eq_true',decide_eq_false_iff_not];constructor
 ·rintro ⟨⟨a,b⟩,c⟩; exact ⟨a,b,c⟩
 ·rintro ⟨a,b,c⟩; exact ⟨⟨a,b⟩,c⟩
theorem letB_no {s:Str} (h:¬((∀c∈s,capB c=true)/\(∀(i:Nat) x y,s[i]? = some x->s[i+1]? = some y->x.toNat<y.toNat)/\s≠[])):letB s=false:=Bool.eq_false_iff.2 fun e=>h ((letB_iff s).1 e)
theorem fils_rise {r:Rgs} (h:OkG r):∀(j i:Nat) (f g:Fil),i<j->r.fls[i]? = some f->r.fls[j]? = some g->f.id<g.id
 | 0,i,_,_,hij,_,_=>absurd hij (Nat.not_lt_zero i)
 | j+1,i,f,g,hij,hf,hg=>by
  have hz:=h.fls;unfold checkF at hz;split at hz
  ·cases hz
  obtain ⟨-,hz⟩:=chk_zero hz;have hjl:j+1<r.fls.length:=(List.getElem?_eq_some_iff.1 hg).1;obtain ⟨x,hx⟩:∃x,r.fls[j]? = some x:=⟨_,List.getElem?_eq_getElem (by omega)⟩;have h1:=(faultF_zero hg (hz (j+1) hjl)).2.1
  have h2:x.id<g.id:=by
   unfold prevF at h1;rw[if_neg (Nat.succ_ne_zero j),Nat.add_sub_cancel,hx] at h1;simp only[decide_eq_false_iff_not] at h1;omega
  rcases Nat.lt_or_ge i j with hlt | hge
  ·have:=fils_rise h j i f x hlt hf hx;omega
  ·have:i=j:=by omega
   subst this;rw[hf] at hx;cases hx;exact h2
end Go.Arc
namespace Go.Arc
open Go.Ab
def evL {α:Type} (n:Nat):Nat->List α->List α
 | _,[]=>[]
 | 0,a::r=>a::evL n (n-1) r
 | k+1,_::r=>evL n k r
theorem evL_nil {α:Type} (n k:Nat):evL n k ([]:List α)=[]:=by cases k <;> rfl
theorem evL_drop {α:Type} (n:Nat):∀(k:Nat) (l:List α),evL n k l=evL n 0 (l.drop k)
 | 0,l=>by rw[List.drop_zero]
 | k+1,[]=>by rw[List.drop_nil,evL_nil,evL_nil]
 | k+1,_::r=>by rw[evL,List.drop_succ_cons]; exact evL_drop n k r
theorem evL_step {α:Type} {n:Nat} (hn:1<=n) {l:List α} {i:Nat} {x:α} (h:l[i]? = some x):evL n 0 (l.drop i)=x::evL n 0 (l.drop (i+n)):=by
 obtain ⟨hlt,rfl⟩:=List.getElem?_eq_some_iff.1 h;rw[List.drop_eq_getElem_cons hlt,evL,evL_drop n (n-1),List.drop_drop,show i+1+(n-1)=i+n by omega]
theorem evL_sub {α:Type} (n:Nat):∀(l:List α) (k:Nat),(evL n k l).Sublist l
 | [],k=>by rw[evL_nil]; exact List.Sublist.refl _
 | a::r,0=>by rw[evL]; exact (evL_sub n r (n-1)).cons_cons a
 | a::r,k+1=>by rw[evL]; exact (evL_sub n r k).cons a
theorem evL_mem {α:Type} {n:Nat} (hn:1<=n) {x:α} : ∀(l:List α) (k:Nat),x∈evL n k l↔∃i,l[i]? = some x/\k<=i/\(i-k) % n=0
 | [],k=>by rw[evL_nil]; simp
 | a::r,0=>by
  rw[evL,List.mem_cons,evL_mem hn r (n-1)];constructor
  ·rintro (h | ⟨i,h1,h2,h3⟩)
   ·subst h; exact ⟨0,rfl,Nat.le_refl _,by simp⟩
   ·refine ⟨i+1,by simpa using h1,Nat.zero_le _,?_⟩;rw[show i+1-0=(i-(n-1))+n by omega,Nat.add_mod_right]; exact h3
  ·rintro ⟨i,h1,-,h3⟩;cases i with
   | zero=>left; simpa using h1.symm
   | succ j=>
    right
    have hj:n-1<=j:=by
     rcases Nat.lt_or_ge j (n-1) with h | h
     ·rw[Nat.sub_zero,Nat.mod_eq_of_lt (by omega)] at h3; omega
     ·exact h
    refine ⟨j,by simpa using h1,hj,?_⟩;rw[show j+1-0=(j-(n-1))+n by omega,Nat.add_mod_right] at h3;exact h3
 | a::r,k+1=>by
  rw[evL,evL_mem hn r k];constructor
  ·rintro ⟨i,h1,h2,h3⟩;exact ⟨i+1,by simpa using h1,by omega,by rw[show i+1-(k+1)=i-k by omega]; exact h3⟩
  ·rintro ⟨i,h1,h2,h3⟩;cases i with
   | zero=>omega
   | succ j=>exact ⟨j,by simpa using h1,by omega,by rw[show j+1-(k+1)=j-k by omega] at h3; exact h3⟩
def insR {α:Type} (lt:α->α->Bool) (x:α):List α->List α
 | []=>[x]
 | y::ys=>if lt x y=true then y::insR lt x ys else x::y::ys
def insF {α:Type} (lt:α->α->Bool) (x:α) (l:List α):List α:=(insR lt x l.reverse).reverse
def srtS {α:Type} (lt:α->α->Bool) (l:List α):List α:=l.foldl (fun acc x=>insF lt x acc) []
theorem insR_app {α:Type} {lt:α->α->Bool} {x:α} : ∀ {a:List α} (b:List α),(∀y∈a,lt x y=true)->insR lt x (a++b)=a++insR lt x b
 | [],_,_=>rfl
 | y::r,b,h=>by
  rw[List.cons_append,insR,if_pos (h y (List.mem_cons_self ..)),insR_app b fun z hz=>h z (List.mem_cons_of_mem _ hz)]; rfl
theorem insF_at {α:Type} {lt:α->α->Bool} {x:α} {l:List α} {j:Nat} (hj:j<=l.length) (h1:∀y∈l.drop j,lt x y=true) (h2:j=0\/∃y,l[j-1]? = some y/\lt x y=false):
  insF lt x l=l.take j++x::l.drop j:=by
 have e:l.reverse=(l.drop j).reverse++(l.take j).reverse:=by rw[<- List.reverse_append,List.take_append_drop]
 have e2:insR lt x (l.take j).reverse=x::(l.take j).reverse:=by
  rcases h2 with rfl | ⟨y,hy,hf⟩
  ·rfl
  ·have hpos:j≠0\/j=0:=by omega
   rcases Nat.eq_zero_or_pos j with rfl | hpos
   ·rfl
   ·obtain ⟨k,rfl⟩:∃k,j=k+1:=⟨j-1,by omega⟩;rw[Nat.add_sub_cancel] at hy;obtain ⟨hlt,rfl⟩:=List.getElem?_eq_some_iff.1 hy;rw[List.take_succ_eq_append_getElem hlt,List.reverse_append];simp only[List.reverse_cons,List.reverse_nil,List.nil_append,List.cons_append];rw[insR,if_neg (by rw[hf]; decide)]
 unfold insF;rw[e,insR_app _ (fun y hy=>h1 y (List.mem_reverse.1 hy)),e2];simp
theorem insR_perm {α:Type} (lt:α->α->Bool) (x:α):∀l:List α,(insR lt x l).Perm (x::l)
 | []=>List.Perm.refl _
 | y::ys=>by
  rw[insR];split
  ·exact ((insR_perm lt x ys).cons y).trans (List.Perm.swap x y ys)
  ·exact List.Perm.refl _
theorem insF_perm {α:Type} (lt:α->α->Bool) (x:α) (l:List α):(insF lt x l).Perm (x::l):=
 (List.reverse_perm _).trans ((insR_perm lt x l.reverse).trans ((List.reverse_perm l).cons x))
theorem srtS_snoc {α:Type} (lt:α->α->Bool) (l:List α) (x:α):srtS lt (l++[x])=insF lt x (srtS lt l):=by
 unfold srtS; rw[List.foldl_append]; rfl
theorem srtS_take {α:Type} {lt:α->α->Bool} {l:List α} {i:Nat} {x:α} (h:l[i]? = some x):srtS lt (l.take (i+1))=insF lt x (srtS lt (l.take i)):=by
 obtain ⟨hlt,rfl⟩:=List.getElem?_eq_some_iff.1 h;rw[List.take_succ_eq_append_getElem hlt,srtS_snoc]
theorem srtS_permA {α:Type} (lt:α->α->Bool):∀(l acc:List α),(l.foldl (fun acc x=>insF lt x acc) acc).Perm (l++acc)
 | [],acc=>List.Perm.refl _
 | x::r,acc=>by
  rw[List.foldl_cons];refine (srtS_permA lt r _).trans ?_;refine ((insF_perm lt x acc).append_left r).trans ?_;exact List.perm_middle
theorem srtS_perm {α:Type} (lt:α->α->Bool) (l:List α):(srtS lt l).Perm l:=by
 have:=srtS_permA lt l []
 rwa [List.append_nil] at this
theorem srtS_len {α:Type} (lt:α->α->Bool) (l:List α):(srtS lt l).length=l.length:=(srtS_perm lt l).length_eq
def upB (c:UInt8):UInt8:=if 97<=c.toNat/\c.toNat<=122 then c-32 else c
def lettB (s:Smp) (f:Fil):Bool:=match f.title with
 | []=>false
 | c::_=>s.seed.any fun b=>decide (b=upB c)
def pntB (s:Smp) (f:Fil):Bool:=decide (s.n<=f.pts)
def scrB (seed:Str) (a b:Fil):Bool:=Op.bytesLess (scrD seed a.id) (scrD seed b.id)
def leaF (seed:Str) (l:List Fil) (n:Nat):List Fil:=(srtS (scrB seed) l).take n
def chsF (s:Smp) (l:List Fil):List Fil:=if s.mth=1 then evL s.n.toNat s.sta.toNat l else if s.mth=2 then leaF s.seed l (min s.n.toNat l.length) else
 if s.mth=3 then l.filter (lettB s) else l.filter (pntB s)
def slcE (r:Rgs) (s:Smp) (d:Int):Int:=if smpE s≠0 then smpE s else candE r s.cls d
def slcR (r:Rgs) (s:Smp) (d:Int):List Int:=if slcE r s d=0 then sortI (idsF (chsF s (candL r s.cls d))) else []
def canR (r:Rgs) (cls:Str) (d:Int):List Int:=sortI (idsF (candR r cls d))
theorem chs_mem {s:Smp} {l:List Fil} {f:Fil} (h:f∈chsF s l):f∈l:=by
 unfold chsF at h;split at h
 ·exact (evL_sub _ _ _).subset h
 split at h
 ·exact (srtS_perm _ _).mem_iff.1 (List.mem_of_mem_take h)
 split at h
 ·exact (List.mem_filter.1 h).1
 ·exact (List.mem_filter.1 h).1
theorem chs_len (s:Smp) (l:List Fil):(chsF s l).length<=l.length:=by
 unfold chsF;split
 ·exact (evL_sub _ _ _).length_le
 split
 ·unfold leaF; rw[List.length_take,srtS_len]; omega
 split
 ·exact List.length_filter_le _ _
 ·exact List.length_filter_le _ _
theorem fls_pair {r:Rgs} (h:OkG r):r.fls.Pairwise fun f g=>f.id<g.id:=by
 rw[List.pairwise_iff_getElem];intro i j hi hj hij;exact fils_rise h j i _ _ hij (List.getElem?_eq_getElem hi) (List.getElem?_eq_getElem hj)
theorem cand_pair {r:Rgs} (h:OkG r) (cls:Str) (d:Int):(candL r cls d).Pairwise fun f g=>f.id<g.id:=(fls_pair h).filter _
theorem ids_pair {l:List Fil} (h:l.Pairwise fun f g=>f.id<g.id):(idsF l).Pairwise (· < ·):=by
  unfold idsF;rw[List.pairwise_map];exact h
theorem sortI_rise {l:List Int} (h:l.Pairwise (· < ·)):sortI l=l:=by
  unfold sortI;exact List.mergeSort_of_pairwise (h.imp fun {a b} hab=>by simp only[decide_eq_true_eq]; omega)
theorem sortI_mem {l:List Int} {x:Int} : x∈sortI l↔x∈l:=List.mem_mergeSort
theorem canR_eq {r:Rgs} {cls:Str} {d:Int} (h:OkG r):canR r cls d=idsF (candR r cls d):=by
 unfold canR candR;split
 ·exact sortI_rise (ids_pair (cand_pair h cls d))
 ·exact sortI_rise List.Pairwise.nil
theorem pair_at {l:List Fil} (h:l.Pairwise fun f g=>f.id<g.id) {i j:Nat} {f g:Fil} (hf:l[i]? = some f) (hg:l[j]? = some g) (he:f.id=g.id):i=j:=by
 obtain ⟨hi,rfl⟩:=List.getElem?_eq_some_iff.1 hf;obtain ⟨hj,rfl⟩:=List.getElem?_eq_some_iff.1 hg;rw[List.pairwise_iff_getElem] at h;rcases Nat.lt_trichotomy i j with hlt | he' | hlt
 ·have:=h i j hi hj hlt; omega
 ·exact he'
 ·have:=h j i hj hi hlt; omega
theorem ids_any {l:List Fil} {n:Int} : ((idsF l).any fun x=>decide (n=x))=l.any fun f=>decide (n=f.id):=by
 unfold idsF; rw[List.any_map]; rfl
theorem any_sort {l:List Int} {n:Int} : ((sortI l).any fun x=>decide (n=x))=l.any fun x=>decide (n=x):=by
 rw[Bool.eq_iff_iff,List.any_eq_true,List.any_eq_true];constructor <;> rintro ⟨x,h1,h2⟩
 ·exact ⟨x,sortI_mem.1 h1,h2⟩
 ·exact ⟨x,sortI_mem.2 h1,h2⟩
theorem sel_every {l:List Fil} (h:l.Pairwise fun f g=>f.id<g.id) {n k i:Nat} (hn:1<=n) {f:Fil} (hf:l[i]? = some f):
  ((evL n k l).any fun g=>decide (f.id=g.id))=decide (k<=i/\(i-k) % n=0):=by
 rw[Bool.eq_iff_iff,List.any_eq_true,decide_eq_true_eq];constructor
 ·rintro ⟨g,hg,he⟩;obtain ⟨j,h1,h2,h3⟩:=(evL_mem hn l k).1 hg;have:=pair_at h hf h1 (of_decide_eq_true he);subst this;exact ⟨h2,h3⟩
 ·rintro ⟨h1,h2⟩;exact ⟨f,(evL_mem hn l k).2 ⟨i,hf,h1,h2⟩,decide_eq_true rfl⟩
theorem sel_filter {l:List Fil} (h:l.Pairwise fun f g=>f.id<g.id) {p:Fil->Bool} {i:Nat} {f:Fil} (hf:l[i]? = some f):((l.filter p).any fun g=>decide (f.id=g.id))=p f:=by
 rw[Bool.eq_iff_iff,List.any_eq_true];constructor
 ·rintro ⟨g,hg,he⟩;obtain ⟨h1,h2⟩:=List.mem_filter.1 hg;obtain ⟨j,hj⟩:=List.mem_iff_getElem?.1 h1;have:=pair_at h hf hj (of_decide_eq_true he);subst this;rw[hf] at hj; cases hj; exact h2
 ·intro hp;exact ⟨f,List.mem_filter.2 ⟨List.mem_iff_getElem?.2 ⟨i,hf⟩,hp⟩,decide_eq_true rfl⟩
end Go.Arc
namespace Go.Arc
open Go.Ab
def prevAt {α:Type} (l:List α) (i:Nat):Option α:=if i=0 then none else l[i-1]?
def earlyC (q:Option Clk) (c:Clk):Bool:=match q with | some q=>decide (c.id<=q.id) | none=>false
def clkErr (l:List Clk) (i:Nat):Int:=match l[i]? with
 | none=>0
 | some c=>if idB c.id=false\/c.role<1\/3<c.role\/goodS c.frm c.til=false then 2 else if name c.name=false then 4 else
  if earlyC (prevAt l i) c=true then 5 else 0
def clkHas (n d:Int) (c:Clk):Bool:=decide (c.id=n) && inS c.frm c.til d
def clkOn (l:List Clk) (n d:Int):Bool:=l.any (clkHas n d)
def isIdP (n:Int) (p:Prp):Bool:=decide (p.id=n)
def isCrtP (n:Int) (c:Crt):Bool:=decide (c.prp=n)
def certd (l:List Crt) (n:Int):Bool:=l.any (isCrtP n)
def holdP (d f:Int) (q:Prp):Bool:=decide (d<q.wdr) && hasI f q.fls
def takenP (l:List Prp) (d f:Int):Bool:=l.any (holdP d f)
def wdrB (p:Prp):Bool:=(decide (p.day<=p.wdr) && decide (p.wdr<=1048575)) || decide (p.wdr=1048576)
def earlyP (q:Option Prp) (p:Prp):Bool:=match q with | some q=>decide (p.id<=q.id) || decide (p.day<q.day) | none=>false
def prpE (r:Rgs) (pre:List Prp) (q:Option Prp) (p:Prp):Int:=
 if idB p.id=false\/dayG p.day=false\/wdrB p=false then 2 else
 if earlyP q p=true then 5 else
 if clkOn r.cks p.clk p.day=false then 7 else if p.fls=[] then 9 else
 if p.fls.all (hasF r.fls)=false then 7 else if risI p.fls=false then 5 else
 if p.fls.any (takenP pre p.day)=true then 6 else 0
def prpErr (r:Rgs) (i:Nat):Int:=match r.pps[i]? with
 | none=>0
 | some p=>prpE r (r.pps.take i) (prevAt r.pps i) p
def isApv (a b:Apv):Bool:=decide (b.prp=a.prp) && decide (b.clk=a.clk)
def earlyA (q:Option Apv) (a:Apv):Bool:=match q with | some q=>decide (a.day<q.day) | none=>false
def apvE (r:Rgs) (pre:List Apv) (q:Option Apv) (a:Apv) (p:Prp):Int:=
 if a.day<p.day\/1048575<a.day then 2 else
 if earlyA q a=true then 5 else
 if p.wdr<=a.day then 11 else if clkOn r.cks a.clk a.day=false then 7 else if a.clk=p.clk then 22 else
 if pre.any (isApv a)=true then 6 else 0
def apvErr (r:Rgs) (i:Nat):Int:=match r.aps[i]? with
 | none=>0
 | some a=>match r.pps.find? (isIdP a.prp) with
  | none=>7
  | some p=>apvE r (r.aps.take i) (prevAt r.aps i) a p
def crtB (c:Crt):Bool:=idB c.num && idB c.prp && dayG c.day && decide (1<=c.fls.length) && decide (c.fls.length<=256) && risI c.fls && c.fls.all idB && decide (c.bef.length=32)
def xCert:Str:=[99,101,114,116,105,102,105,99,97,116,101,32]
def xProposal:Str:=[32,112,114,111,112,111,115,97,108,32]
def xDayS:Str:=[32,100,97,121,32]
def xFiles:Str:=[32,102,105,108,101,115]
def flsT (l:List Int):Str:=(l.map fun f=>32::decS f).flatten
def crtT (c:Crt):Str:=xCert++decS c.num++xProposal++decS c.prp++xDayS++decS c.day++xFiles++flsT c.fls++10::c.bef
def befC (l:List Crt) (i:Nat):Str:=match prevAt l i with
 | some c=>c.dig
 | none=>List.replicate 32 0
def linkC (b:Str) (i:Nat) (c:Crt):Bool:=crtB c && decide (c.num=(i:Int)+1) && (c.dig == sumD (crtT c)) && (c.bef == b)
def linkB (l:List Crt) (i:Nat):Bool:=match l[i]? with
 | some c=>linkC (befC l i) i c
 | none=>false
def crtErr (r:Rgs) (i:Nat):Int:=match r.crs[i]? with
 | none=>0
 | some c=>match r.pps.find? (isIdP c.prp) with
  | none=>7
  | some p=>if c.fls≠p.fls then 10 else if linkB r.crs i=false then 14 else 0
def morC (r:Rgs) (c:Crt):Rgs:= { r with crs:=r.crs++[c] }
def forA (n d:Int) (a:Apv):Bool:=decide (a.prp=n) && decide (a.day<=d)
def archC (n:Int) (c:Clk):Bool:=decide (c.id=n) && decide (c.role=2)
def apvB (r:Rgs) (n d:Int):Bool:=decide (2<=(r.aps.filter (forA n d)).length) && (r.aps.filter (forA n d)).any fun a=>r.cks.any (archC a.clk)
def keepF (r:Rgs) (d f:Int):Bool:= !(decide (onE r f d=0) && decide ((onV r f d).kind=8))
def newC (r:Rgs) (n d:Int) (l:List Int):Crt:=⟨(r.crs.length:Int)+1,n,d,l,befC r.crs r.crs.length,[]⟩
def newD (r:Rgs) (n d:Int) (l:List Int):Crt:= { newC r n d l with dig:=sumD (crtT (newC r n d l)) }
def depB (l:List Int) (x:Dep):Bool:=hasI x.fil l
def lateC (q:Option Crt) (d:Int):Bool:=match q with | some c=>decide (d<c.day) | none=>false
end Go.Arc
namespace Go.Arc
open Go.Ab
structure Ok14 (r:Rgs):Prop where
 g:checkG r=0
 ck:¬ 32<r.cks.length/\∀i,i<r.cks.length->clkErr r.cks i=0
 pp:¬ 1024<r.pps.length/\∀i,i<r.pps.length->prpErr r i=0
 ap:¬ 1024<r.aps.length/\∀i,i<r.aps.length->apvErr r i=0
 cr:∀i,i<r.crs.length->crtErr r i=0
structure OkP (r:Rgs) (pre:List Prp) (q:Option Prp) (p:Prp):Prop where
 id:idB p.id=true
 day:dayG p.day=true
 wdr:wdrB p=true
 prev:∀x,q=some x->x.id<p.id/\x.day<=p.day
 clk:clkOn r.cks p.clk p.day=true
 ne:p.fls≠[]
 all:p.fls.all (hasF r.fls)=true
 ris:risI p.fls=true
 free:p.fls.any (takenP pre p.day)=false
theorem prpE_zero {r:Rgs} {pre:List Prp} {q:Option Prp} {p:Prp} : prpE r pre q p=0↔OkP r pre q p:=by
 unfold prpE;constructor
 ·intro h;by_cases h1:idB p.id=false\/dayG p.day=false\/wdrB p=false
  ·rw[if_pos h1] at h; cases h
  rw[if_neg h1] at h;have h1a:¬idB p.id=false:=fun e=>h1 (.inl e);have h1b:¬dayG p.day=false:=fun e=>h1 (.inr (.inl e));have h1c:¬wdrB p=false:=fun e=>h1 (.inr (.inr e));by_cases h2:earlyP q p=true
  ·rw[if_pos h2] at h; cases h
  rw[if_neg h2] at h;by_cases h3:clkOn r.cks p.clk p.day=false
  ·rw[if_pos h3] at h; cases h
  rw[if_neg h3] at h;by_cases h4:p.fls=[]
  ·rw[if_pos h4] at h; cases h
  rw[if_neg h4] at h;by_cases h5:p.fls.all (hasF r.fls)=false
  ·rw[if_pos h5] at h; cases h
  rw[if_neg h5] at h;by_cases h6:risI p.fls=false
  ·rw[if_pos h6] at h; cases h
  rw[if_neg h6] at h;by_cases h7:p.fls.any (takenP pre p.day)=true
  ·rw[if_pos h7] at h; cases h
  refine ⟨by simpa using h1a,by simpa using h1b,by simpa using h1c,fun x hx=> ?_,by simpa using h3,h4,by simpa using h5,by simpa using h6,by simpa using h7⟩;subst hx;unfold earlyP at h2;simp only[Bool.or_eq_true,decide_eq_true_eq] at h2;omega
 ·intro h
  have h2:¬earlyP q p=true:=by
   cases q with
   | none=>exact fun e=>nomatch e
   | some x=>
    have:=h.prev x rfl;unfold earlyP;simp only[Bool.or_eq_true,decide_eq_true_eq];omega
  rw[if_neg (by rw[h.id,h.day,h.wdr]; decide),if_neg h2,if_neg (by rw[h.clk]; decide),if_neg h.ne,if_neg (by rw[h.all]; decide),if_neg (by rw[h.ris]; decide),if_neg (by rw[h.free]; decide)]
theorem Ok14.prp {r:Rgs} (h:Ok14 r) {i:Nat} {p:Prp} (hp:r.pps[i]? = some p):OkP r (r.pps.take i) (prevAt r.pps i) p:=by
 have:=h.pp.2 i (List.getElem?_eq_some_iff.1 hp).1;unfold prpErr at this;rw[hp] at this;exact prpE_zero.1 this
theorem Ok14.ids {r:Rgs} (h:Ok14 r):∀(j i:Nat) (p q:Prp),i<j->r.pps[i]? = some p->r.pps[j]? = some q->p.id<q.id
 | 0,i,_,_,hij,_,_=>absurd hij (Nat.not_lt_zero i)
 | j+1,i,p,q,hij,hp,hq=>by
  have hjl:j<r.pps.length:=by have:=(List.getElem?_eq_some_iff.1 hq).1; omega
  obtain ⟨x,hx⟩:∃x,r.pps[j]? = some x:=⟨_,List.getElem?_eq_getElem hjl⟩;have h1:=(h.prp hq).prev x (by unfold prevAt; rw[if_neg (Nat.succ_ne_zero j)]; exact hx);rcases Nat.lt_or_ge i j with hlt | hge
  ·have:=h.ids j i p x hlt hp hx;omega
  ·have:i=j:=by omega
   subst this;rw[hp] at hx;cases hx;exact h1.1
end Go.Arc
namespace Go.Arc
open Go.Ab
structure OkE (fs:List Fil) (pre:List Elm) (q:Option Elm) (x:Elm):Prop where
 id:idB x.id=true
 day:dayG x.day=true
 all:x.fls.all (hasF fs)=true
 ris:risI x.fls=true
 prev:∀y,q=some y->y.day<=x.day
 free:x.gone=true->x.fls.any (goneB pre)=false
def lateE (q:Option Elm) (x:Elm):Bool:=match q with | some q=>decide (x.day<q.day) | none=>false
theorem elmE_eq (fs:List Fil) (pre:List Elm) (q:Option Elm) (x:Elm):elmE fs pre q x=if idB x.id=false\/dayG x.day=false then 2 else if x.fls.all (hasF fs)=false then 7 else
  if risI x.fls=false\/lateE q x=true then 5 else if x.gone=true/\x.fls.any (goneB pre)=true then 6 else 0:=rfl
theorem elmE_zero {fs:List Fil} {pre:List Elm} {q:Option Elm} {x:Elm} (h:elmE fs pre q x=0):OkE fs pre q x:=by
 rw[elmE_eq] at h;by_cases h1:idB x.id=false\/dayG x.day=false
 ·rw[if_pos h1] at h; cases h
 rw[if_neg h1] at h;by_cases h2:x.fls.all (hasF fs)=false
 ·rw[if_pos h2] at h; cases h
 rw[if_neg h2] at h;by_cases h3:risI x.fls=false\/lateE q x=true
 ·rw[if_pos h3] at h; cases h
 rw[if_neg h3] at h;by_cases h4:x.gone=true/\x.fls.any (goneB pre)=true
 ·rw[if_pos h4] at h; cases h
 have h1a:¬idB x.id=false:=fun e=>h1 (.inl e);have h1b:¬dayG x.day=false:=fun e=>h1 (.inr e);have h3a:¬risI x.fls=false:=fun e=>h3 (.inl e);refine ⟨by simpa using h1a,by simpa using h1b,by simpa using h2,by simpa using h3a,fun y hy=> ?_,fun hg=> ?_⟩
 ·subst hy;have h3b:¬(decide (x.day<y.day))=true:=fun e=>h3 (.inr e);simp only[decide_eq_true_eq] at h3b;omega
 ·cases e:x.fls.any (goneB pre) with
  | false=>rfl
  | true=>exact absurd ⟨hg,e⟩ h4
theorem elmE_of {fs:List Fil} {pre:List Elm} {q:Option Elm} {x:Elm} (h:OkE fs pre q x):elmE fs pre q x=0:=by
 have h3:¬(risI x.fls=false\/lateE q x=true):=by
  rintro (e | e)
  ·rw[h.ris] at e; cases e
  ·cases q with
   | none=>cases e
   | some y=>
    have:=h.prev y rfl;have e:decide (x.day<y.day)=true:=e;simp only[decide_eq_true_eq] at e;omega
 have h4:¬(x.gone=true/\x.fls.any (goneB pre)=true):=fun ⟨hg,e⟩=>by
  rw[h.free hg] at e;cases e
 rw[elmE_eq,if_neg (by rw[h.id,h.day]; decide),if_neg (by rw[h.all]; decide),if_neg h3,if_neg h4]
theorem elsE_cons {fs:List Fil} {pre:List Elm} {q:Option Elm} {x:Elm} {l:List Elm} : elsE fs pre q (x::l)=0↔elmE fs pre q x=0/\elsE fs (pre++[x]) (some x) l=0:=by
 rw[elsE];constructor
 ·intro h;by_cases h0:elmE fs pre q x≠0
  ·rw[if_pos h0] at h; exact absurd h h0
  ·rw[if_neg h0] at h; exact ⟨by omega,h⟩
 ·rintro ⟨h1,h2⟩;rw[if_neg fun e=>e h1];exact h2
theorem endE_mem:∀(l:List Elm) (x z:Elm),endE (some x) l=some z->z=x\/z∈l
 | [],x,z,h=>by cases h; exact .inl rfl
 | y::l,x,z,h=>by
  rcases endE_mem l y z h with rfl | h
  ·exact .inr (.head _)
  ·exact .inr (.tail _ h)
theorem els_days {fs:List Fil} : ∀(l pre:List Elm) (q:Option Elm),elsE fs pre q l=0->(∀y,q=some y->∀x∈l,y.day<=x.day)/\∀x∈l,∀z,endE q l=some z->x.day<=z.day
 | [],_,_,_=>⟨fun _ _ x hx=>(List.not_mem_nil hx).elim,fun x hx=>(List.not_mem_nil hx).elim⟩
 | x::l,pre,q,h=>by
  obtain ⟨h1,h2⟩:=elsE_cons.1 h;obtain ⟨g1,g2⟩:=els_days l (pre++[x]) (some x) h2;have hx:=elmE_zero h1;refine ⟨fun y hy z hz=> ?_,fun z hz w hw=> ?_⟩
  ·rcases List.mem_cons.1 hz with rfl | hz
   ·exact hx.prev y hy
   ·exact Int.le_trans (hx.prev y hy) (g1 x rfl z hz)
  ·rcases List.mem_cons.1 hz with rfl | hz
   ·rcases endE_mem l z w hw with rfl | hm
    ·exact Int.le_refl _
    ·exact g1 z rfl w hm
   ·exact g2 z hz w hw
theorem elsE_pre' {fs:List Fil} : ∀(l pre pre':List Elm) (q:Option Elm),(∀x∈l,∀n∈x.fls,goneB pre' n=goneB pre n)->elsE fs pre q l=0->elsE fs pre' q l=0
 | [],_,_,_,_,_=>rfl
 | x::l,pre,pre',q,hg,h=>by
  obtain ⟨h1,h2⟩:=elsE_cons.1 h;have hx:=elmE_zero h1;refine elsE_cons.2 ⟨elmE_of ⟨hx.id,hx.day,hx.all,hx.ris,hx.prev,fun e=> ?_⟩,elsE_pre' l (pre++[x]) (pre'++[x]) (some x) (fun y hy n hn=> ?_) h2⟩
  ·rw[List.any_eq_false];intro n hn;rw[hg x (.head _) n hn];exact List.any_eq_false.1 (hx.free e) n hn
  ·rw[gone_snoc,gone_snoc,hg y (.tail _ hy) n hn]
theorem endE_map_last {α:Type} (g:α->Elm) (l:List α):endE none (l.map g)=(l[l.length-1]?).map g\/l=[]:=by
 rcases List.eq_nil_or_concat l with e | ⟨m,q,e⟩
 ·exact .inr e
 ·left;rw[List.concat_eq_append] at e;subst e;rw[List.map_append,List.map_singleton,endE_last];simp
theorem Ok14.crt {r:Rgs} (h:Ok14 r) {i:Nat} {c:Crt} (hc:r.crs[i]? = some c):(∃p,r.pps.find? (isIdP c.prp)=some p/\c.fls=p.fls)/\linkC (befC r.crs i) i c=true:=by
 have hz:=h.cr i (List.getElem?_eq_some_iff.1 hc).1;unfold crtErr at hz;rw[hc] at hz;simp only at hz;cases hf:r.pps.find? (isIdP c.prp) with
 | none=>rw[hf] at hz; cases hz
 | some p=>
  rw[hf] at hz;simp only at hz;by_cases h1:c.fls≠p.fls
  ·rw[if_pos h1] at hz; cases hz
  rw[if_neg h1] at hz;by_cases h2:linkB r.crs i=false
  ·rw[if_pos h2] at hz; cases hz
  refine ⟨⟨p,rfl,Decidable.not_not.1 h1⟩,?_⟩;unfold linkB at h2;rw[hc] at h2;simpa using h2
theorem befC_len {r:Rgs} (h:Ok14 r):(befC r.crs r.crs.length).length=32:=by
 unfold befC prevAt;by_cases h0:r.crs.length=0
 ·rw[if_pos h0]; rfl
 ·rw[if_neg h0];obtain ⟨c,hc⟩:∃c,r.crs[r.crs.length-1]? = some c:=⟨_,List.getElem?_eq_getElem (by omega)⟩;rw[hc];obtain ⟨-,hl⟩:=h.crt hc;unfold linkC at hl;simp only[Bool.and_eq_true,beq_iff_eq] at hl
  show c.dig.length=32
  rw[hl.1.2];exact sumD_len _
theorem find_prp {r:Rgs} {n:Int} {p:Prp} (hp:r.pps.find? (isIdP n)=some p):p.id=n/\∃k:Nat,r.pps[k]? = some p:=by
 exact ⟨of_decide_eq_true (p:=p.id=n) (show isIdP n p=true from List.find?_some (p:=isIdP n) hp),List.getElem?_of_mem (List.mem_of_find?_eq_some hp)⟩
theorem fls_id {r:Rgs} (h:OkG r) {l:List Int} (hl:l.all (hasF r.fls)=true):l.all idB=true:=by
 rw[List.all_eq_true] at hl ⊢;intro n hn;obtain ⟨f,hf,he⟩:=List.any_eq_true.1 (hl n hn);have he:=of_decide_eq_true he;subst he;have hz:=h.fls;unfold checkF at hz;split at hz
 ·cases hz
 obtain ⟨-,hz⟩:=chk_zero hz;obtain ⟨i,hi⟩:=List.getElem?_of_mem hf;have h0:=(faultF_zero hi (hz i (List.getElem?_eq_some_iff.1 hi).1)).1;unfold badF at h0;unfold idB;refine decide_eq_true ?_;omega
theorem ok14_des {r:Rgs} (h:Ok14 r) (hl:r.crs.length<1024) {n d:Int} {p:Prp} (hp:r.pps.find? (isIdP n)=some p) (hd:dayG d=true) (h12:p.fls.length<=256)
  (hlast:lateC (prevAt r.crs r.crs.length) d=false) (hdep:r.dps.any (depB p.fls)=false) (hv:∀f∈p.fls,∀c∈r.crs,c.day<=d->hasI f c.fls=false):
  crtB (newC r n d p.fls)=true/\Ok14 (morC r (newD r n d p.fls)):=by
 obtain ⟨hid,k,hk⟩:=find_prp hp;have hP:=h.prp hk;have hG:=okG_of h.g;have hnz:1<=p.fls.length:=List.length_pos_iff.2 hP.ne
 have hB:crtB (newC r n d p.fls)=true:=by
  unfold crtB newC;simp only[Bool.and_eq_true,decide_eq_true_eq];refine ⟨⟨⟨⟨⟨⟨⟨?_,?_⟩,hd⟩,hnz⟩,h12⟩,hP.ris⟩,fls_id hG hP.all⟩,befC_len h⟩
  ·unfold idB; refine decide_eq_true ?_; omega
  ·rw[<- hid]; exact hP.id
 refine ⟨hB,?_⟩;obtain ⟨c,hc⟩:∃c,newD r n d p.fls=c:=⟨_,rfl⟩;have hcn:c.num=(r.crs.length:Int)+1:=by rw[<- hc]; rfl
 have hcp:c.prp=n:=by rw[<- hc]; rfl
 have hcd:c.day=d:=by rw[<- hc]; rfl
 have hcf:c.fls=p.fls:=by rw[<- hc]; rfl
 have hcb:c.bef=befC r.crs r.crs.length:=by rw[<- hc]; rfl
 have hcg:c.dig=sumD (crtT c):=by rw[<- hc]; rfl
 have hcB:crtB c=true:=by rw[<- hc]; exact hB
 rw[hc]
 have hlate:∀x∈r.crs,x.day<=d:=by
  intro x hx;have hm:x.el∈crtE r:=List.mem_map.2 ⟨x,hx,rfl⟩;obtain ⟨-,h2⟩:=els_days _ _ _ (listE_els hG.crs);have hne:r.crs.length≠0:=fun e=>by rw[List.eq_nil_of_length_eq_zero e] at hx; cases hx
  obtain ⟨y,hy⟩:∃y,r.crs[r.crs.length-1]? = some y:=⟨_,List.getElem?_eq_getElem (by omega)⟩
  have hyd:y.day<=d:=by
   unfold lateC prevAt at hlast;rw[if_neg hne,hy] at hlast;simp only[decide_eq_false_iff_not] at hlast;omega
  rcases endE_map_last Crt.el r.crs with e | e
  ·rw[hy] at e;have:=h2 x.el hm y.el e;have:x.day<=y.day:=this;omega
  ·rw[e] at hx; cases hx
 have hfree:∀f∈p.fls,goneB (selE r++crtE r) f=false:=by
  intro f hf;rw[show goneB (selE r++crtE r) f=goneB (crtE r) f from goneB_selA _ _ _];unfold goneB crtE;rw[List.any_map,List.any_eq_false];intro x hx e;have:=hv f hf x hx (hlate x hx);unfold hasI at this;simp only[Function.comp,Crt.el,Bool.true_and] at e;rw[this] at e;cases e
 have hcr:crtE (morC r c)=crtE r++[c.el]:=by unfold crtE morC; rw[List.map_append]; rfl
 have hg':OkG (morC r c):=by
  refine ⟨hG.ofs,hG.pls,hG.fls,hG.rls,hG.hls,hG.sls,?_,?_⟩
  ·show listE r.fls (selE r) (crtE (morC r c))=0
   rw[hcr];unfold listE;rw[if_neg (by rw[List.length_append,List.length_singleton]; unfold crtE; rw[List.length_map]; omega)];refine elsE_more _ _ _ (listE_els hG.crs) (elmE_of ⟨?_,by show dayG c.day=true; rw[hcd]; exact hd,by show c.fls.all (hasF r.fls)=true; rw[hcf]; exact hP.all,by show risI c.fls=true; rw[hcf]; exact hP.ris,fun y hy=> ?_,fun _=> ?_⟩)
   ·show idB c.num=true
    rw[hcn]; unfold idB; refine decide_eq_true ?_; omega
   ·rcases endE_map_last Crt.el r.crs with e | e
    ·have hy:endE none (r.crs.map Crt.el)=some y:=hy;rw[e] at hy;obtain ⟨z,hz,rfl⟩:=Option.map_eq_some_iff.1 hy
     show z.day<=c.day
     rw[hcd];exact hlate z (List.mem_of_getElem? hz)
    ·have hy:endE none (r.crs.map Crt.el)=some y:=hy;rw[e] at hy;cases hy
   ·show c.fls.any _=false
    rw[hcf,List.any_eq_false];intro f hf;rw[hfree f hf];decide
  ·show listE r.fls (selE r++crtE (morC r c)) (depE r)=0
   have hz:=listE_els hG.dps
   have hlen:¬ 1024<(depE r).length:=by
    have:=hG.dps;unfold listE at this;split at this
    ·cases this
    ·assumption
   unfold listE;rw[if_neg hlen,hcr,<- List.append_assoc];refine elsE_pre' _ _ _ _ (fun x hx m hm=> ?_) hz;rw[gone_snoc];obtain ⟨y,hy,rfl⟩:=List.mem_map.1 hx;have hm:m∈[y.fil]:=hm;rw[List.mem_singleton] at hm;subst hm;have:=List.any_eq_false.1 hdep y hy;unfold depB hasI at this
   have e:(c.el.gone && c.el.fls.any fun f=>decide (f=y.fil))=false:=by
    show (true && c.fls.any fun f=>decide (f=y.fil))=false
    rw[hcf,Bool.true_and];exact Bool.eq_false_iff.2 this
   rw[e,Bool.or_false]
 refine ⟨hg'.zero,h.ck,h.pp,h.ap,fun i hi=> ?_⟩;have hi:i<(r.crs++[c]).length:=hi;unfold crtErr;have e1:(morC r c).crs=r.crs++[c]:=rfl;have e2:(morC r c).pps=r.pps:=rfl;rw[e1,e2]
 have hbef:∀j,j<=r.crs.length->befC (r.crs++[c]) j=befC r.crs j:=fun j hj=>by
  unfold befC prevAt;by_cases h0:j=0
  ·rw[if_pos h0,if_pos h0]
  ·rw[if_neg h0,if_neg h0,List.getElem?_append_left (by omega)]
 rcases Nat.lt_or_ge i r.crs.length with hlt | hge
 ·have hz:=h.cr i hlt;unfold crtErr linkB at hz;unfold linkB;rw[hbef i (by omega),List.getElem?_append_left hlt];exact hz
 ·have hie:i=r.crs.length:=by rw[List.length_append,List.length_singleton] at hi; omega
  subst hie;have hget:(r.crs++[c])[r.crs.length]? = some c:=by simp
  have hlk:linkB (r.crs++[c]) r.crs.length=true:=by
   unfold linkB;rw[hget,hbef _ (Nat.le_refl _)];unfold linkC;simp only[hcB,hcn,hcb,<- hcg,decide_true,beq_self_eq_true,Bool.and_self]
  rw[hget];simp only;rw[hcp,hp];simp only;rw[if_neg (fun e=>e hcf),hlk,if_neg (by decide)]
end Go.Arc
namespace Go.Arc
open Go.Ab
theorem vdt8 {r:Rgs} {f:Fil} {d:Int} (h:(vdt r f d).kind=8):¬d<f.opn/\gone1 r f d=false/\gone2 r f d=false:=by
 rcases vdt_kind (r:=r) (f:=f) (d:=d) with ⟨-,e⟩ | ⟨-,-,e⟩ | ⟨-,-,-,e⟩ | ⟨h0,h1,h2,-⟩
 ·rw[e] at h; cases h
 ·rw[e] at h; cases h
 ·rw[e] at h; cases h
 ·exact ⟨h0,h1,h2⟩
theorem keepF_no {r:Rgs} {d f:Int} (h:keepF r d f=false):onE r f d=0/\(onV r f d).kind=8/\(vdt r (filA r f) d).kind=8:=by
 unfold keepF at h;simp only[Bool.not_eq_false',Bool.and_eq_true,decide_eq_true_eq] at h;refine ⟨h.1,h.2,?_⟩;have:=h.2;unfold onV at this;rw[if_pos h.1] at this;exact this
theorem onE_0' {r:Rgs} {id d:Int} (h:onE r id d=0):checkG r=0/\¬findF r.fls id<0/\dayG d=true:=by
 unfold onE at h;by_cases h0:askE r id≠0
 ·rw[if_pos h0] at h; exact absurd h h0
 rw[if_neg h0] at h;by_cases h1:dayG d=false
 ·rw[if_pos h1] at h; cases h
 obtain ⟨a,b⟩:=ask_ok (Decidable.not_not.1 h0);exact ⟨a,b,by simpa using h1⟩
structure Rdy (r:Rgs) (n d:Int) (p:Prp):Prop where
 ok:Ok14 r
 fp:r.pps.find? (isIdP n)=some p
 day:dayG d=true
 from_:p.day<=d
 wdr:d<p.wdr
 cert:certd r.crs n=false
 apv:apvB r n d=true
 fls:∀f∈p.fls,keepF r d f=false
structure Des (r:Rgs) (n d:Int) (p:Prp):Prop where
 rdy:Rdy r n d p
 last:lateC (prevAt r.crs r.crs.length) d=false
 dep:r.dps.any (depB p.fls)=false
theorem gone1_no {r:Rgs} {f:Fil} {d:Int} (h:gone1 r f d=false) {c:Crt} (hc:c∈r.crs) (hd:c.day<=d):hasI f.id c.fls=false:=by
 have:=List.any_eq_false.1 h c hc;unfold namedB at this;rw[decide_eq_true hd,Bool.true_and] at this;exact Bool.eq_false_iff.2 this
theorem Des.ok {r:Rgs} {n d:Int} {p:Prp} (h:Des r n d p) (hl:r.crs.length<1024) (hp:p.fls.length<=256):crtB (newC r n d p.fls)=true/\Ok14 (morC r (newD r n d p.fls)):=by
 refine ok14_des h.rdy.ok hl h.rdy.fp h.rdy.day hp h.last h.dep fun f hf c hc hcd=> ?_;obtain ⟨h1,-,h3⟩:=keepF_no (h.rdy.fls f hf);obtain ⟨-,h5,-⟩:=onE_0' h1;obtain ⟨k,-,-,-,-,hid⟩:=find_fil h5;have:=gone1_no (vdt8 h3).2.1 hc hcd;rw[hid] at this;exact this
end Go.Arc
namespace Go.Arc
open Go.Ab
structure OkC (q:Option Clk) (c:Clk):Prop where
 id:idB c.id=true
 role:1<=c.role/\c.role<=3
 span:goodS c.frm c.til=true
 name:name c.name=true
 prev:∀x,q=some x->x.id<c.id
theorem clkErr_zero {l:List Clk} {i:Nat} {c:Clk} (hc:l[i]? = some c) (h:clkErr l i=0):OkC (prevAt l i) c:=by
 unfold clkErr at h;rw[hc] at h;simp only at h;by_cases h1:idB c.id=false\/c.role<1\/3<c.role\/goodS c.frm c.til=false
 ·rw[if_pos h1] at h; cases h
 rw[if_neg h1] at h;by_cases h2:Arc.name c.name=false
 ·rw[if_pos h2] at h; cases h
 rw[if_neg h2] at h;by_cases h3:earlyC (prevAt l i) c=true
 ·rw[if_pos h3] at h; cases h
 have a1:¬idB c.id=false:=fun e=>h1 (.inl e);have a2:¬c.role<1:=fun e=>h1 (.inr (.inl e));have a3:¬ 3<c.role:=fun e=>h1 (.inr (.inr (.inl e)));have a4:¬goodS c.frm c.til=false:=fun e=>h1 (.inr (.inr (.inr e)));refine ⟨by simpa using a1,by omega,by simpa using a4,by simpa using h2,fun x hx=> ?_⟩;rw[hx] at h3;have h3:¬(decide (c.id<=x.id))=true:=h3;simp only[decide_eq_true_eq] at h3;omega
theorem Ok14.clk {r:Rgs} (h:Ok14 r) {i:Nat} {c:Clk} (hc:r.cks[i]? = some c):OkC (prevAt r.cks i) c:=
 clkErr_zero hc (h.ck.2 i (List.getElem?_eq_some_iff.1 hc).1)
theorem Ok14.cids {r:Rgs} (h:Ok14 r):∀(j i:Nat) (p q:Clk),i<j->r.cks[i]? = some p->r.cks[j]? = some q->p.id<q.id
 | 0,i,_,_,hij,_,_=>absurd hij (Nat.not_lt_zero i)
 | j+1,i,p,q,hij,hp,hq=>by
  have hjl:j<r.cks.length:=by have:=(List.getElem?_eq_some_iff.1 hq).1; omega
  obtain ⟨x,hx⟩:∃x,r.cks[j]? = some x:=⟨_,List.getElem?_eq_getElem hjl⟩;have h1:=(h.clk hq).prev x (by unfold prevAt; rw[if_neg (Nat.succ_ne_zero j)]; exact hx);rcases Nat.lt_or_ge i j with hlt | hge
  ·have:=h.cids j i p x hlt hp hx;omega
  ·have:i=j:=by omega
   subst this;rw[hp] at hx;cases hx;exact h1
theorem Ok14.cInj {r:Rgs} (h:Ok14 r) {i j:Nat} {p q:Clk} (hp:r.cks[i]? = some p) (hq:r.cks[j]? = some q) (he:p.id=q.id):i=j:=by
 rcases Nat.lt_trichotomy i j with hl | hl | hl
 ·have:=h.cids j i p q hl hp hq; omega
 ·exact hl
 ·have:=h.cids i j q p hl hq hp; omega
def isIdC (n:Int) (c:Clk):Bool:=decide (c.id=n)
theorem Ok14.one {r:Rgs} (h:Ok14 r) {n d:Int} (hc:clkOn r.cks n d=true):∃(k:Nat) (c:Clk),r.cks[k]? = some c/\c.id=n/\inS c.frm c.til d=true/\ix (clkHas n d) r.cks=k/\ix (isIdC n) r.cks=k/\r.cks.any (archC n)=decide (c.role=2):=by
 obtain ⟨c0,hm,hh⟩:=List.any_eq_true.1 hc;rcases ix_fnd (clkHas n d) r.cks with ⟨-,hn⟩ | ⟨k,c,hk,-,hx,-,hf⟩
 ·exact absurd hh (by simpa using List.find?_eq_none.1 hn c0 hm)
 have hp:clkHas n d c=true:=List.find?_some hf;unfold clkHas at hp;rw[Bool.and_eq_true,decide_eq_true_eq] at hp;have huniq:∀ {j:Nat} {x:Clk},r.cks[j]? = some x->x.id=n->j=k:=fun hj he=>h.cInj hj hx (he.trans hp.1.symm);refine ⟨k,c,hx,hp.1,hp.2,hk,?_,?_⟩
 ·rcases ix_fnd (isIdC n) r.cks with ⟨-,hn⟩ | ⟨j,x,hj,-,hxj,-,hfj⟩
  ·exact absurd (decide_eq_true hp.1) (List.find?_eq_none.1 hn c (List.mem_of_getElem? hx))
  ·have he:isIdC n x=true:=List.find?_some hfj;rw[hj,huniq hxj (of_decide_eq_true he)]
 ·rw[Bool.eq_iff_iff,List.any_eq_true,decide_eq_true_eq];constructor
  ·rintro ⟨x,hxm,ha⟩;unfold archC at ha;rw[Bool.and_eq_true,decide_eq_true_eq,decide_eq_true_eq] at ha;obtain ⟨j,hj⟩:=List.getElem?_of_mem hxm;have:=huniq hj ha.1;subst this;rw[hx] at hj;cases hj;exact ha.2
  ·intro hr;refine ⟨c,List.mem_of_getElem? hx,?_⟩;unfold archC;rw[hp.1,hr];simp
structure OkA (r:Rgs) (pre:List Apv) (q:Option Apv) (a:Apv) (p:Prp):Prop where
 day:p.day<=a.day/\a.day<=1048575
 prev:∀x,q=some x->x.day<=a.day
 wdr:a.day<p.wdr
 clk:clkOn r.cks a.clk a.day=true
 other:a.clk≠p.clk
 once:pre.any (isApv a)=false
theorem apvE_zero {r:Rgs} {pre:List Apv} {q:Option Apv} {a:Apv} {p:Prp} (h:apvE r pre q a p=0):OkA r pre q a p:=by
 unfold apvE at h;by_cases h1:a.day<p.day\/1048575<a.day
 ·rw[if_pos h1] at h; cases h
 rw[if_neg h1] at h;by_cases h2:earlyA q a=true
 ·rw[if_pos h2] at h; cases h
 rw[if_neg h2] at h;by_cases h3:p.wdr<=a.day
 ·rw[if_pos h3] at h; cases h
 rw[if_neg h3] at h;by_cases h4:clkOn r.cks a.clk a.day=false
 ·rw[if_pos h4] at h; cases h
 rw[if_neg h4] at h;by_cases h5:a.clk=p.clk
 ·rw[if_pos h5] at h; cases h
 rw[if_neg h5] at h;by_cases h6:pre.any (isApv a)=true
 ·rw[if_pos h6] at h; cases h
 refine ⟨by omega,fun x hx=> ?_,by omega,by simpa using h4,h5,by simpa using h6⟩;rw[hx] at h2;have h2:¬(decide (a.day<x.day))=true:=h2;simp only[decide_eq_true_eq] at h2;omega
theorem Ok14.apv {r:Rgs} (h:Ok14 r) {i:Nat} {a:Apv} (ha:r.aps[i]? = some a):∃p,r.pps.find? (isIdP a.prp)=some p/\OkA r (r.aps.take i) (prevAt r.aps i) a p:=by
 have hz:=h.ap.2 i (List.getElem?_eq_some_iff.1 ha).1;unfold apvErr at hz;rw[ha] at hz;simp only at hz;cases hf:r.pps.find? (isIdP a.prp) with
 | none=>rw[hf] at hz; cases hz
 | some p=>
  rw[hf] at hz;exact ⟨p,rfl,apvE_zero hz⟩
end Go.Arc
namespace Go.Arc
open Go.Ab
def sumI (l:List Int):Int:=l.foldr (fun a b=>a+b) 0
def quoOk (cs:List Int):Bool:=cs.all fun c=>decide (0<=c/\c<=1048576)
def quoE (n:Int) (cs:List Int):Int:=if 128<cs.length then 8 else if quoOk cs=false then 2 else if decide (0<=n/\n<=sumI cs)=false then 2 else 0
def baseQ (n t:Int) (cs:List Int):List Int:=cs.map fun c=>n*c / t
def remQ (n t:Int) (cs:List Int) (i:Int):Int:=n*cs.getD i.toNat 0 % t
def ltQ (n t:Int) (cs:List Int) (a b:Int):Bool:=decide (remQ n t cs b<remQ n t cs a)
def idxQ (m:Nat):List Int:=(List.range m).map fun i:Nat=>(i:Int)
def ordQ (n t:Int) (cs:List Int):List Int:=srtS (ltQ n t cs) (idxQ cs.length)
def leftQ (n t:Int) (cs:List Int):Int:=n-sumI (baseQ n t cs)
def incQ (out:List Int) (i:Int):List Int:=out.set i.toNat (out.getD i.toNat 0+1)
def addQ (out is:List Int):List Int:=is.foldl incQ out
def quoR (n:Int) (cs:List Int):List Int:=if quoE n cs≠0 then [] else if sumI cs=0 then List.replicate cs.length 0 else
 addQ (baseQ n (sumI cs) cs) ((ordQ n (sumI cs) cs).take (leftQ n (sumI cs) cs).toNat)
theorem sumI_app (a b:List Int):sumI (a++b)=sumI a+sumI b:=by
 induction a with
 | nil=>simp[sumI]
 | cons x r ih=>simp only[sumI,List.cons_append,List.foldr_cons] at ih ⊢; rw[ih]; omega
theorem sumI_snoc {l:List Int} {k:Nat} {x:Int} (h:l[k]? = some x):sumI (l.take (k+1))=sumI (l.take k)+x:=by
 obtain ⟨hlt,rfl⟩:=List.getElem?_eq_some_iff.1 h;rw[List.take_succ_eq_append_getElem hlt,sumI_app];simp[sumI]
theorem sumI_le {l:List Int} {m:Int} (h:∀x∈l,0<=x/\x<=m):0<=sumI l/\sumI l<=l.length*m:=by
 induction l with
 | nil=>simp[sumI]
 | cons x r ih=>
  have h1:=h x (List.mem_cons_self ..);have h2:=ih fun y hy=>h y (List.mem_cons_of_mem _ hy);simp only[sumI,List.foldr_cons,List.length_cons] at h2 ⊢;have:((r.length+1:Nat):Int)*m=r.length*m+m:=by rw[Int.natCast_add,Int.add_mul]; simp
  rw[this];omega
theorem quoOk_at {cs:List Int} (h:quoOk cs=true) {c:Int} (hc:c∈cs):0<=c/\c<=1048576:=of_decide_eq_true (List.all_eq_true.1 h c hc)
theorem base_sum {n t:Int} (ht:0<t) (hn:0<=n):∀(cs:List Int),(∀c∈cs,0<=c)->0<=sumI (baseQ n t cs)/\sumI (baseQ n t cs)*t<=n*sumI cs/\n*sumI cs<=sumI (baseQ n t cs)*t+cs.length*(t-1)
 | [],_=>by simp[sumI,baseQ]
 | c::r,h=>by
  obtain ⟨i1,i2,i3⟩:=base_sum ht hn r fun x hx=>h x (List.mem_cons_of_mem _ hx);have hc:=h c (List.mem_cons_self ..);have hnc:0<=n*c:=Int.mul_nonneg hn hc;have e1:=Int.mul_ediv_add_emod (n*c) t;have e2:=Int.emod_nonneg (n*c) (Int.ne_of_gt ht);have e3:=Int.emod_lt_of_pos (n*c) ht;have e4:0<=n*c / t:=Int.ediv_nonneg hnc (Int.le_of_lt ht);have hs:sumI (baseQ n t (c::r))=n*c / t+sumI (baseQ n t r):=rfl;have hs2:sumI (c::r)=c+sumI r:=rfl;rw[hs,hs2,Int.add_mul,Int.mul_add,List.length_cons];have e5:t*(n*c / t)=n*c / t*t:=Int.mul_comm _ _;have e6:((r.length+1:Nat):Int)*(t-1)=r.length*(t-1)+(t-1):=by rw[Int.natCast_add,Int.add_mul]; simp
  rw[e6];generalize n*c / t*t=A at *;generalize sumI (baseQ n t r)*t=B at *;generalize (r.length:Int)*(t-1)=C at *;generalize n*sumI r=D at *;generalize n*c=E at *;omega
theorem leftQ_in {n:Int} {cs:List Int} (hcs:∀c∈cs,0<=c) (ht:0<sumI cs) (hn:0<=n):0<=leftQ n (sumI cs) cs/\leftQ n (sumI cs) cs<=cs.length:=by
 obtain ⟨h1,h2,h3⟩:=base_sum ht hn cs hcs;unfold leftQ;generalize sumI (baseQ n (sumI cs) cs)=q at *;generalize sumI cs=t at *;constructor
 ·have:q*t<=n*t:=h2;have:=Int.le_of_mul_le_mul_right this ht;omega
 ·have e:(cs.length:Int)*(t-1)<=cs.length*t:=Int.mul_le_mul_of_nonneg_left (by omega) (by omega);have:n*t<=(q+cs.length)*t:=by rw[Int.add_mul]; omega
  have:=Int.le_of_mul_le_mul_right this ht;omega
theorem idxQ_len (m:Nat):(idxQ m).length=m:=by simp[idxQ]
theorem idxQ_mem {m:Nat} {x:Int} : x∈idxQ m↔0<=x/\x<m:=by
 simp only[idxQ,List.mem_map,List.mem_range];constructor
 ·rintro ⟨i,h,rfl⟩; omega
 ·intro h; exact ⟨x.toNat,by omega,by omega⟩
theorem ordQ_len (n t:Int) (cs:List Int):(ordQ n t cs).length=cs.length:=by unfold ordQ; rw[srtS_len,idxQ_len]
theorem ordQ_mem {n t:Int} {cs:List Int} {x:Int} : x∈ordQ n t cs↔0<=x/\x<cs.length:=by unfold ordQ; rw[(srtS_perm _ _).mem_iff,idxQ_mem]
theorem baseQ_len (n t:Int) (cs:List Int):(baseQ n t cs).length=cs.length:=by simp[baseQ]
theorem addQ_len:∀(is out:List Int),(addQ out is).length=out.length
 | [],_=>rfl
 | i::r,out=>by unfold addQ; rw[List.foldl_cons]; exact (addQ_len r _).trans (by simp[incQ])
theorem addQ_snoc (out:List Int) {is:List Int} {k:Nat} {x:Int} (h:is[k]? = some x):addQ out (is.take (k+1))=incQ (addQ out (is.take k)) x:=by
 obtain ⟨hlt,rfl⟩:=List.getElem?_eq_some_iff.1 h;unfold addQ;rw[List.take_succ_eq_append_getElem hlt,List.foldl_append]; rfl
theorem addQ_le {B:Int} : ∀(is out:List Int),(∀x∈out,0<=x/\x<=B)->∀x∈addQ out is,0<=x/\x<=B+is.length
 | [],out,h=>fun x hx=>by have:=h x hx; simp; omega
 | i::r,out,h=>fun x hx=>by
  have h2:∀y∈incQ out i,0<=y/\y<=B+1:=fun y hy=>by
   unfold incQ at hy;rcases List.mem_or_eq_of_mem_set hy with hy | rfl
   ·have:=h y hy; omega
   ·by_cases hi:i.toNat<out.length
    ·have hg:out.getD i.toNat 0=out[i.toNat]:=by simp[hi]
     have:=h _ (List.getElem_mem hi);rw[hg]; omega
    ·rw[List.set_eq_of_length_le (by omega)] at hy;have:=h _ hy; omega
  have:=addQ_le r (incQ out i) h2 x hx;simp only[List.length_cons];omega
end Go.Arc
namespace Go.Arc
open Go.Ab
theorem fil_fault {r:Rgs} (h:OkG r) {i:Nat} {f:Fil} (hf:r.fls[i]? = some f):faultF r.ofs r.pls r.fls i=0:=by
 have hz:=h.fls;unfold checkF at hz;split at hz
 ·cases hz
 exact (chk_zero hz).2 i (List.getElem?_eq_some_iff.1 hf).1
theorem title_ok {r:Rgs} (h:OkG r) {f:Fil} (hf:f∈r.fls):name f.title=true:=by
 obtain ⟨i,hi⟩:=List.mem_iff_getElem?.1 hf;exact (faultF_zero hi (fil_fault h hi)).2.2.1
theorem name_ascii {s:Str} (h:name s=true):(∀c∈s,c.toNat<128)/\s≠[]:=by
 unfold name at h;simp only[Bool.and_eq_true,decide_eq_true_eq] at h;obtain ⟨⟨⟨⟨⟨h1,-⟩,h2⟩,-⟩,-⟩,-⟩:=h;constructor
 ·intro c hc;have:=List.all_eq_true.1 h2 c hc;simp only[Bool.and_eq_true,decide_eq_true_eq] at this;omega
 ·rintro rfl;simp at h1
theorem cand_mem {r:Rgs} {cls:Str} {d:Int} {f:Fil} (h:f∈candL r cls d):f∈r.fls/\state f d=2/\(classR r.pls f d).2=0/\within (classR r.pls f d).1 cls=true:=by
 unfold candL at h;obtain ⟨h1,h2⟩:=List.mem_filter.1 h;unfold candB at h2;simp only[Bool.and_eq_true,decide_eq_true_eq] at h2;exact ⟨h1,h2.1.1.1,h2.1.2,h2.2⟩
theorem candR_ok {r:Rgs} {cls:Str} {d:Int} (h:candE r cls d=0):OkG r:=by
 refine okG_of (Decidable.byContradiction fun e=> ?_);unfold candE at h;rw[if_pos e] at h;cases h
theorem find_atF {r:Rgs} (h:OkG r) {f:Fil} (hf:f∈r.fls):∃k:Nat,findF r.fls f.id=k/\k<r.fls.length/\r.fls[k]? = some f:=by
 rcases ix_fnd (isIdF f.id) r.fls with ⟨-,h2⟩ | ⟨k,q,h1,hk,hx,-,h2⟩
 ·have:=List.find?_eq_none.1 h2 f hf;unfold isIdF at this;simp at this
 ·obtain ⟨i,hi⟩:=List.mem_iff_getElem?.1 hf;have hq:q.id=f.id:=of_decide_eq_true (p:=q.id=f.id) (List.find?_some (p:=isIdF f.id) h2);have:=pair_at (fls_pair h) hx hi hq;subst this;rw[hx] at hi;cases hi;exact ⟨k,h1,hk,hx⟩
theorem slcE_cand {r:Rgs} {s:Smp} {d:Int} (h:slcE r s d=0):smpE s=0/\candE r s.cls d=0:=by
 unfold slcE at h;split at h
 ·rename_i h1; exact absurd h h1
 ·rename_i h1; exact ⟨Decidable.not_not.1 h1,h⟩
theorem slcR_mem {r:Rgs} {s:Smp} {d n:Int} (h:slcE r s d=0) (hn:n∈slcR r s d):n∈canR r s.cls d:=by
 unfold slcR at hn;rw[if_pos h] at hn;have h2:=(slcE_cand h).2;unfold canR candR;rw[if_pos h2];refine sortI_mem.2 ?_;have:=sortI_mem.1 hn;unfold idsF at this ⊢;obtain ⟨f,hf,rfl⟩:=List.mem_map.1 this;exact List.mem_map.2 ⟨f,chs_mem hf,rfl⟩
def pickB (s:Smp) (i:Nat) (f:Fil):Bool:=if s.mth=1 then decide (s.sta.toNat<=i/\(i-s.sta.toNat) % s.n.toNat=0) else if s.mth=3 then lettB s f else pntB s f
theorem slcR_pick {r:Rgs} {s:Smp} {d:Int} (h:slcE r s d=0) (hm:s.mth≠2) (h1:s.mth=1->1<=s.n) {i:Nat} {f:Fil} (hf:(candL r s.cls d)[i]? = some f):
  ((slcR r s d).any fun x=>decide (f.id=x))=pickB s i f:=by
 have hk:=candR_ok (slcE_cand h).2;have hp:=cand_pair hk s.cls d;unfold slcR pickB;rw[if_pos h,any_sort,ids_any];unfold chsF;by_cases e1:s.mth=1
 ·rw[if_pos e1,if_pos e1];have:=h1 e1;exact sel_every hp (by omega) hf
 ·rw[if_neg e1,if_neg e1,if_neg hm];by_cases e3:s.mth=3
  ·rw[if_pos e3,if_pos e3];exact sel_filter hp hf
  ·rw[if_neg e3,if_neg e3];exact sel_filter hp hf
end Go.Arc
