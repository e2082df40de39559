/- A part of this claim. -/
import Derived.Test.YtagljlfkpofdnaaGreatDoorBaC
import Derived.Sort.Grow
import Derived.RangeFuncNested
namespace Go.Ab
open Go.RowKit
variable {P : Program} {T : Lay}
theorem WkB.self (cs:List V) (nm:Option Nat) (kk:Option (TypeId×Nat×Nat)):WkB (.var cs nm kk) (.var cs nm kk):=by
 have:=WkB.var (cs0:=cs) (cs:=cs) (ex:=[]) (nm:=nm) (nm':=nm) (kk:=kk) (kk':=kk) (Wks.refl cs) (.inr rfl) (.inr rfl)
 rwa [List.append_nil] at this
theorem finS {rs:List ResultVar} {bs':List (Nat×Blk)} {r r':TV} {st:St} (hB:∀x∈bs',∃b,look x.1 st.h=some b/\WkB b x.2) (h3:WkT r' r) (h2:resT P st rs=some r':=by rfl):fpostS P rs bs' [] r .rt st:=⟨hB,trivial,r',h2,h3⟩
theorem finS1 {rs:List ResultVar} {i:Nat} {cs:List V} {nm:Option Nat} {kk:Option (TypeId×Nat×Nat)} {r r':TV} {st:St} (h3:WkT r' r) (hB:look i st.h=some (.var cs nm kk):=by rfl) (h2:resT P st rs=some r':=by rfl):fpostS P rs [(i,.var cs nm kk)] [] r .rt st:=
 finS (fun x hx=>by simp only[List.mem_singleton] at hx; subst hx; exact ⟨_,hB,WkB.self cs nm kk⟩) h3 h2
end Go.Ab
namespace Go.Ab
open Go.RowKit Go.Proofs
variable {P : Program} {T : Lay}
theorem sorted_heap {w:World} {b n:Nat} {zs:Array Int} {os:Array Obj} {q:Nat} (hq:q<w.heap.size):
  (Sort.grow (Sort.putRow (Value.int .i64) (Sort.ahead w n) b 0 zs) os).heap[q]? = if b=q then (w.heap[q]?).map (Sort.onCells (Sort.putCells (Value.int .i64) 0 zs)) else w.heap[q]? := by
 show ((w.heap.modify b _)++os)[q]? = _
 rw[Array.getElem?_append_left (by simpa using hq),Array.getElem?_modify]
def sortI (l:List Int):List Int:=l.mergeSort fun x y=>decide (x<=y)
theorem sortI_len (l:List Int):(sortI l).length=l.length:=List.length_mergeSort l
theorem look_one {α:Type} {i j:Nat} {x y:α} (h:look i [(j,x)]=some y):i=j/\y=x:=by
 rw[look_cons] at h;split at h
 ·cases h; exact ⟨‹_›,rfl⟩
 ·cases h
theorem denS_sort {f : FuncId} (hE : Enters P f) (hc : ∀ (blk cap : Nat) (zs : List Int) (w : World),Sort.Holds (Value.int .i64) w blk 0 zs.toArray -> blk < w.heap.size -> zs.length < 4611686018427387904 ->
      Calls P f #[.slice (some ⟨blk,0,none⟩) zs.length cap] w fun e w'=>e= .returned (.tuple #[])/\∃n os,w'=Sort.grow (Sort.putRow (Value.int .i64) (Sort.ahead w n) blk 0 (zs.mergeSort fun x y=>decide (x<=y)).toArray) os)
    (zs:List Int) (kk:Option (TypeId×Nat×Nat)) (hl:zs.length<=1048576):
    DenS P T f [(999000,.var (zs.map fun x=>V.val (.int .i64 x)) none kk)] [] [.s 999000 0 zs.length 1] [(999000,.var ((sortI zs).map fun x=>V.val (.int .i64 x)) none kk)] [] (.v (.tup [])):=by
  refine ⟨hE,fun w F ρ X xs hF hL hD hx=> ?_⟩;obtain ⟨hx1,hx2⟩:=hx
  match xs,hx1 with
  | [x],_=>
  obtain ⟨cap,c1,c2,c3,rfl⟩:=hx2 0 _ x rfl rfl;obtain ⟨⟨ys,ty,e1,e2,e3,e4,e5⟩,hX,hlt⟩:=hD.hp 999000 _ rfl
  have hys:∀(j:Nat) (z:Int),zs[j]? = some z->ys[j]? = some (.int .i64 z):=fun j z hz=>by
    have hj:=(List.getElem?_eq_some_iff.1 hz).1;have h1:j<ys.size:=by rw[List.length_map] at e2; omega
    have:=e4 j (V.val (.int .i64 z)) ys[j] (by rw[List.getElem?_map,hz]; rfl) (Array.getElem?_eq_getElem h1);rw[Array.getElem?_eq_getElem h1,rep_val_inv this]
  have hH:Sort.Holds (Value.int .i64) w (ρ 999000) 0 zs.toArray:=fun j hj=>by
    simp only[List.size_toArray] at hj;constructor
    · have h1:=hys j zs[j] (List.getElem?_eq_getElem hj);simp only[World.cell?,e1,Nat.zero_add];rw[h1];simp[hj]
    · have hj':j<ys.size:=by rw[List.length_map] at e2; omega
      simp only[World.frozen?,e1,Nat.zero_add];exact ty.2.fz.at hj'
  refine (hc (ρ 999000) cap zs w hH hlt (by omega)).mono ?_;rintro e w' ⟨rfl,n,os,rfl⟩;obtain ⟨Z,hZ⟩:∃Z,sortI zs=Z:=⟨_,rfl⟩;have hlen:Z.length=zs.length:=by rw[<- hZ,sortI_len]
  rw[show (zs.mergeSort fun x y=>decide (x<=y))=Z from hZ,hZ]
  have hk:∀q,q<w.heap.size->q≠ρ 999000->(Sort.grow (Sort.putRow (Value.int .i64) (Sort.ahead w n) (ρ 999000) 0 Z.toArray) os).heap[q]? = w.heap[q]? := fun q hq hne=>by
    rw[sorted_heap hq,if_neg (Ne.symm hne)]
  have hb:(Sort.grow (Sort.putRow (Value.int .i64) (Sort.ahead w n) (ρ 999000) 0 Z.toArray) os).heap[ρ 999000]? = some (.cells (Sort.putCells (Value.int .i64) 0 Z.toArray ys) ty.1.1 ty.1.2):=by
    rw[sorted_heap hlt,if_pos rfl,e1]; rfl
  have hsz:w.heap.size<=(Sort.grow (Sort.putRow (Value.int .i64) (Sort.ahead w n) (ρ 999000) 0 Z.toArray) os).heap.size:=by simp
  generalize hw':Sort.grow (Sort.putRow (Value.int .i64) (Sort.ahead w n) (ρ 999000) 0 Z.toArray) os=w' at hk hb hsz;have hws:(Sort.putCells (Value.int .i64) 0 Z.toArray ys).size=ys.size:=by simp[Sort.putCells]
  have hsees:Sees F w':=⟨fun p v e=>by
      have h1:=hF p v e;rw[<- h1];exact World.cell?_of_block (hk _ (cell_lt h1) (e5 p v e)),fun b xs e=>by
      obtain ⟨ck,h1⟩:=hF.m b xs e;refine ⟨ck,(hk b (map_lt hF e) ?_).trans h1⟩;rintro rfl
      rw[e1] at h1; cases h1⟩
  refine ⟨_,F,rfl,⟨Le.refl F,hsees,fun _ _ h=> .inl h,fun _ _ h=> .inl h,by rw[<- hw']; rfl,by rw[<- hw']; rfl,by rw[<- hw']; rfl,hsz,fun q hq hn=>hk q hq (fun he=>hn (he▸hX))⟩,?_,.tup rfl (fun j c x h=>nomatch h)⟩;refine { hp:=fun id k h=> ?_,nb:=fun id k b h hb=> ?_,inj:=fun id id' k k' h h' _=> ?_,ow:=(fun j e c h=>nomatch h),od:=(fun j j' e c e' c' _ h=>nomatch h),oc:=(fun j e c h=>nomatch h),lay:=fun g hg hX'=> ?_ }
  · obtain ⟨rfl,rfl⟩:=look_one h;refine ⟨⟨_,⟨ty.1,ty.2.size hws⟩,hb,by rw[hws,List.length_map,hlen]; rw[List.length_map] at e2; exact e2,fun c hc=> ?_,fun j c x h1 h2=> ?_,e5⟩,.inl hX,Nat.lt_of_lt_of_le hlt hsz⟩
    · obtain ⟨z,-,rfl⟩:=List.mem_map.1 hc; rfl
    · rw[List.getElem?_map,Option.map_eq_some_iff] at h1;obtain ⟨z,hz,rfl⟩:=h1;have hj:=(List.getElem?_eq_some_iff.1 hz).1;simp only[Sort.putCells,Array.getElem?_mapIdx,Option.map_eq_some_iff] at h2;obtain ⟨y,hy,rfl⟩:=h2;rw[if_pos ⟨Nat.zero_le _,by simpa using hj⟩]
      have:Z.toArray[j-0]! = z:=by
        obtain ⟨hj',rfl⟩:=List.getElem?_eq_some_iff.1 hz;simp[hj']
      rw[this];exact .val _
  · obtain ⟨rfl,rfl⟩:=look_one h;cases hb
  · rw[(look_one h).1,(look_one h').1]
  · rcases hX' with hX' | hX'
    · exact hD.lay g hg hX'
    · obtain ⟨xs,hxs⟩:=Option.ne_none_iff_exists'.1 hg;obtain ⟨⟨ty,fz,h1⟩,-⟩:=hL.2 g xs hxs;have:=heap_lt h1;omega
theorem frzt1_r {t id r n cap size:Nat} {e:TypeId} {cs:List V} {nm:Option Nat} {st:St} (h1:look t st.t=some (.v (.val (.slice (some ⟨r,0,none⟩) n cap)))) (hf:findN r st.h=some id) (h2:look id st.h=some (.var cs nm (some (e,size,cap)))) (h3:n<=cap) (h4:n*size<=cs.length):
  frzt1 t st= { st with t:=(t,.v (.slice size (chunk 0 n size cs)))::st.t,h:=frz1 id (seth id (.var cs) st.h),o:=remo t st.o } := by
 unfold frzt1; rw[h1]; simp only; rw[hf]; simp only; rw[h2]; simp only; rw[if_pos ⟨trivial,h3,h4⟩]
theorem finFr {t id r n cap size:Nat} {e:TypeId} {cs:List V} {nm:Option Nat} {st:St} {v:V} (hr:Wk (.slice size (chunk 0 n size cs)) v) (h3:n<=cap) (h4:n*size<=cs.length) (hf:findN r st.h=some id) (h1:look t st.t=some (.v (.val (.slice (some ⟨r,0,none⟩) n cap))):=by rfl) (h2:look id st.h=some (.var cs nm (some (e,size,cap))):=by rfl):fpost P [.tmp t] v .rt st:=by
 refine .inr ⟨_,?_,hr⟩
 show resS P (frzt1 t st) _=_
 rw[frzt1_r h1 hf h2 h3 h4];exact resS1 (by simp only[resV,σ_mk,look_cons',↓reduceIte,vOf_v])
theorem chunk_one {α:Type} (f:α->V) (l:List α):chunk 0 l.length 1 (l.map f)=l.map fun x=>[f x]:=by
 apply List.ext_getElem?;intro i;simp only[chunk,List.getElem?_map,Nat.zero_add,Nat.mul_one];by_cases h:i<l.length
 ·rw[List.getElem?_range h,List.getElem?_eq_getElem h];simp only[Option.map_some];rw[List.drop_eq_getElem_cons (by simpa using h)];simp
 ·rw[List.getElem?_eq_none (by simpa using h),List.getElem?_eq_none (by omega)]; rfl
end Go.Ab
namespace Go.Ab
open Go.RowKit
variable {P : Program} {T : Lay}
inductive Otree where
 | done
 | one (i:Nat) (r:Otree)
 | alt (i:Nat) (r more:Otree)
 | nil
 | sort (r:Otree)
def isPure (o:Oper):Bool:=o.guard.isNone && match o.op with
 | .fieldAddr .. => true
 | .move _=>true
 | .indexAddr .. => true
 | .binOp _ _ _ (.const (.int _ _)) _=>true
 | .call ⟨.builtin .max,_,_⟩=>true
 | _=>false
def Otree.has (j:Nat):Otree->Bool
 | .alt i _ more=>i == j || more.has j
 | _=>false
def Otree.dep:Otree->Nat
 | .done=>0
 | .one _ r=>r.dep+1
 | .alt _ r more=>max (r.dep+1) more.dep
 | .nil=>0
 | .sort r=>r.dep
def okT (ops:Array Oper):Bool->Otree->Array Bool->Bool
 | b,.done,li=> !b && (Region.ready .any ops li).isEmpty
 | b,.one i r,li=> !b && (Region.ready .any ops li).contains i && Region.free .any ops li i && ((ops[i]?).map isPure == some true) && okT ops false r (li.setIfInBounds i true)
 | b,.alt i r more,li=>(b || ((Region.ready .any ops li).contains i && (Region.ready .any ops li).all fun j=>j == i || more.has j)) && okT ops false r (li.setIfInBounds i true) && okT ops true more li
 | b,.nil,_=>b
 | b,.sort r,li=> !b && okT ops false r li
def plainOps (ops:Array Oper):Bool:=ops.all fun o=>match o.op with
 | .defer _=>false
 | .select .. => false
 | _=>true
def stepI (P:Program) (T:Lay) (l:List Oper) (i:Nat) (st:St) (K:St->Prop):Prop:=match l[i]? with
 | none=>False
 | some o=>match gdV l o st.σ with
  | none=>False
  | some b=>gsel b (stpOL P T o st K) (putK st o.dst .u K)
def nrmT:List Oper->List (Nat×TV)->List (Nat×TV)
 | [],t=>t
 | o::l,t=>match o.dst with
  | none=>nrmT l t
  | some d=>match look d t with
   | some tv=>nrmT l ((d,tv)::remj d t)
   | none=>nrmT l t
def awT (P:Program) (T:Lay) (l:List Oper) (K:St->Prop):Otree->St->Prop
 | .done,st=>K { st with t:=nrmT l st.t }
 | .one i r,st=>stepI P T l i st (awT P T l K r)
 | .alt i r more,st=>stepI P T l i st (awT P T l K r)/\awT P T l K more st
 | .nil,_=>True
 | .sort r,st=>awT P T l K r { st with t:=nrmT l st.t }
theorem remj_other {j i:Nat} : ∀ {l:List (Nat×TV)},i≠j->look i (remj j l)=look i l
 | [],_=>rfl
 | (k,x)::r,h=>by
  rw[remj_cons];split
  ·rename_i hk;rw[remj_other h,look_cons,if_neg (by omega)]
  ·rw[look_cons,look_cons,remj_other h]
theorem nrmT_look:∀(l:List Oper) (t:List (Nat×TV)) (i:Nat),look i (nrmT l t)=look i t
 | [],_,_=>rfl
 | o::l,t,i=>by
  unfold nrmT;split
  ·exact nrmT_look l t i
  ·rename_i d _;split
   ·rename_i tv htv;rw[nrmT_look l,look_cons];split
    ·rename_i e; rw[e,htv]
    ·rename_i e; rw[remj_other e]
   ·exact nrmT_look l t i
section
variable {ops : Array Oper} {rd : Option Nat} {w0 w : World} {M : Nat -> Prop} {F0 F : Frz} {ρ : Nat -> Nat} {a : Act} {st : St} {Q : Exit -> Act -> World -> Prop}
theorem opG_put {oj:Oper} {d:Option Tmp} {v:Value} (hnd:∀c,oj.op≠ .defer c) (hsj:∀cs b,oj.op≠ .select cs b) (h1:∀d',d=some d'->d' ∉ oj.looksAt ops) (h2:∀d',d=some d'->oj.dst≠some d') (hQ:∀c a w,¬Q (.panic c) a w)
  {I:Act->Prop} (hI:∀u,I (a.put oj.dst u)) (hI':∀dd,I ({ a with defers:=dd::a.defers }.put oj.dst undef)) {K:Act->World->Prop} (h:opG rd P oj (a.put d v) w K Q):opG rd P oj a w (fun a' w'=>I a'/\K (a'.put d v) w') Q:=by
 refine ⟨fun _ _=>trivial,?_⟩;have h:=h.2;rw[Oper.semAt_eq _ _ _ hnd,execOp_put (ops:=ops) oj hsj a d v h1] at h;rw[Oper.semAt_eq _ _ _ hnd];generalize (execOp a.eval oj).run P w=r at *;cases r with
 | ok x w'=>
  cases x <;> simp only[Oper.uponIn] at h ⊢
  case value u=>exact ⟨hI u,by rw[<- Act.put_comm a v u h2]; exact h⟩
  case skip=>exact ⟨hI _,by rw[<- Act.put_comm a v undef h2]; exact h⟩
  case defer dd=>exact ⟨hI' dd,by rw[<- Act.put_comm _ v undef h2,<- Act.put_defers]; exact h⟩
  case enter f args=>
   refine ⟨h.1,CallsIn.mono h.2 fun e w'' he=> ?_⟩;cases e with
   | returned u=>exact ⟨hI u,by rw[<- Act.put_comm a v u h2]; exact he⟩
   | panicked c=>exact (hQ _ _ _ he).elim
   | outgrown=>exact he
  case row row args=>exact ⟨h.1,RowsIn.mono h.2 fun u w'' he=>⟨hI u,by rw[<- Act.put_comm a v u h2]; exact he⟩⟩
  case round l f tmps assign body=>
   refine ⟨h.1,RoundIn.mono h.2 fun e w'' he=> ?_⟩;cases e with
   | returned u=>exact ⟨hI u,by rw[<- Act.put_comm a v u h2]; exact he⟩
   | panicked c=>exact (hQ _ _ _ he).elim
   | outgrown=>exact he
 | halt x w'=>
  cases x <;> simp only[Oper.uponIn] at h ⊢
  case panic u=>exact (hQ _ _ _ h).elim
theorem plain_spec (h:plainOps ops=true) {j:Nat} {o:Oper} (ho:ops[j]? = some o):(∀c,o.op≠ .defer c)/\∀cs b,o.op≠ .select cs b:=by
 have:=Array.all_eq_true_iff_forall_mem.1 h o (Array.mem_of_getElem? ho);refine ⟨fun c e=> ?_,fun cs b e=> ?_⟩
 ·rw[e] at this; cases this
 ·rw[e] at this; cases this
theorem idx_all {h:List (Nat×Blk)} {ρa:Operand->Option TV} {ρc:Operand->Value} (G:Good F w ρ h ρa ρc) {t:TypeId} {x i:Operand} {tv:TV} (e:evq P ρa h (.indexAddr t x i)=some tv):∃v,∀w',(Instr.indexAt t (ρc x) (ρc i)).run P w'= .ok v w':=by
 simp only[evq] at e;split at e
 ·rename_i n e' size ha;split at e
  ·rename_i id off iv h2 h3;simp only[Option.map_eq_some_iff] at e;obtain ⟨q,h4,rfl⟩:=e;unfold idxS at h4;split at h4
   ·rename_i k j;split at h4
    ·rename_i hm;cases h4;have hi:=rep_val_inv (G.v h3);have hv:ρc x= .pointer (some ⟨ρ id,off,none⟩):=G.opr x _ h2;exact ⟨_,fun w'=>by rw[hv,hi]; exact arrAt_run ha k j _ hm.1 hm.2 w'⟩
    ·cases h4
   ·cases h4
  ·rename_i cs iv h2 h3;simp only[Option.map_eq_some_iff] at e;obtain ⟨q,h4,rfl⟩:=e;unfold idxS at h4;split at h4
   ·rename_i k j;split at h4
    ·rename_i hm;cases h4;have hi:=rep_val_inv (G.v h3);obtain ⟨a,g,hv,hat⟩:=rep_row_inv (show Rep F (.row cs) (ρc x) from G.opr x _ h2);exact ⟨_,fun w'=>by rw[hv,hi]; exact arrAt_run ha k j a hm.1 hm.2 w'⟩
    ·cases h4
   ·cases h4
  ·cases e
 ·split at e
  ·rename_i e' n size es iv h1 h2 h3;split at e
   ·rename_i hn;subst hn;simp only[Option.map_eq_some_iff] at e;obtain ⟨cs,h4,rfl⟩:=e;unfold idxV at h4;split at h4
    ·rename_i k m;split at h4
     ·rename_i hm;have hi:=rep_val_inv (G.v h3);have hlt:=(List.getElem?_eq_some_iff.1 h4).1;rcases rep_slice_inv (show Rep F (.slice n es) (ρc x) from G.opr x _ h2) with ⟨_,h0⟩ | ⟨a,cap,g,hv,hc,hmx,hs,ho,hg,hr⟩
      ·subst h0; simp at hlt
      ·exact ⟨_,fun w'=>by rw[hv,hi]; exact indexAt_run h1 k m a es.length cap hm (by omega) w'⟩
     ·cases h4
    ·cases h4
   ·cases e
  ·rename_i e' n id off m size iv h1 h2 h3;split at e
   ·rename_i hn;subst hn;simp only[Option.map_eq_some_iff] at e;obtain ⟨q,h4,rfl⟩:=e;unfold idxS at h4;split at h4
    ·rename_i k j;split at h4
     ·rename_i hm;cases h4;have hi:=rep_val_inv (G.v h3);obtain ⟨cap,hc1,hc2,hc3,hv⟩:=show ∃cap,m<=cap/\cap<=maxLen/\0<m/\ρc x=_ from G.opr x _ h2
      exact ⟨_,fun w'=>by rw[hv,hi]; exact indexAt_run h1 k j _ m cap hm.1 hm.2 w'⟩
     ·cases h4
    ·cases h4
   ·cases e
  ·rename_i e' n r off m cap iv h1 h2 h3;split at e
   ·simp only[Option.map_eq_some_iff] at e;obtain ⟨q,h4,rfl⟩:=e;unfold idxS at h4;split at h4
    ·rename_i k j;split at h4
     ·rename_i hm;cases h4;have hi:=rep_val_inv (G.v h3);have hv:=rep_val_inv (show Rep F (.val _) (ρc x) from G.opr x _ h2);exact ⟨_,fun w'=>by rw[hv,hi]; exact indexAt_run h1 k j _ m cap hm.1 hm.2 w'⟩
     ·cases h4
    ·cases h4
   ·cases e
  ·cases e
theorem bin_all (S:SimS P T M F0 w0 F ρ st a w) {o:Oper} {op:BinOp} {t ty:TypeId} {x:Operand} {k:IntKind} {n:Int} {tv:TV} (ho:o.op= .binOp op t x (.const (.int k n)) ty) (e:evq P (opv st.σ) st.h o.op=some tv):∃v,∀w',(execOp a.eval o).run P w'= .ok (.value v) w':=by
 have G:=Sim.good S;have hc:vOf (opv st.σ (.const (.int k n)))=some (.val (.int k n)):=rfl;cases hx:vOf (opv st.σ x) with
 | none=>exfalso; rw[ho] at e; simp only[evq,hx,hc] at e; cases e
 | some xv=>
  have key:∃z,binV P op t xv (.val (.int k n))=some (.val z):=by
   rw[ho] at e;simp only[evq,hx,hc] at e
   have e2:∃v,binV P op t xv (.val (.int k n))=some v:=by
    obtain ⟨v,hv,-⟩:=Option.map_eq_some_iff.1 e;exact ⟨v,hv⟩
   obtain ⟨v,hv⟩:=e2;have hv0:=hv;unfold binV at hv;split at hv
   ·rename_i h1;cases h1;split at hv
    ·unfold shV at hv;split at hv
     ·cases hv; exact ⟨_,hv0⟩
     ·cases hv
    ·unfold shV at hv;split at hv
     ·cases hv; exact ⟨_,hv0⟩
     ·cases hv
    ·split at hv
     ·obtain ⟨z,rfl,-⟩:=intOp_run (P:=P) hv t w;exact ⟨z,hv0⟩
     ·cases hv
   all_goals first | (rename_i h1; cases h1; done) | (rename_i h1 _; cases h1; done) | (cases hv; done)
  obtain ⟨z,hz⟩:=key;refine ⟨z,fun w'=> ?_⟩;obtain ⟨r,hr,hv,hg⟩:=binV_run (P:=P) (G.v hx) (G.v hc) hz w';obtain rfl:=rep_val_inv hv;unfold execOp;rw[ho];exact execOp_v (by simp[hg x (.const (.int k n)),hr])
theorem max_all (S:SimS P T M F0 w0 F ρ st a w) {o:Oper} {as:Array Operand} {ts:Array TypeId} {tv:TV} (ho:o.op= .call ⟨.builtin .max,as,ts⟩) (e:evq P (opv st.σ) st.h o.op=some tv):∃v,∀w',(execOp a.eval o).run P w'= .ok (.value v) w':=by
 have G:=Sim.good S;rw[ho] at e;simp only[evq] at e;split at e
 ·rename_i x y h1;obtain ⟨v,h3,-⟩:=Option.map_eq_some_iff.1 e;obtain ⟨k,k',m,q,g1,g2,rfl⟩:=minV_some h3;have ha:as= #[x,y]:=by apply Array.ext'; simpa using h1
  have hx:=rep_val_inv (G.v g1);have hy:=rep_val_inv (G.v g2);refine ⟨.int k (if m<q then q else m),fun w'=> ?_⟩;simp[execOp,ho,resolve,ha,invoke,builtin,Builtin.max_,Builtin.max2,hx,hy]
 ·cases e
theorem pure_all {o:Oper} {K:St->Prop} (S:SimS P T M F0 w0 F ρ st a w) (hp:isPure o=true) (h:stepO P T o st K):∃v,∀w,(execOp a.eval o).run P w= .ok (.value v) w:=by
 simp only[isPure,Bool.and_eq_true] at hp;obtain ⟨-,hp⟩:=hp;split at hp
 ·rename_i s x f ho;have h':evK P o st K:=by unfold stepO at h; rw[ho] at h; exact h
  unfold evK at h';rw[ho] at h';have G:=Sim.good S;cases hf:fldV P s f with
  | none=>
   exfalso;simp only[evq,hf,evb] at h'
  | some q=>
   obtain ⟨off,ft⟩:=q
   have hx:∃ad,a.eval x= .pointer (some ad):=by
    cases hxv:opv st.σ x with
    | none=>exfalso; simp only[evq,hf,hxv,evb] at h'
    | some tv=>
     cases tv with
     | v y=>
      cases y with
      | row cs=>
       obtain ⟨ad,g,hv,-⟩:=rep_row_inv (show Rep F (.row cs) (a.eval x) from G.opr x _ hxv);exact ⟨ad,hv⟩
      | _=>exfalso; simp only[evq,hf,hxv,evb] at h'
     | p id o'=>exact ⟨_,show a.eval x=_ from G.opr x _ hxv⟩
     | _=>exfalso; simp only[evq,hf,hxv,evb] at h'
   obtain ⟨ad,had⟩:=hx;refine ⟨.pointer (some (ad.add off)),fun w=> ?_⟩;have:=fieldAt_run (P:=P) hf ad w;unfold execOp;rw[ho];simp only[had];simp[this,Result.andThen]
 ·rename_i x ho;exact ⟨a.eval x,fun w=>by unfold execOp; rw[ho]; rfl⟩
 ·rename_i t x i ho;have h':evK P o st K:=by unfold stepO at h; rw[ho] at h; exact h
  unfold evK at h';rw[ho] at h';have G:=Sim.good S;cases he:evq P (opv st.σ) st.h (.indexAddr t x i) with
  | none=>exfalso; rw[he] at h'; simp only[evb] at h'
  | some tv=>
   obtain ⟨v,hv⟩:=idx_all G he;exact ⟨v,fun w=>by unfold execOp; rw[ho]; exact execOp_v (hv w)⟩
 ·rename_i op t x k n ty ho;have hc:vOf (opv st.σ (.const (.int k n)))=some (.val (.int k n)):=rfl
  have h':evK P o st K:=by
   unfold stepO at h;rw[ho] at h;simp only[hc] at h;split at h
   ·rename_i h2; cases h2
   ·exact h
  unfold evK at h';rw[ho] at h';have G:=Sim.good S;cases he:evq P (opv st.σ) st.h (.binOp op t x (.const (.int k n)) ty) with
  | none=>exfalso; rw[he] at h'; simp only[evb] at h'
  | some tv=>
   exact bin_all S ho (by rw[ho]; exact he)
 ·rename_i as ts ho;have h':evK P o st K:=by unfold stepO at h; rw[ho] at h; exact h
  unfold evK at h';rw[ho] at h';have G:=Sim.good S;cases he:evq P (opv st.σ) st.h (.call ⟨.builtin .max,as,ts⟩) with
  | none=>exfalso; rw[he] at h'; simp only[evb] at h'
  | some tv=>
   exact max_all S ho (by rw[ho]; exact he)
 ·cases hp
theorem ready_op {i:Nat} {li:Array Bool} (h:i∈Region.ready .any ops li):∃o,ops[i]? = some o:=by
 obtain ⟨-,o,ho,-⟩:=mem_ready.1 h;exact ⟨o,ho⟩
theorem stpOL_pure {o:Oper} {st:St} {K:St->Prop} (h:isPure o=true) (hk:stpOL P T o st K):stepO P T o st K:=by
 unfold stpOL at hk;unfold isPure at h;split at hk
 ·rename_i ho;rw[ho] at h;simp at h
 ·exact hk
theorem stepI_sound {i:Nat} {o:Oper} {K:St->Prop} {next:Act->World->Prop} (hi:ops[i]? = some o) (S:SimS P T M F0 w0 F ρ st a w) (h:stepI P T ops.toList i st K)
  (k:∀F' ρ' st' a' w',SimS P T M F0 w0 F' ρ' st' a' w'->K st'->next a' w'):wpOpIn (fc rd) 0 P ops Q i next a w:=by
 unfold stepI at h;have hi':ops.toList[i]? = some o:=by simpa using hi
 rw[hi'] at h;simp only at h;cases hg:gdV ops.toList o st.σ with
 | none=>rw[hg] at h; exact h.elim
 | some b=>
  rw[hg] at h;unfold wpOpIn;simp only[hi];rw[Sim.wanted S hg];cases b with
  | true=>
   simp only[gsel_true] at h;rw[if_pos rfl];exact stpOL_sound S h k
  | false=>
   simp only[gsel_false] at h;rw[if_neg (by simp)];obtain ⟨st',S',hK⟩:=putK_sound (tv:= .u) (x:=undef) S rfl trivial h;exact ⟨fun _ _=>trivial,k F ρ st' _ w S' hK⟩
end
def awTk (P:Program) (T:Lay) (l:List Oper) (K:St->Prop) (r:Otree):St->Prop:=fun st=>awT P T l K r st
@[congr] theorem awT_cg {l : List Oper} {K : St -> Prop} {r : Otree} {st st' : St} (h : st = st') : awT P T l K r st = awT P T l K r st' := by rw [h]
@[congr] theorem awTk_cg {l : List Oper} {K : St -> Prop} {r : Otree} : awTk P T l K r = awTk P T l K r := rfl
end Go.Ab
namespace Go.Ab
open Go.RowKit
variable {P : Program} {T : Lay}
def lpv {α:Type} (k:α->Kp) (R:α->Prop) (m:α->Nat) (S:α->St) (y:α):St->Prop:=fun st'=>∃z,R z/\m z<m y/\keepS (k z) st'=some (S z)
theorem loopV {x:Code} {st:St} {Q:AX->St->Prop} {α:Type} (k:α->Kp) (R:α->Prop) (m:α->Nat) (S:α->St) (x0:α) (hR:R x0) (h0:keepS (k x0) st=some (S x0))
  (hr:∀y,R y->aw P T x (S y) (sq (lpv k R m S y) Q)):aw P T (.loop x) st Q:=by
 refine awL_loopV ⟨fun n st=>∃y,R y/\m y=n/\st=S y,m x0,⟨k x0,S x0,h0,x0,hR,rfl,rfl⟩,?_⟩;rintro n st ⟨y,hy,rfl,rfl⟩;refine awL_mono (hr y hy) fun e st' hq=> ?_;cases e with
 | nm=>
  obtain ⟨z,hz,hlt,hk⟩:=hq;exact ⟨k z,m z,S z,hlt,hk,z,hz,rfl,rfl⟩
 | rt=>exact hq
 | ex id=>exact hq
theorem roundV {α:Type} {k:α->Kp} {R:α->Prop} {m:α->Nat} {S:α->St} {y:α} {st:St} (z:α) (hR:R z) (hm:m z<m y) (hk:keepS (k z) st=some (S z)):lpv k R m S y st:=⟨z,hR,hm,hk⟩
end Go.Ab
namespace Go.Ab
open Go.RowKit
variable {P : Program} {T : Lay}
inductive Gnode where
 | fin
 | one (i k:Nat)
 | ld (i k:Nat)
 | alt (l:List (Nat×Nat))
 | nam (id k:Nat)
def isLd (o:Oper):Bool:=o.guard.isNone && match o.op with
 | .load _ _=>true
 | _=>false
def frzX (h:List (Nat×Blk)):Option TV->Prop
 | some (.v (.row _))=>True
 | some (.p id _)=>match look id h with
  | some (.con _)=>True
  | _=>False
 | _=>False
def frzO (op:Op) (st:St):Prop:=match op with
 | .load _ x=>frzX st.h (opv st.σ x)
 | _=>False
def frzL (l:List Oper) (i:Nat) (st:St):Prop:=match l[i]? with
 | some o=>frzO o.op st
 | none=>False
structure Gent where
 li:List Bool
 d:Nat
 g:Gnode
def awGs (P:Program) (T:Lay) (l:List Oper) (R:Nat->St->Prop):List (Nat×Nat)->St->Prop
 | [],_=>True
 | (i,k)::r,st=>stepI P T l i st (R k)/\awGs P T l R r st
def awG (P:Program) (T:Lay) (l:List Oper) (K:St->Prop):List Gent->Nat->St->Prop
 | [],_,_=>False
 | _::r,k+1,st=>awG P T l K r k st
 | e::r,0,st=>match e.g with
  | .fin=>K { st with t:=nrmT l st.t }
  | .one i k=>stepI P T l i { st with t:=nrmT l st.t } (awG P T l K r k)
  | .ld i k=>frzL l i { st with t:=nrmT l st.t } /\ stepI P T l i { st with t:=nrmT l st.t } (awG P T l K r k)
  | .alt js=>awGs P T l (awG P T l K r) js { st with t:=nrmT l st.t }
  | .nam id k=>∀b,awG P T l K r k { st with h:=nam id b st.h }
def Gent.to (r:List Gent) (e:Gent) (i k:Nat):Bool:=match r[k]? with
 | some e'=>e'.li == e.li.set i true && Nat.blt e'.d e.d
 | none=>false
def okG (ops:Array Oper):List Gent->Bool
 | []=>true
 | e::r=>okG ops r && match e.g with
  | .fin=>(Region.ready .any ops e.li.toArray).isEmpty
  | .one i k=>(Region.ready .any ops e.li.toArray).contains i && Region.free .any ops e.li.toArray i && ((ops[i]?).map isPure == some true) && e.to r i k
  | .ld i k=>(Region.ready .any ops e.li.toArray).contains i && Region.free .any ops e.li.toArray i && ((ops[i]?).map isLd == some true) && e.to r i k
  | .nam _ k=>match r[k]? with
   | some e'=>e'.li == e.li && Nat.ble e'.d e.d
   | none=>false
  | .alt js=> !(Region.ready .any ops e.li.toArray).isEmpty && (Region.ready .any ops e.li.toArray).all (fun j=>js.any fun x=>x.1 == j) && js.all fun x=>e.to r x.1 x.2
def okGraph (ops:Array Oper) (t:List Gent):Bool:=plainOps ops && okG ops t && match t with
 | e::_=>e.li == List.replicate ops.size false && Nat.ble e.d ops.size
 | []=>false
theorem awGs_mem {l:List Oper} {R:Nat->St->Prop} {st:St} {x:Nat×Nat} : ∀ {js:List (Nat×Nat)},awGs P T l R js st->x∈js->stepI P T l x.1 st (R x.2)
 | y::r,h,hx=>by
  rcases List.mem_cons.1 hx with rfl | hx
  ·exact h.1
  ·exact awGs_mem h.2 hx
theorem to_spec {r:List Gent} {e:Gent} {i k:Nat} (h:e.to r i k=true):∃e',r[k]? = some e'/\e'.li=e.li.set i true/\e'.d<e.d:=by
 unfold Gent.to at h;split at h
 ·rename_i e' he;simp only[Bool.and_eq_true] at h;exact ⟨e',he,eq_of_beq h.1,Nat.le_of_ble_eq_true h.2⟩
 ·cases h
section
variable {ops : Array Oper} {rd : Option Nat} {w0 w : World} {M : Nat -> Prop} {F0 F : Frz} {ρ : Nat -> Nat} {a : Act} {st : St} {Q : Exit -> Act -> World -> Prop}
theorem sim_nrm {l:List Oper} (S:SimS P T M F0 w0 F ρ st a w):SimS P T M F0 w0 F ρ { st with t:=nrmT l st.t } a w:=by
 have e:(St.mk st.n (nrmT l st.t) st.h st.o).σ=st.σ:=funext fun i=>nrmT_look _ _ _
 show Sim P T M F0 w0 F ρ st.n (St.mk st.n (nrmT l st.t) st.h st.o).σ st.h st.o a w
 rw[e]; exact S
def baseF (F0 F:Frz):Frz:= { c:=F.c,m:=F.m,z:=F0.z }
theorem sim_base (S:SimS P T M F0 w0 F ρ st a w):SimS P T M (baseF F0 F) w F ρ st a w:=
  { S with
    lay:=⟨⟨⟨(Sim.laid S).1.c,(Sim.laid S).1.m⟩,(Sim.laid S).2⟩,S.lay.2⟩
    le:=⟨fun _ _ h=>h,fun _ _ h=>h⟩
    new:=fun _ _ h=> .inl h
    newm:=fun _ _ h=> .inl h
    bel:=BelM.refl M w
    hM:=fun j hj=>S.hM j (Nat.le_trans S.bel.size hj) }
theorem sim_back {F':Frz} {ρ':Nat->Nat} {st':St} {a':Act} {w':World} (S:SimS P T M F0 w0 F ρ st a w) (S':SimS P T M (baseF F0 F) w F' ρ' st' a' w'):SimS P T M F0 w0 F' ρ' st' a' w'/\Le F F':=
  have hle:Le F F':=⟨S'.le.c,S'.le.m⟩
  ⟨{ S' with
    lay:=S.lay
    le:=S.le.trans hle
    new:=fun p v h=>(S'.new p v h).elim (S.new p v) .inr
    newm:=fun p v h=>(S'.newm p v h).elim (S.newm p v) .inr
    bel:=S.bel.trans S'.bel
    hM:=S.hM },hle⟩
theorem stepI_le {i:Nat} {o:Oper} {K:St->Prop} {next:Act->World->Prop} (hi:ops[i]? = some o) (S:SimS P T M F0 w0 F ρ st a w) (h:stepI P T ops.toList i st K)
  (k:∀F' ρ' st' a' w',SimS P T M F0 w0 F' ρ' st' a' w'->Le F F'->K st'->next a' w'):wpOpIn (fc rd) 0 P ops Q i next a w:=
 stepI_sound hi (sim_base S) h fun F' ρ' st' a' w' S' hK=>k F' ρ' st' a' w' (sim_back S S').1 (sim_back S S').2 hK
def wpAnyJ (rd:Option Nat) (P:Program) (ops:Array Oper) (Q:Exit->Act->World->Prop):Nat->Frz->Array Bool->Act->World->Prop
 | 0,_,li,a,w=>Region.ready .any ops li=[]/\Q .normal a w
 | fuel+1,F,li,a,w=>(Region.ready .any ops li=[]->Q .normal a w)/\∀i∈Region.ready .any ops li,wpOpIn (fc rd) 0 P ops Q i (fun a' w'=>∃F',Le F F'/\Sees F' w'/\wpAnyJ rd P ops Q fuel F' (li.setIfInBounds i true) a' w') a w
theorem anyJ_in:∀(fuel:Nat) (F:Frz) (li:Array Bool) (a:Act) (w:World),wpAnyJ rd P ops Q fuel F li a w->wpAnyIn (fc rd) 0 P .any ops Q fuel li a w
 | 0,_,_,_,_,h=>h
 | fuel+1,_,_,_,_,h=>⟨h.1,fun i hi=>wpOpIn_mono (fun a' w' ⟨F',_,_,h'⟩=>anyJ_in fuel F' _ a' w' h') (h.2 i hi)⟩
theorem anyJ_mono {F F':Frz} (h:Le F F'):∀ {fuel:Nat} {li:Array Bool} {a:Act} {w:World},wpAnyJ rd P ops Q fuel F' li a w->wpAnyJ rd P ops Q fuel F li a w
 | 0,_,_,_,k=>k
 | _+1,_,_,_,k=>⟨k.1,fun i hi=>wpOpIn_mono (fun _ _ ⟨F2,h1,h2⟩=>⟨F2,h.trans h1,h2⟩) (k.2 i hi)⟩
theorem Sees.le {F F':Frz} {w:World} (h:Le F F') (h':Sees F' w):Sees F w:=⟨fun p v e=>h'.c p v (h.c p v e),fun b xs e=>h'.m b xs (h.m b xs e)⟩
theorem any_firstJ {i:Nat} {oi:Oper} {v:Value} (hi:ops[i]? = some oi) (hg:oi.guard=none) (hpl:plainOps ops=true) (hQ:∀c a w,¬Q (.panic c) a w):
  ∀(fuel:Nat) (F:Frz) (li:Array Bool) (a:Act) (w:World),Sees F w->(∀j oj,ops[j]? = some oj->j≠i->li.getD j true=false->(∀e∈oj.after,Region.binds .any e=true->e.on≠i)->oi.apart ops oj=true)->
   i∈Region.ready .any ops li->(∀w,Sees F w->(execOp a.eval oi).run P w= .ok (.value v) w)->
   wpAnyJ rd P ops Q fuel F (li.setIfInBounds i true) (a.put oi.dst v) w->wpAnyJ rd P ops Q (fuel+1) F li a w:=by
 have self:∀ {K:Act->World->Prop} {a:Act} {w:World} {F:Frz},Sees F w->(∀w,Sees F w->(execOp a.eval oi).run P w= .ok (.value v) w)->K (a.put oi.dst v) w->wpOpIn (fc rd) 0 P ops Q i K a w:=fun {K a w F} hs hy hK=>by
  unfold wpOpIn;simp only[hi];have hw:Region.wanted oi (yielded ops a.tmps)=true:=by unfold Region.wanted; rw[hg]
  rw[hw,if_pos rfl];exact opG_value (hy w hs) hK
 intro fuel
 induction fuel with
 | zero=>
  intro F li a w hs _ hr hy H;refine ⟨fun h=>(by rw[h] at hr; cases hr),fun j hj=> ?_⟩;by_cases hji:j=i
  ·subst hji; exact self hs hy ⟨F,Le.refl F,hs,H⟩
  ·have:=ready_mono hj hji;rw[H.1] at this;cases this
 | succ fuel ih=>
  intro F li a w hs hfree hr hy H;refine ⟨fun h=>(by rw[h] at hr; cases hr),fun j hj=> ?_⟩;by_cases hji:j=i
  ·subst hji; exact self hs hy ⟨F,Le.refl F,hs,H⟩
  ·have h1:=H.2 j (ready_mono hj hji);obtain ⟨hjun,oj,hoj,hall⟩:=mem_ready.1 hj
   have hnot:∀e∈oj.after,Region.binds .any e=true->e.on≠i:=fun e he hb heq=>by
    have g1:=hall e he hb;have g0:=(mem_ready.1 hr).1;rw[heq] at g1;rcases Nat.lt_or_ge i li.size with h' | h'
    ·simp[h'] at g0 g1; rw[g0] at g1; cases g1
    ·simp[Array.getElem?_eq_none h'] at g1
   obtain ⟨p1,p2,p3⟩:=Oper.apart_spec (hfree j oj hoj hji hjun hnot);obtain ⟨q1,q2⟩:=plain_spec hpl hoj;have hsi:=(plain_spec hpl hi).2
   have hfree':∀k ok,ops[k]? = some ok->k≠i->(li.setIfInBounds j true).getD k true=false->(∀e∈ok.after,Region.binds .any e=true->e.on≠i)->oi.apart ops ok=true:=fun k ok hk hki hun hno=>by
    refine hfree k ok hk hki ?_ hno;by_cases hjk:j=k
    ·subst hjk; exact hjun
    ·rw[getD_set_ne true hjk] at hun; exact hun
   have next:∀a' w',((∀w,Sees F w->(execOp a'.eval oi).run P w= .ok (.value v) w)/\∃F',Le F F'/\Sees F' w'/\wpAnyJ rd P ops Q fuel F' ((li.setIfInBounds i true).setIfInBounds j true) (a'.put oi.dst v) w')->∃F',Le F F'/\Sees F' w'/\wpAnyJ rd P ops Q (fuel+1) F' (li.setIfInBounds j true) a' w':=fun a' w' h3=>by
    obtain ⟨h4,F',h5,h6,h7⟩:=h3;exact ⟨F',h5,h6,ih F' (li.setIfInBounds j true) a' w' h6 hfree' (ready_mono hr (Ne.symm hji)) (fun w hw=>h4 w (Sees.le h5 hw)) (by rw[Array.setIfInBounds_comm _ _ hji]; exact h7)⟩
   refine wpOpIn_mono next ?_;unfold wpOpIn at h1 ⊢;simp only[hoj] at h1 ⊢;rw[wanted_put (ops:=ops) oj a oi.dst v p1] at h1;split
   ·rename_i hw;rw[if_pos hw] at h1
    exact opG_put (ops:=ops) q1 q2 p1 p2 hQ (I:=fun a'=>∀w,Sees F w->(execOp a'.eval oi).run P w= .ok (.value v) w) (fun u=>by rw[execOp_put (ops:=ops) oi hsi a oj.dst u p3]; exact hy)
     (fun dd=>by rw[execOp_put (ops:=ops) oi hsi { a with defers:=dd::a.defers } oj.dst undef p3]; exact hy) h1
   ·rename_i hw;rw[if_neg hw] at h1;refine ⟨fun _ _=>trivial,?_,?_⟩
    ·rw[execOp_put (ops:=ops) oi hsi a oj.dst undef p3]; exact hy
    ·rw[<- Act.put_comm a v undef p2]; exact h1.2
theorem ldV_all {t:TypeId} {ad:Addr} {cs:List V} {g:Nat->Value} {v:V} (h:At F ad cs g) (hl:ldV P t cs=some v):∃x,∀w',Sees F w'->(loadVar t ad).run P w'= .ok x w':=by
 unfold ldV at hl;cases hb:aggB P t with
 | none=>rw[hb] at hl; cases hl
 | some b=>
  rw[hb] at hl;cases b with
  | true=>
   simp only[Option.map_eq_some_iff] at hl;obtain ⟨r,hr,rfl⟩:=hl;obtain ⟨rfl,hn⟩:=takeN_some hr
   have hi:∃i,P.info? t=some i:=by
    unfold aggB at hb;cases hu:P.underlying t with
    | none=>rw[hu] at hb; cases hb
    | some d=>exact info_of_underlying hu
   obtain ⟨i,hi⟩:=hi;refine ⟨.agg ((List.range (P.cellsOf t)).map g).toArray,fun w' hF=> ?_⟩;have hrun:=run_loadCells (P:=P) w' ad (P.cellsOf t) g (fun j hj=>hF _ _ (h.at_ j cs[j] (List.getElem?_eq_getElem (by omega))));simp[loadVar,run_isAgg hb,run_sizeOf' hi,hrun,Result.andThen]
  | false=>
   simp only[List.head?_eq_getElem?] at hl;refine ⟨g 0,fun w' hF=> ?_⟩;have:=hF _ _ (h.at_ 0 v hl);have h0:ad.add 0=ad:=by simp[Addr.add]
   rw[h0] at this;simp[loadVar,run_isAgg hb,Result.andThen,this]
theorem ld_all {o:Oper} {K:St->Prop} (S:SimS P T M F0 w0 F ρ st a w) (hp:isLd o=true) (hz:frzO o.op st) (h:stepO P T o st K):∃v,∀w',Sees F w'->(execOp a.eval o).run P w'= .ok (.value v) w':=by
 simp only[isLd,Bool.and_eq_true] at hp;obtain ⟨-,hp⟩:=hp;split at hp
 ·rename_i t x ho;have h':ldK P o t x st K:=by unfold stepO at h; rw[ho] at h; exact h
  unfold ldK at h';rw[ho] at h' hz;have G:=Sim.good S;cases he:evq P (opv st.σ) st.h (.load t x) with
  | none=>exfalso; rw[he] at h'; exact h'
  | some tv=>
   simp only[evq,Option.bind_eq_some_iff,Option.map_eq_some_iff] at he;obtain ⟨cs,h1,v,h2,rfl⟩:=he;simp only[frzO] at hz
   have key:∃ad g,a.eval x= .pointer (some ad)/\At F ad cs g:=by
    unfold frzX at hz;split at hz
    ·rename_i cs' hx;rw[hx] at h1;cases h1;obtain ⟨ad,g,e,hat⟩:=rep_row_inv (show Rep F (.row _) (a.eval x) from G.opr x _ hx);exact ⟨ad,g,e,hat⟩
    ·rename_i id off hx;have e:=show a.eval x=_ from G.opr x _ hx
     rw[hx] at h1;split at hz
     ·rename_i cs' hk;simp only[behind,memV,hk,Option.some.injEq] at h1;subst h1;obtain ⟨g,g1,g2,g3⟩:=G.blk id _ hk;exact ⟨_,fun j=>g (off+j),e,fun c hc=>g1 c (List.mem_of_mem_drop hc),fun j c hc=>by rw[add_plain]; exact g2 _ c (by simpa using hc),fun j c hc=>g3 _ c (by simpa using hc)⟩
     ·exact hz.elim
    ·exact hz.elim
   obtain ⟨ad,g,e,hat⟩:=key;obtain ⟨y,hy⟩:=ldV_all (P:=P) hat h2;refine ⟨y,fun w' hw'=> ?_⟩;unfold execOp;rw[ho];have:(Instr.loadAt t (a.eval x)).run P w'= .ok y w':=by simp[Instr.loadAt,e,Instr.sureAddr,hy w' hw']
   simp[this,Result.andThen]
 ·cases hp
theorem stpOL_ld {o:Oper} {st:St} {K:St->Prop} (h:isLd o=true) (hk:stpOL P T o st K):stepO P T o st K:=by
 unfold stpOL at hk;unfold isLd at h;split at hk
 ·rename_i ho;rw[ho] at h;simp at h
 ·exact hk
theorem graph_sound {K:St->Prop} (hpl:plainOps ops=true) (hQ:∀c a w,¬Q (.panic c) a w) (hK:∀F' ρ' st' a' w',SimS P T M F0 w0 F' ρ' st' a' w'->K st'->Q .normal a' w'):∀(t:List Gent) (k:Nat) (e:Gent) (fuel:Nat) (F:Frz) (ρ:Nat->Nat) (st:St) (a:Act) (w:World),
  okG ops t=true->t[k]? = some e->e.d<=fuel->SimS P T M F0 w0 F ρ st a w->awG P T ops.toList K t k st->wpAnyJ rd P ops Q fuel F e.li.toArray a w
 | [],k,e,fuel,F,ρ,st,a,w,ho,he,hd,S,h=>by cases he
 | x::r,k+1,e,fuel,F,ρ,st,a,w,ho,he,hd,S,h=>by
  simp only[okG,Bool.and_eq_true] at ho;exact graph_sound hpl hQ hK r k e fuel F ρ st a w ho.1 (by simpa using he) hd S h
 | x::r,0,e,fuel,F,ρ,st,a,w,ho,he,hd,S,h=>by
  simp only[List.getElem?_cons_zero,Option.some.injEq] at he;subst he;simp only[okG,Bool.and_eq_true] at ho;obtain ⟨ho,hx⟩:=ho;have S':=sim_nrm (l:=ops.toList) S
  have first:∀ {i k:Nat} {e':Gent} {f':Nat} {o:Oper},ops[i]? = some o->o.guard=none->i∈Region.ready .any ops x.li.toArray->Region.free .any ops x.li.toArray i=true->r[k]? = some e'->e'.li=x.li.set i true->e'.d<=f'->
    (∃v,∀w',Sees F w'->(execOp a.eval o).run P w'= .ok (.value v) w')->stepO P T o { st with t:=nrmT ops.toList st.t } (awG P T ops.toList K r k)->wpAnyJ rd P ops Q (f'+1) F x.li.toArray a w:=fun {i k e' f' o} hoi hgd hri h3 he' hli hlt hv hs=>by
   obtain ⟨v,hv⟩:=hv;refine any_firstJ (P:=P) hoi hgd hpl hQ f' F _ a w S.sees (Region.free_spec hoi h3) hri hv ?_
   have:=stepO_sound (rd:=rd) (Q:=Q) (next:=fun a' w'=>∃F',Le F F'/\Sees F' w'/\wpAnyJ rd P ops Q f' F' (x.li.toArray.setIfInBounds i true) a' w') (sim_base S') hs fun F' ρ' st' a' w' S2 hK'=>by
    obtain ⟨S3,hle⟩:=sim_back S' S2;have:=graph_sound hpl hQ hK r k e' f' F' ρ' st' a' w' ho he' hlt S3 hK';rw[hli,<- List.setIfInBounds_toArray] at this;exact ⟨F',hle,S3.sees,this⟩
   have h6:=this.2;rw[Oper.semAt_eq _ _ _ (plain_spec hpl hoi).1,hv w S.sees] at h6;obtain ⟨F',hle,-,h7⟩:∃F',Le F F'/\Sees F' w/\wpAnyJ rd P ops Q f' F' (x.li.toArray.setIfInBounds i true) (a.put o.dst v) w:=h6;exact anyJ_mono hle h7
  unfold awG at h;cases hg:x.g with
  | fin=>
   rw[hg] at hx h;have hr:Region.ready .any ops x.li.toArray=[]:=List.isEmpty_iff.1 hx;have hq:Q .normal a w:=hK F ρ _ a w S' h;cases fuel with
   | zero=>exact ⟨hr,hq⟩
   | succ n=>exact ⟨fun _=>hq,by rw[hr]; simp⟩
  | one i k=>
   rw[hg] at hx h;simp only[Bool.and_eq_true] at hx;obtain ⟨⟨⟨h2,h3⟩,h4⟩,h5⟩:=hx;obtain ⟨e',he',hli,hlt⟩:=to_spec h5;obtain ⟨f',rfl⟩:∃f',fuel=f'+1:=⟨fuel-1,by omega⟩;have hri:i∈Region.ready .any ops x.li.toArray:=by simpa using h2
   obtain ⟨o,hoi⟩:=ready_op hri;rw[hoi] at h4;have hp:isPure o=true:=by simpa using h4
   have hgd:o.guard=none:=by
    simp only[isPure,Bool.and_eq_true] at hp;exact Option.isNone_iff_eq_none.1 hp.1
   have hs:stepO P T o { st with t:=nrmT ops.toList st.t } (awG P T ops.toList K r k):=by
    simp only[stepI] at h;have hi':ops.toList[i]? = some o:=by simpa using hoi
    rw[hi'] at h;simp only[gdV,hgd,gsel_true] at h;exact stpOL_pure hp h
   obtain ⟨v,hv⟩:=pure_all S' hp hs;exact first hoi hgd hri h3 he' hli (by omega) ⟨v,fun w' _=>hv w'⟩ hs
  | ld i k=>
   rw[hg] at hx h;simp only[Bool.and_eq_true] at hx;obtain ⟨⟨⟨h2,h3⟩,h4⟩,h5⟩:=hx;obtain ⟨e',he',hli,hlt⟩:=to_spec h5;obtain ⟨f',rfl⟩:∃f',fuel=f'+1:=⟨fuel-1,by omega⟩;have hri:i∈Region.ready .any ops x.li.toArray:=by simpa using h2
   obtain ⟨o,hoi⟩:=ready_op hri;rw[hoi] at h4;have hp:isLd o=true:=by simpa using h4
   have hgd:o.guard=none:=by
    simp only[isLd,Bool.and_eq_true] at hp;exact Option.isNone_iff_eq_none.1 hp.1
   have hi':ops.toList[i]? = some o:=by simpa using hoi
   obtain ⟨hz,h⟩:=h
   have hz':frzO o.op { st with t:=nrmT ops.toList st.t } := by
    simp only[frzL] at hz;rw[hi'] at hz;exact hz
   have hs:stepO P T o { st with t:=nrmT ops.toList st.t } (awG P T ops.toList K r k):=by
    simp only[stepI] at h;rw[hi'] at h;simp only[gdV,hgd,gsel_true] at h;exact stpOL_ld hp h
   exact first hoi hgd hri h3 he' hli (by omega) (ld_all S' hp hz' hs) hs
  | nam id k=>
   rw[hg] at hx h;simp only at hx h;split at hx
   ·rename_i e' he';simp only[Bool.and_eq_true] at hx;have h3:e'.d<=x.d:=Nat.le_of_ble_eq_true hx.2;have:=graph_sound hpl hQ hK r k e' fuel F ρ _ a w ho he' (by omega) (Sim.nam S id) (h (ρ id));rw[eq_of_beq hx.1] at this;exact this
   ·cases hx
  | alt js=>
   rw[hg] at hx h;simp only[Bool.and_eq_true,List.all_eq_true,Bool.not_eq_true'] at hx;obtain ⟨⟨h0,h1⟩,h2⟩:=hx
   have hdp:x.d≠0:=fun e0=>by
    cases hr:Region.ready .any ops x.li.toArray with
    | nil=>rw[hr] at h0; cases h0
    | cons j l=>
     obtain ⟨y,hy,-⟩:=List.any_eq_true.1 (h1 j (by rw[hr]; exact .head _));obtain ⟨e',-,-,hlt⟩:=to_spec (h2 y hy);omega
   obtain ⟨f',rfl⟩:∃f',fuel=f'+1:=⟨fuel-1,by omega⟩;refine ⟨fun hr=> ?_,fun j hj=> ?_⟩
   ·rw[hr] at h0; cases h0
   ·obtain ⟨y,hy,hyj⟩:=List.any_eq_true.1 (h1 j hj);have hyj:=eq_of_beq hyj;obtain ⟨e',he',hli,hlt⟩:=to_spec (h2 y hy);have hs:=awGs_mem h hy;rw[hyj] at hs hli;obtain ⟨o,hoi⟩:=ready_op hj;refine stepI_le hoi S' hs fun F' ρ' st' a' w' S2 hle hK'=> ?_;have:=graph_sound hpl hQ hK r y.2 e' f' F' ρ' st' a' w' ho he' (by omega) S2 hK';rw[hli,<- List.setIfInBounds_toArray] at this;exact ⟨F',hle,S2.sees,this⟩
end
theorem aw_graph [hm:Mixed P] {id:Nat} {ops:Array Oper} {l:List Oper} {st:St} {Q:AX->St->Prop} (t:List Gent) (k:awG P T l (Q .nm) t 0 st) (hl:ops.toList=l:=by rfl) (hB:okGraph ops t=true:=by kernel_rfl):aw P T (.region id ops true) st Q:=by
 subst hl;refine awL_sem ?_;intro rd M F0 w0 F ρ a w Q' id S hQ;simp only[okGraph,Bool.and_eq_true] at hB;obtain ⟨⟨h1,h2⟩,h3⟩:=hB
 match t,h2,h3,k with
 | e::r,h2,h3,k=>
  simp only[Bool.and_eq_true] at h3;obtain ⟨h3,h4⟩:=h3;have hx:Ext F w F w.drew:=(Ext.refl S.sees).drew;have:=graph_sound (rd:=rd) (Q:=fun e a w=>match e with | .normal=>∃F' ρ' st',SimS P T M F0 w0 F' ρ' st' a w/\Q .nm st' | _=>False) h1 (fun _ _ _ h=>h) (fun F' ρ' st' a' w' S' hK=>⟨F',ρ',st',S',hK⟩) (e::r) 0 e ops.size F ρ st a w.drew h2 rfl (Nat.le_of_ble_eq_true h4) (Sim.ext S hx) k;rw[eq_of_beq h3] at this;have hz:(List.replicate ops.size false).toArray=Array.replicate ops.size false:=by simp
  rw[hz] at this;refine wpIn_mono (wpIn_region_any hm.eq (anyJ_in _ _ _ _ _ this)) ?_;intro e a' w' hq;cases e with
  | normal=>obtain ⟨F',ρ',st',S',hK⟩:=hq; exact hQ F' ρ' st' a' w' S' hK
  | _=>exact hq.elim
def awGk (P:Program) (T:Lay) (l:List Oper) (K:St->Prop) (r:List Gent) (k:Nat):St->Prop:=fun st=>awG P T l K r k st
theorem awGk_app {l:List Oper} {K:St->Prop} {st:St} {r:List Gent} {k:Nat} : awGk P T l K r k st=awG P T l K r k st:=rfl
theorem awG_fin {l:List Oper} {K:St->Prop} {st:St} {li:List Bool} {d:Nat} {r:List Gent} : awG P T l K (⟨li,d,.fin⟩::r) 0 st=K { st with t:=nrmT l st.t } := rfl
theorem awG_one {l:List Oper} {K:St->Prop} {st:St} {li:List Bool} {d:Nat} {r:List Gent} {i k:Nat} : awG P T l K (⟨li,d,.one i k⟩::r) 0 st=stepI P T l i { st with t:=nrmT l st.t } (awGk P T l K r k):=rfl
theorem awG_ld {l:List Oper} {K:St->Prop} {st:St} {li:List Bool} {d:Nat} {r:List Gent} {i k:Nat} : awG P T l K (⟨li,d,.ld i k⟩::r) 0 st=(frzL l i { st with t:=nrmT l st.t } /\ stepI P T l i { st with t:=nrmT l st.t } (awGk P T l K r k)):=rfl
theorem awG_nam {l:List Oper} {K:St->Prop} {st:St} {li:List Bool} {d:Nat} {r:List Gent} {id k:Nat} : awG P T l K (⟨li,d,.nam id k⟩::r) 0 st=∀b,awG P T l K r k { st with h:=nam id b st.h } := rfl
theorem awG_next {l:List Oper} {K:St->Prop} {st:St} {e:Gent} {r:List Gent} {k:Nat} : awG P T l K (e::r) (k+1) st=awG P T l K r k st:=rfl
def awGsk (P:Program) (T:Lay) (l:List Oper) (K:St->Prop) (r:List Gent) (js:List (Nat×Nat)):St->Prop:=awGs P T l (awG P T l K r) js
theorem awG_alt {l:List Oper} {K:St->Prop} {st:St} {li:List Bool} {d:Nat} {r:List Gent} {js:List (Nat×Nat)} : awG P T l K (⟨li,d,.alt js⟩::r) 0 st=awGsk P T l K r js { st with t:=nrmT l st.t } := rfl
theorem awGs_nil {l:List Oper} {K:St->Prop} {st:St} {r:List Gent} : awGsk P T l K r [] st=True:=rfl
theorem awGs_cons {l:List Oper} {K:St->Prop} {st:St} {r:List Gent} {i k:Nat} {js:List (Nat×Nat)} : awGsk P T l K r ((i,k)::js) st=(stepI P T l i st (awGk P T l K r k)/\awGsk P T l K r js st):=rfl
@[congr] theorem awG_cg {l : List Oper} {K : St -> Prop} {r : List Gent} {k : Nat} {st st' : St} (h : st = st') : awG P T l K r k st = awG P T l K r k st' := by rw [h]
@[congr] theorem awGsk_cg {l : List Oper} {K : St -> Prop} {r : List Gent} {js : List (Nat × Nat)} {st st' : St} (h : st = st') : awGsk P T l K r js st = awGsk P T l K r js st' := by rw [h]
@[congr] theorem awGk_cg {l : List Oper} {K : St -> Prop} {r : List Gent} {k : Nat} : awGk P T l K r k = awGk P T l K r k := rfl
theorem aw_keep {c:Code} {st st':St} {Q:AX->St->Prop} (k:Kp) (hk:keepS k st=some st') (h:aw P T c st' Q):aw P T c st Q:=aw_as (fun _ _ _ _ _ _ _ S=>keepS_sound hk S) h
theorem graph_to {α:Type} {l:List Oper} {K:St->Prop} {t:List Gent} {st:St} (good:α->Prop) (k:Kp) (S:α->St) (hc:∀st st',keepS k st=some st'->K st'->K st) (h:∀x,good x->K (S x))
  (hm:∀K':St->Prop,(∀st x,good x->keepS k st=some (S x)->K' st)->awG P T l K' t 0 st):awG P T l K t 0 st:=hm K fun st x hg hk=>hc st _ hk (h x hg)
def mid (k:Kp) (φ:Prop) (S:St) (Q:AX->St->Prop):AX->St->Prop
 | .nm,st=>φ/\keepS k st=some S
 | e,st=>Q e st
theorem mid_rt (k:Kp) (φ:Prop) (S:St) (Q:AX->St->Prop) (st:St):mid k φ S Q .rt st=Q .rt st:=rfl
theorem aw_mid {x y:Code} {st:St} {Q:AX->St->Prop} (k:Kp) (φ:Prop) (S:St) (h1:aw P T x st (mid k φ S Q)) (h2:φ->aw P T y S Q):aw P T (.seq x y) st Q:=awL_seq (awL_mono h1 fun e st' h=>by
 cases e with
 | nm=>exact aw_keep k h.2 (h2 h.1)
 | ex id=>exact h
 | rt=>exact h)
theorem midK {k : Kp} {φ : Prop} {S : St} {Q : AX -> St -> Prop} {st : St} (h : φ) (hk : keepS k st = some S := by
      first
      | rfl
      | (simp only[keepS,ownNils,keepT,keepH,keepO,look_cons',look_nil,Nat.reduceEqDiff,↓reduceIte,ownOf,ctn_cons,ctn_nil,Nat.reduceBEq,List.all_nil,remo_nil,remo_cons,Bool.or_false,Bool.or_true,beq_self_eq_true,okK,List.all_cons,ownNils,Bool.true_or,Bool.and_self,cond_true,decide_true,Nat.reduceLT]; rfl)):mid k φ S Q .nm st:=⟨h,hk⟩
theorem leafK {α : Type} {good : α -> Prop} {k : Kp} {S : α -> St} {K' : St -> Prop} {st : St} (hK : ∀ st x,good x -> keepS k st = some (S x) -> K' st) (x : α) (hx : good x) (hk : keepS k st = some (S x) := by
      first
      | rfl
      | (simp only[keepS,ownNils,keepT,keepH,keepO,look_cons',look_nil,Nat.reduceEqDiff,↓reduceIte,ownOf,ctn_cons,ctn_nil,Nat.reduceBEq,List.all_nil,remo_nil,remo_cons,Bool.or_false,Bool.or_true,beq_self_eq_true,okK,List.all_cons,ownNils,Bool.true_or,Bool.and_self,cond_true,decide_true,Nat.reduceLT]; rfl)):K' st:=hK st x hx hk
abbrev tt:Bool:=true
abbrev ff:Bool:=false
theorem runG {p q r:Prop} (hr:r) (h:q) (e:r->q->p:=by
    intro hr h
    (simp (config := {maxSteps := 1000000,implicitDefEqProofs := false}) (disch := (first | omega | (simp only [List.length_append,List.length_cons,List.length_nil,List.length_drop,List.length_take,List.length_map]; omega))) only [↓awG_fin,↓awG_one,↓awG_ld,frzL,frzO,frzX,↓awG_alt,↓awG_next,↓awG_nam,↓awGs_nil,↓awGs_cons,awGk_app,stepI,nrmT,and_self,and_true,↓awO_cons,awO_nil,↓awD_cons,awD_nil,↓awE_cons,awE_nil,stepE,↓awC_cons,awC_nil,effD,stepC,↓gsel_true,↓gsel_false,stepO,stpOL,stepD,gdV,movK,putK,retK,retD,retM,evK,awOk_app,awDk_app,awEk_app,awCk_app,awk_app,
          opv_tmp,opv_func,opv_int,opv_bool,opv_nil,opv_nili,opv_tup,opv_str,opv_mapnil,opv_fnil,vOf_v,vOf_p,vOf_s,vOf_m,nu_v,nu_p,nu_m,nu_s,tvsOf,cutS_in,cutS_no,idxS_in,cutV_nn,cutV_ns,cutV_sn,cutV_ss,clearK,argsT,re,σ_mk,args0,unT_nil,unT_v,unT_u,unT_p,unT_m,unT_s,remj_nil,remj_cons,unH_nil,unH_cons,remo_nil,addo_nil,delo_nil,remo_cons,addo_cons,delo_cons,flt_nil,flt_cons,ctn_nil,ctn_cons,ownOf,owner,appK,appL,appS,appX,
          look_cons',look_nil,seth,setAt,ldK,ldO,stO,remBs,hasC_nil,hasC_cons,any_nil',any_cons',tmpOf_t,tmpOf_c,tmpOf_f,vN_v,vN_p,vN_m,nmOf_var,nmOf_map,nmOf_con,mref_m,mref_v,findN,findK_nil,findK_v,findK_m,findK_c,findK_vs,findK_ms,mapN,mapB_m,agg_cell,agg_agg,plc,pid,pof,mpc,setbs,setb,lk,bk,backO,remK,lentO,Blk.wn,Blk.nm,nam,Nat.reduceDiv,Nat.reduceMod,Nat.reduceEqDiff,Nat.reduceBEq,Nat.reduceBNe,↓reduceIte,Nat.reduceAdd,Nat.reduceMul,Nat.reduceLT,Nat.reduceLeDiff,Nat.reduceSub,and_t,Bool.or_true,Bool.or_false,Bool.true_or,Bool.false_or,Bool.and_true,Bool.true_and,Bool.and_false,Bool.false_and,Option.isSome_none,Bool.false_eq_true,reduceCtorEq,
          sqk_nm,sqk_ex,sqk_rt,sq_nm,sq_ex,sq_rt,blk_nm,blk_rt,blk_same,blk_other,
          evq,evb,behind,memV,ld_cell,ld_agg,takeN,fld_eq,sl_eq,sl_int,sl_str,convK,bytB,mkK,arr_eq,arr_no,arr_str,str_eq,bool_eq,ifc_eq,int_eq,und_eq,map_eq,zero_eq,zsome_eq,zok_eq,appok_eq,places_eq,zv_eq,eqt_eq,mapE,eqCells,eqC,nilK,keyT_str,keyT_int,okVal_s,okVal_i,okVal_b,ofVal_s0,ofVal_i,ofVal_b,Option.getD_none,Option.getD_some,cells_cell,cells_agg,info_cell,info_agg,
          idxV,bytV,minV,binV,shV_in,intOp,strOp,eqOp,convV,capV,capsV,lenV,sliceV,optV,vsOf,partsV,bsV,fillV,oneV,V.one,V.cells,okNot,frzR,frzC,frz1,frzB,
          List.drop_succ_cons,List.drop_zero,List.take_succ_cons,List.take_zero,List.length_cons,List.length_nil,List.nil_append,List.cons_append,List.append_nil,Option.map_some,Option.map_none,Option.bind_some,Option.bind_none,Option.some.injEq,Option.isSome_some,
          List.getElem?_cons_zero,List.getElem?_cons_succ,List.getElem?_map,List.length_map,nat_nn,toNat_cast,b_ft,b_tf,nn_t,ite_le_t,toNat_s,toNat_p,one_int,one_bool,one_nil,one_nili,wrap8_in,tdiv_10,tmod_10,ten_ne,List.size_toArray,eq_self,if_false,if_true,Int.reduceToNat,Int.reduceLE,Int.reduceLT,Int.reduceEq,Int.reduceNeg,Nat.mul_one,Nat.one_mul,Nat.zero_add,Nat.add_zero,wrap_in,dec_lt_t,dec_lt_f,dec_le_t,dec_le_f,dec_eq_t,dec_eq_f,decide_true,decide_false,Bool.not_true,Bool.not_false,cond_true,cond_false,beq_self_eq_true,hr])
    first | done | exact h):p:=e hr h
theorem runGraph {p q r:Prop} (hr:r) (h:q) (e:r->q->p:=by
  intro hr g
  repeat (first
   | with_reducible refine appO_k ?_
   | with_reducible refine appC_k ?_
   | refine runC ?_
   | refine aw_reg rfl ?_
   | refine runR ?_
   | refine runG hr ?_)
  exact g):p:=e hr h
end Go.Ab
namespace Go.Ab
open Go.RowKit
variable {P : Program} {T : Lay}
end Go.Ab
namespace Go.Ab
open Go.RowKit
variable {P : Program} {T : Lay} {rd : Option Nat}
variable {w w' w'' : World} {M N K : Nat -> Prop} {F0 F F' F'' : Frz} {w0 : World} {ρ : Nat -> Nat} {a : Act} {st : St}
structure Mv (T:Lay) (N:Nat->Prop) (F:Frz) (w:World) (F':Frz) (w':World):Prop where
 le:Le F F'
 sees:Sees F' w'
 lay:Laid T F' w'
 os:w'.os=w.os
 tape:w'.tape=w.tape
 output:w'.output=w.output
 size:w.heap.size<=w'.heap.size
 block:∀q,N q->w'.heap[q]? = w.heap[q]?
 new:∀p v,F' p=some v->F p=some v\/¬N p.block
 newm:∀b xs,F'.m b=some xs->F.m b=some xs\/¬N b
theorem Mv.refl (hs:Sees F w) (hl:Laid T F w):Mv T N F w F w:=⟨Le.refl F,hs,hl,rfl,rfl,rfl,Nat.le_refl _,fun _ _=>rfl,fun _ _ h=> .inl h,fun _ _ h=> .inl h⟩
theorem Mv.trans (h:Mv T N F w F' w') (k:Mv T N F' w' F'' w''):Mv T N F w F'' w'':=
  ⟨h.le.trans k.le,k.sees,k.lay,k.os.trans h.os,k.tape.trans h.tape,k.output.trans h.output,Nat.le_trans h.size k.size,fun q hq=>(k.block q hq).trans (h.block q hq),
   fun p v e=>(k.new p v e).elim (h.new p v) .inr,fun b xs e=>(k.newm b xs e).elim (h.newm b xs) .inr⟩
theorem Mv.mono {N':Nat->Prop} (h:Mv T N F w F' w') (hn:∀q,N' q->N q):Mv T N' F w F' w':=
  { h with
    block:=fun q hq=>h.block q (hn q hq)
    new:=fun p v e=>(h.new p v e).imp id fun hh hq=>hh (hn _ hq)
    newm:=fun b xs e=>(h.newm b xs e).imp id fun hh hq=>hh (hn _ hq) }
theorem laid_block {g:Nat} {xs:Array Value} (hl:Laid T F w) (e:T.r g=some xs):∃ys ty fz,w.heap[g]? = some (.cells ys ty fz):=by
 obtain ⟨⟨ty,fz,h⟩,_⟩:=hl.2 g xs e;exact ⟨_,ty,fz,h⟩
theorem Mv.put {l:Nat} {o o':Obj} (hs:Sees F w) (hl:Laid T F w) (h:w.heap[l]? = some o) (hc:o.isCells=false) (hm:∀xs ck,o≠ .map xs ck) (hc':o'.isCells=false) (hN:¬N l):Mv T N F w F (w.putObj l o'):=by
 have hlt:=heap_lt h;have hoth:∀q,q≠l->(w.putObj l o').heap[q]? = w.heap[q]? := fun q hq=>World.putObj_heap_other hq;have hsame:(w.putObj l o').heap[l]? = some o':=World.putObj_heap_same hlt
 have hcell:∀p,(w.putObj l o').cell? p=w.cell? p:=fun p=>by
  by_cases hp:p.block=l
  ·rw[cell_obj h hc p hp,cell_obj hsame hc' p hp]
  ·exact World.cell?_of_block (hoth _ hp)
 refine ⟨Le.refl F,⟨fun p v e=>by rw[hcell]; exact hs p v e,fun b xs e=> ?_⟩,⟨hl.1,fun g xs e=> ?_⟩,rfl,rfl,rfl,by simp,fun q hq=>hoth q fun e=>hN (e▸hq),fun _ _ e=> .inl e,fun _ _ e=> .inl e⟩
 ·obtain ⟨ck,hb⟩:=hs.m b xs e;exact ⟨ck,(hoth b fun he=>by rw[he,h] at hb; exact hm _ _ (Option.some.inj hb)).trans hb⟩
 ·obtain ⟨⟨ty,fz,h1⟩,h2⟩:=hl.2 g xs e;exact ⟨⟨ty,fz,(hoth g fun he=>by rw[he,h] at h1; cases h1; cases hc).trans h1⟩,h2⟩
theorem Mv.alloc (hs:Sees F w) (hl:Laid T F w) (o:Obj) (hN:∀q,N q->q<w.heap.size):Mv T N F w F (w.alloc o):=by
 have hk:∀q,q<w.heap.size->(w.alloc o).heap[q]? = w.heap[q]? := fun q hq=>Below.heap_alloc w o q hq;refine ⟨Le.refl F,⟨fun p v e=> ?_,fun b xs e=> ?_⟩,⟨hl.1,fun g xs e=> ?_⟩,rfl,rfl,rfl,by simp,fun q hq=>hk q (hN q hq),fun _ _ e=> .inl e,fun _ _ e=> .inl e⟩
 ·rw[World.cell?_of_block (w:=w) (hk _ (sees_lt hs e))]; exact hs p v e
 ·obtain ⟨ck,hb⟩:=hs.m b xs e;exact ⟨ck,(hk b (map_lt hs e)).trans hb⟩
 ·obtain ⟨⟨ty,fz,h1⟩,h2⟩:=hl.2 g xs e;exact ⟨⟨ty,fz,(hk g (heap_lt h1)).trans h1⟩,h2⟩
theorem Sim.mv (S:SimS P T M F0 w0 F ρ st a w) (hK:∀q,K q->¬M q):Mv T K F0 w0 F w:=
  have hlt:∀q,K q->q<w0.heap.size:=fun q hq=>Nat.lt_of_not_le fun h=>hK q hq (S.hM q h)
  ⟨S.le,S.sees,Sim.laid S,S.bel.os,S.bel.tape,S.bel.output,S.bel.size,fun q hq=>S.bel.block q (hlt q hq) (hK q hq),
   fun p v e=>(S.new p v e).imp id fun h hq=>hK _ hq h,fun b xs e=>(S.newm b xs e).imp id fun h hq=>hK _ hq h⟩
def cutF (F0 F:Frz):Frz:= { c:=F.c,m:=F.m,z:=F0.z }
theorem cutF_le (F0 F:Frz):Le (cutF F0 F) F:=⟨fun _ _ e=>e,fun _ _ e=>e⟩
theorem cutF_ge (F0 F:Frz):Le F (cutF F0 F):=⟨fun _ _ e=>e,fun _ _ e=>e⟩
theorem cutF_sees {F0 F:Frz} (h:Sees F w):Sees (cutF F0 F) w:=⟨h.c,h.m⟩
theorem cutF_laid {F0 F:Frz} (h:Laid T F w):Laid T (cutF F0 F) w:=⟨⟨h.1.c,h.1.m⟩,h.2⟩
theorem Mv.cut {F1:Frz} (h:Mv T N F w F' w'):Mv T N F w (cutF F1 F') w':=⟨h.le.trans (cutF_ge F1 F'),cutF_sees h.sees,cutF_laid h.lay,h.os,h.tape,h.output,h.size,h.block,h.new,h.newm⟩
theorem RepB.move {b:Nat} {k:Blk} (h:RepB F w b k) (hb:w'.heap[b]? = w.heap[b]?) (hle:Le F F') (hn:∀p v,F' p=some v->p.block=b->F p=some v) (hm:∀xs,F'.m b=some xs->F.m b=some xs):RepB F' w' b k:=by
 cases k with
 | var cs _ _=>
  obtain ⟨xs,ty,h1,h2,h3,h4,h5⟩:=h;exact ⟨xs,ty,hb.trans h1,h2,h3,fun j c x e1 e2=>(h4 j c x e1 e2).mono hle,fun p v e he=>h5 p v (hn p v e he) he⟩
 | con cs=>
  obtain ⟨g,h1,h2,h3⟩:=h;exact ⟨g,h1,fun j c e=>hle _ _ (h2 j c e),fun j c e=>(h3 j c e).mono hle⟩
 | itr es c _=>exact RepB.itr_mono h hb hle
 | map es _=>
  obtain ⟨xs,ck,h1,h0,h2,h3⟩:=h;refine ⟨xs,ck,hb.trans h1,?_,h2,fun j k v x e1 e2=>⟨((h3 j k v x e1 e2).1).mono hle,((h3 j k v x e1 e2).2).mono hle⟩⟩;cases e:F'.m b with
  | none=>rfl
  | some ys=>rw[h0] at hm; exact absurd (hm ys e) (by simp)
def mvM (M E:Nat->Prop) (w w':World):Nat->Prop:=fun q=>(M q/\q<w.heap.size/\¬E q)\/w'.heap.size<=q
theorem DfOk.re {M':Nat->Prop} : ∀ {ds:List Deferred},DfOk ds M w->(∀D,mark D∈ds->M D->w.heap[D]? = some (.deferred (some []))->M' D/\w'.heap[D]? = some (.deferred (some [])))->DfOk ds M' w'
 | [],_,_=>trivial
 | d::ds,h,hb=>by
  obtain ⟨D,h1,h2,h3,h4,h5⟩:=h;obtain ⟨g1,g2⟩:=hb D (by rw[h1]; exact List.mem_cons_self) h2 h3;exact ⟨D,h1,g1,g2,h4,h5.re fun D' hm=>hb D' (List.mem_cons_of_mem _ hm)⟩
theorem DfOk.mem:∀ {ds:List Deferred},DfOk ds M w->∀D,mark D∈ds->M D/\w.heap[D]? = some (.deferred (some []))
 | [],_,D,hm=>by cases hm
 | d::ds,h,D,hm=>by
  obtain ⟨D',h1,h2,h3,h4,h5⟩:=h;rcases List.mem_cons.1 hm with he | hm
  ·have:D=D':=by rw[h1] at he; simp[mark] at he; exact he
   subst this; exact ⟨h2,h3⟩
  ·exact h5.mem D hm
theorem Sim.move (S:SimS P T M F0 w0 F ρ st a w) {E:Nat->Prop} (hE:∀id k,look id st.h=some k->¬E (ρ id)) (hEc:∀g,E g->∀xs t z,w.heap[g]? ≠ some (.cells xs t z)) (ds:List Deferred) (hds:ds=[]\/(ds=a.defers/\∀D,mark D∈ds->¬E D))
  (h:Mv T N F w F' w') (hN:∀q,M q->q<w.heap.size->¬E q->N q):SimS P T (mvM M E w w') (cutF F0 F') w' F' ρ st { a with defers:=ds } w':=by
 have hkeep:∀q,M q->q<w.heap.size->¬E q->w'.heap[q]? = w.heap[q]? := fun q h1 h2 h3=>h.block q (hN q h1 h2 h3)
 have hh:∀(j:Nat) e c,st.o[j]? = some (e,c)->∀i∈c,held { a with defers:=ds } w' ρ i=held a w ρ i:=fun j e c hj i hi=>by
  rw[<- held_same S (w':=w') (fun g _ ⟨id,k,e,he⟩=>he▸hkeep _ (S.hp id k e).2.1 (S.hp id k e).2.2 (hE id k e)) j e c hj i hi];rfl
 have hlay:Laid T F w:=Sim.laid S
 exact {
  n:=S.n
  df:=by
   rcases hds with rfl | ⟨rfl,hd⟩
   ·trivial
   ·exact S.df.re fun D hm h1 h2=>⟨.inl ⟨h1,heap_lt h2,hd D hm⟩,(hkeep D h1 (heap_lt h2) (hd D hm)).trans h2⟩
  sees:=h.sees
  lay:=⟨cutF_laid h.lay,fun g hg=>by
   obtain ⟨xs,hx⟩:=Option.ne_none_iff_exists'.1 hg;obtain ⟨ys,ty,fz,h1⟩:=laid_block h.lay hx;rintro (⟨h2,_⟩ | h2)
   ·exact S.lay.2 g hg h2
   ·have:=heap_lt h1; omega⟩
  le:=cutF_le F0 F'
  new:=fun p v e=> .inl e
  newm:=fun b xs e=> .inl e
  bel:=BelM.refl _ _
  hM:=fun j hj=> .inr hj
  tm:=fun i tv e=>by obtain ⟨x,h1,h2⟩:=S.tm i tv e; exact ⟨x,h1,h2.mono h.le⟩
  wf:=S.wf
  hp:=fun id k e=>by
   obtain ⟨h1,h2,h3⟩:=S.hp id k e;have hq:=hN _ h2 h3 (hE id k e);refine ⟨h1.move (hkeep _ h2 h3 (hE id k e)) h.le (fun p v hp he=>(h.new p v hp).resolve_right (by rw[he]; exact fun hn=>hn hq)) (fun xs hx=>(h.newm _ xs hx).resolve_right fun hn=>hn hq),.inl ⟨h2,h3,hE id k e⟩,Nat.lt_of_lt_of_le h3 h.size⟩
  nn:=S.nn
  z:=fun id k hi e=>S.z id k hi e
  nb:=S.nb
  inj:=S.inj
  ow:=fun j e c hj=>by
   obtain ⟨v,h1,⟨m,xs,h2,h3⟩,h4⟩:=S.ow j e c hj
   have hg:∀g,v.ownBlock=some g->M g/\g<w.heap.size/\¬E g:=fun g hg=>by
    refine ⟨(h3 g hg).1,(h2.lt g hg).2,fun he=> ?_⟩;rcases h2.2 with hnil | ⟨g',cap,cur,r1,r2,⟨fz,rf,r3⟩,r4⟩
    ·rw[hnil.1] at hg; cases hg
    ·rw[r1] at hg;have:g'=g:=by simpa [Value.ownBlock] using hg
     subst this;exact hEc _ he _ _ _ r3
   refine ⟨v,fun i hi=>by rw[hh j e c hj i hi]; exact h1 i hi,⟨m,xs,⟨h2.1,?_⟩,fun g hg'=> ?_⟩,h4⟩
   ·rcases h2.2 with hnil | ⟨g',cap,cur,r1,r2,⟨fz,rf,r3⟩,r4⟩
    ·exact .inl hnil
    ·obtain ⟨q1,q2,q3⟩:=hg g' (by rw[r1]; simp[Value.ownBlock]);exact .inr ⟨g',cap,cur,r1,r2,⟨fz,rf,(hkeep _ q1 q2 q3).trans r3⟩,r4⟩
   ·obtain ⟨q1,q2,q3⟩:=hg g hg';exact ⟨.inl ⟨q1,q2,q3⟩,fun p u hp hpg=>(h3 g hg').2 p u ((h.new p u hp).resolve_right (by rw[hpg]; exact fun hn=>hn (hN _ q1 q2 q3))) hpg⟩
  od:=fun j j' e c e' c' hne hj hj' i hi i' hi' v v' g e1 e2=>S.od j j' e c e' c' hne hj hj' i hi i' hi' v v' g (by rw[<- hh j e c hj i hi]; exact e1) (by rw[<- hh j' e' c' hj' i' hi']; exact e2)
  oc:=S.oc }
theorem Sim.rez {F1:Frz} (S:SimS P T M (cutF F0 F1) w0 F ρ st a w) (hz:∀id,look id st.h≠none->id<999000):SimS P T M F1 w0 F ρ st a w:=
  { S with
    lay:=⟨⟨⟨S.lay.1.1.c,S.lay.1.1.m⟩,S.lay.1.2⟩,S.lay.2⟩
    le:=⟨S.le.c,S.le.m⟩
    new:=S.new
    newm:=S.newm
    z:=fun id k hi e=>by
      have:=hz id (by rw[e]; simp)
      omega }
end Go.Ab
namespace Go.Ab
open Go.RowKit
variable {P : Program} {T : Lay}
variable {w w' w'' : World} {M N K : Nat -> Prop} {F0 F F' F'' : Frz} {w0 : World} {ρ : Nat -> Nat} {a : Act} {st : St}
abbrev Gst:=Nat->(Nat->Prop)->Frz->World->Prop
def Stab (T:Lay) (J:Gst):Prop:=∀i N F w N' F' w',J i N F w->Mv T (fun q=>q<w.heap.size/\¬N q) F w F' w'->(∀q,N' q->(N q\/w.heap.size<=q)/\q<w'.heap.size)->(∀q,N q->N' q)->J i N' F' w'
structure Itr (P:Program) (T:Lay) (l:Nat) (xs:List V) (k:Nat) (J:Gst):Prop where
 st:Stab T J
 rd:∀i x v N F w,xs[i]? = some x->i<k->Rep F x v->Sees F w->Laid T F w->(∀q,N q->q<w.heap.size)->J i N F w->
  YieldAt (fc none) 0 P l #[v] w fun e w'=>∃F',e= .returned (.bool (decide (i+1<k)))/\Mv T N F w F' w'/\J (i+1) N F' w'
structure Cx (T:Lay) (J:Gst) (K:Nat->Prop) (Fs:Frz) (ws:World) (i:Nat) (M N:Nat->Prop) (F0:Frz) (w0:World):Prop where
 j:J i N F0 w0
 mn:∀q,M q->q<w0.heap.size->N q
 nb:∀q,N q->q<w0.heap.size
 kn:∀q,K q->N q/\¬M q
 mv:Mv T K Fs ws F0 w0
def OkK (rd:Option Nat) (K:Nat->Prop) (ws:World):Prop:=∀l,rd=some l->K l/\∃x,ws.heap[l]? = some (.loop x)
def nowN (N:Nat->Prop) (w0 w:World):Nat->Prop:=fun q=>N q\/(w0.heap.size<=q/\q<w.heap.size)
variable {J : Gst} {Fs : Frz} {ws : World} {i : Nat} {rd : Option Nat} {l k : Nat} {xs : List V}
theorem Cx.now (C:Cx T J K Fs ws i M N F0 w0) (hJ:Stab T J) (S:SimS P T M F0 w0 F ρ st a w):J i (nowN N w0 w) F w:=by
 refine hJ i N F0 w0 _ F w C.j (Sim.mv S fun q hq hm=>hq.2 (C.mn q hm hq.1)) (fun q hq=> ?_) fun q hq=> .inl hq;rcases hq with hq | hq
 ·exact ⟨.inl hq,Nat.lt_of_lt_of_le (C.nb q hq) S.bel.size⟩
 ·exact ⟨.inr hq.1,hq.2⟩
theorem nowN_m (C:Cx T J K Fs ws i M N F0 w0):∀q,M q->q<w.heap.size->nowN N w0 w q:=fun q h1 h2=>by
 by_cases h:q<w0.heap.size
 ·exact .inl (C.mn q h1 h)
 ·exact .inr ⟨by omega,h2⟩
theorem nowN_b (C:Cx T J K Fs ws i M N F0 w0) (S:SimS P T M F0 w0 F ρ st a w):∀q,nowN N w0 w q->q<w.heap.size:=fun q hq=>by
 rcases hq with hq | hq
 ·exact Nat.lt_of_lt_of_le (C.nb q hq) S.bel.size
 ·exact hq.2
theorem Cx.ok (C:Cx T J K Fs ws i M N F0 w0) (h:OkK rd K ws):OkR rd M w0:=fun l e=>by
 obtain ⟨h1,x,h2⟩:=h l e;exact ⟨(C.kn l h1).2,x,(C.mv.block l h1).trans h2⟩
theorem Cx.step (C:Cx T J K Fs ws i M N F0 w0) (S:SimS P T M F0 w0 F ρ st a w) (hJ:Stab T J) {i':Nat} (h:Mv T (nowN N w0 w) F w F' w') (hj:J i' (nowN N w0 w) F' w'):
  Cx T J K Fs ws i' (mvM M (fun _=>False) w w') (nowN N w0 w) (cutF F0 F') w'/\SimS P T (mvM M (fun _=>False) w w') (cutF F0 F') w' F' ρ st a w':=by
 have hk:∀q,K q->q<w0.heap.size:=fun q hq=>C.nb q (C.kn q hq).1;refine ⟨⟨?_,fun q hq hlt=> ?_,fun q hq=>Nat.lt_of_lt_of_le (nowN_b C S q hq) h.size,fun q hq=>⟨.inl (C.kn q hq).1,?_⟩,?_⟩,Sim.move S (fun _ _ _ h=>h) (fun _ h=>h.elim) a.defers (.inr ⟨rfl,fun _ _ h=>h⟩) h fun q h1 h2 _=>nowN_m C q h1 h2⟩
 ·exact hJ i' _ F' w' _ _ w' hj (Mv.cut (Mv.refl h.sees h.lay)) (fun q hq=>⟨.inl hq,Nat.lt_of_lt_of_le (nowN_b C S q hq) h.size⟩) fun q hq=>hq
 ·rcases hq with ⟨h1,h2,_⟩ | h1
  ·exact nowN_m C q h1 h2
  ·omega
 ·rintro (⟨h1,_⟩ | h1)
  ·exact (C.kn q hq).2 h1
  ·have:=hk q hq; have:=S.bel.size; have:=h.size; omega
 ·exact (C.mv.trans (Sim.mv S fun q hq=>(C.kn q hq).2)).trans ((h.mono fun q hq=> .inl (C.kn q hq).1).cut)
def PB (P:Program) (T:Lay) (J:Gst) (K:Nat->Prop) (Fs:Frz) (ws:World) (Q:AX->St->Nat->Prop) (e:AX) (a:Act) (w:World):Prop:=
 ∃i M N F0 w0 F ρ st,Cx T J K Fs ws i M N F0 w0/\SimS P T M F0 w0 F ρ st a w/\Q e st i
def PostI (P:Program) (T:Lay) (J:Gst) (K:Nat->Prop) (Fs:Frz) (ws:World) (Q:AX->St->Nat->Prop):Exit->Act->World->Prop
 | .normal,a,w=>PB P T J K Fs ws Q .nm a w
 | .exit id,a,w=>PB P T J K Fs ws Q (.ex id) a w
 | .ret,a,w=>PB P T J K Fs ws Q .rt a w
 | _,_,_=>False
def awI (P:Program) (T:Lay) (l:Nat) (xs:List V) (k:Nat) (rd:Option Nat) (c:Code) (st:St) (i:Nat) (Q:AX->St->Nat->Prop):Prop:=
 ∀(J:Gst),Itr P T l xs k J->∀(K:Nat->Prop) (Fs:Frz) (ws:World) (M N:Nat->Prop) (F0:Frz) (w0:World) (F:Frz) (ρ:Nat->Nat) (a:Act) (w:World),
  OkK rd K ws->Cx T J K Fs ws i M N F0 w0->SimS P T M F0 w0 F ρ st a w->wpG rd P c (PostI P T J K Fs ws Q) a w
variable {Q Q' : AX -> St -> Nat -> Prop} {x y c : Code}
def sqI (A:St->Nat->Prop) (Q:AX->St->Nat->Prop):AX->St->Nat->Prop
 | .nm,st,i=>A st i
 | e,st,i=>Q e st i
def blkI (id:Nat) (Q:AX->St->Nat->Prop):AX->St->Nat->Prop
 | .ex j,st,i=>if j=id then Q .nm st i else Q (.ex j) st i
 | e,st,i=>Q e st i
def yieldOf:Option V->Option Nat
 | some (.val (.func (.yield l) first cap))=>bif first.toList.isEmpty && cap.toList.isEmpty then some l else none
 | _=>none
def yv (o:Oper) (st:St):Option (Nat×V):=
 match o.op with
 | .call c=>match c.callee with
  | .value f=>match yieldOf (vOf (opv st.σ f)),vsOf (opv st.σ) c.args.toList with
   | some l,some [x]=>some (l,x)
   | _,_=>none
  | _=>none
 | _=>none
def YK (l:Nat) (xs:List V) (k:Nat) (st:St) (d:Option Tmp) (i l':Nat) (x:V) (K:St->Nat->Prop):Prop:=
 l'=l/\xs[i]? = some x/\i<k/\putK st d (.v (.val (.bool (decide (i+1<k))))) fun st'=>K st' (i+1)
def stepY (P:Program) (T:Lay) (l:Nat) (xs:List V) (k:Nat) (o:Oper) (st:St) (i:Nat) (K:St->Nat->Prop):Prop:=
 match yv o st with
 | some (l',x)=>YK l xs k st o.dst i l' x K
 | none=>stepO P T o st fun st'=>K st' i
def awOI (P:Program) (T:Lay) (l:Nat) (xs:List V) (k:Nat) (ops:List Oper):List Oper->St->Nat->(St->Nat->Prop)->Prop
 | [],st,i,K=>K st i
 | o::rest,st,i,K=>match gdV ops o st.σ with
  | none=>False
  | some b=>gsel b (stepY P T l xs k o st i fun st' i'=>awOI P T l xs k ops rest st' i' K) (putK st o.dst .u fun st'=>awOI P T l xs k ops rest st' i K)
end Go.Ab
namespace Go.Ab
open Go.RowKit
variable {P : Program} {T : Lay}
variable {w w' w'' : World} {M N K E : Nat -> Prop} {F0 F F' F'' Fs : Frz} {w0 ws : World} {ρ : Nat -> Nat} {a aR : Act} {st : St}
variable {J : Gst} {i : Nat} {rd : Option Nat} {l k : Nat} {xs : List V} {rec : Nat -> Loop} {Sf : Nat -> St} {I : Nat -> Nat}
structure RJ (P:Program) (T:Lay) (J:Gst) (K:Nat->Prop) (Fs:Frz) (ws:World) (E:Nat->Prop) (l:Nat) (rec:Nat->Loop) (Sf:Nat->St) (I:Nat->Nat) (aR:Act) (j:Nat) (Nin:Nat->Prop) (F:Frz) (w:World):Prop where
 body:∃ ρ M N,SimS P T M F w F ρ (Sf j) aR w/\J (I j) N F w/\(∀q,M q->q<w.heap.size->N q/\¬Nin q)/\(∀q,N q->q<w.heap.size)/\(∀q,K q\/E q\/q=l->N q/\¬M q/\¬Nin q)/\∀q,Nin q->N q
 rc:w.heap[l]? = some (.loop (rec j))
 eo:∀q,E q->w.heap[q]? = some (.deferred (some []))
 mv:Mv T K Fs ws F w
theorem Sim.reframe {n:Nat} {t2:List (Nat×TV)} {h:List (Nat×Blk)} {o:List (TypeId×List Nat)} {a3:Act} (S:SimS P T M F0 w0 F ρ ⟨n,t2,h,o⟩ a3 w) (hn:aR.tmps.size=n) (hd:aR.defers=[]) (t0:List (Nat×TV))
    (htm:∀i tv,look i t0=some tv->∃x,aR.tmps[i]? = some x/\RepT F ρ tv x) (hwf:∀i tv,look i t0=some tv->wfT h tv) (hoc:∀(q:Nat) e c,o[q]? = some (e,c)->∀z∈c,1000000000<=z):SimS P T M F0 w0 F ρ ⟨n,t0,h,o⟩ aR w:=by
  have hh:∀(q:Nat) e c,o[q]? = some (e,c)->∀z∈c,held aR w ρ z=held a3 w ρ z:=fun q e c hq z hz=>by
    have:=hoc q e c hq z hz;rw[held_cell (by omega),held_cell (by omega)]
  have hs:a3.tmps.size=n:=S.n;have hnn:=S.nn
  exact { n := hn
          df:=by rw[hd]; trivial
          sees:=S.sees,lay:=S.lay,le:=S.le,new:=S.new,newm:=S.newm,bel:=S.bel,hM:=S.hM
          tm:=htm
          wf:=hwf
          hp:=S.hp
          nn:=by rw[hn,<- hs]; exact hnn
          z:=S.z,nb:=S.nb,inj:=S.inj
          ow:=fun j e c hj=>by
            obtain ⟨v,h1,h2⟩:=S.ow j e c hj;exact ⟨v,fun i hi=>by rw[hh j e c hj i hi]; exact h1 i hi,h2⟩
          od:=fun j j' e c e' c' hne hj hj' i hi i' hi' v v' g e1 e2=>S.od j j' e c e' c' hne hj hj' i hi i' hi' v v' g (by rw[<- hh j e c hj i hi]; exact e1) (by rw[<- hh j' e' c' hj' i' hi']; exact e2)
          oc:=S.oc }
def toCode:AX->Code
 | .nm=> .skip
 | .rt=> .ret
 | .ex id=> .exit id
def jmp:AX->Option Code
 | .nm=>none
 | e=>some (toCode e)
def recOf (fn:FuncId) (tmps:Array Value) (ps:Array Tmp) (assign body:Code) (D kk:Nat) (c:AX) (j:Nat):Loop:=
 { state:=if j<kk then .ready else .done,pending:=if j<kk then none else jmp c,fn,tmps,params:=ps,assign,body,defers:=D }
theorem RJ.round {ys:List V} {kk p n D:Nat} {cc:AX} {fn:FuncId} {assign body:Code} {t0:List (Nat×TV)} {h:Nat->List (Nat×Blk)} {o:Nat->List (TypeId×List Nat)} {nmf:Nat->Nat} {lo:Nat}
  (hfn:(fc none).fn fn) (hJ:Itr P T lo xs k J) (hcc:cc≠ .nm) (hp:p<n) (hn:aR.tmps.size=n) (hd:aR.defers=[]) (hKl:¬K l) (hEl:¬E l)
  (hwf:∀j q tv,look q t0=some tv->wfT (h j) tv) (hnm:∀j id k,look id (h j)=some k->k.nm=some (nmf id)) (hz:∀j id,look id (h j)≠none->id<999000) (hoc:∀(j q:Nat) e c,(o j)[q]? = some (e,c)->∀z∈c,1000000000<=z)
  (hr:∀j x lr,ys[j]? = some x->j<kk->aw P T assign ⟨n,(p,.v x)::t0,h j,o j⟩ fun e st1=>e= .nm/\awI P T lo xs k (some lr) body st1 (I j) fun e st2 i2=>i2=I (j+1)/\(∃kp2 t2,keepS kp2 st2=some ⟨n,t2,h (j+1),o (j+1)⟩)/\e=if j+1<kk then .nm else cc):
  ∀j x v Nin F w,ys[j]? = some x->j<kk->Rep F x v->Sees F w->Laid T F w->(∀q,Nin q->q<w.heap.size)->RJ P T J K Fs ws E l (recOf fn aR.tmps #[p] assign body D kk cc) (fun j=>⟨n,t0,h j,o j⟩) I aR j Nin F w->
  YieldAt (fc none) 0 P l #[v] w fun e w'=>∃F',e= .returned (.bool (decide (j+1<kk)))/\Mv T Nin F w F' w'/\RJ P T J K Fs ws E l (recOf fn aR.tmps #[p] assign body D kk cc) (fun j=>⟨n,t0,h j,o j⟩) I aR (j+1) Nin F' w':=by
 intro j x v Nin F w hx hjk hxv _ _ hNb ⟨⟨ρ,M,N,S0,hj,hM,hN,hK,hin⟩,hrc,heo,hmv⟩;have hlt:=heap_lt hrc;have hMl:¬M l:=(hK l (.inr (.inr rfl))).2.1;have hy:=run_yield (P:=P) (args:= #[v]) hrc (by simp[recOf]);refine ⟨fn,_,assign,body,hy,roundIn_of_wpIn hfn ?_⟩;have hnn:aR.tmps.size<=999000:=S0.nn
 have S1:SimS P T M F w F ρ ⟨n,(p,.v x)::t0,h j,o j⟩ (aR.put (some p) v) w:=by
  have:=Sim.put (d:=some p) (tv:= .v x) (x:=v) S0 hxv trivial (fun d' e=>by
   cases e;refine ⟨hp,fun q e c hq hm=> ?_⟩;have:=hoc j q e c hq p hm
   omega)
  have e:=σ_cons ⟨n,t0,h j,o j⟩ p (.v x) (h j) (o j);unfold SimS;rw[show (St.mk n ((p,.v x)::t0) (h j) (o j)).σ=_ from e];exact this
 have hact:({ tmps:=((recOf fn aR.tmps #[p] assign body D kk cc j).params.zip #[v]).foldl (fun tmps (t,a)=>tmps.setIfInBounds t a) (recOf fn aR.tmps #[p] assign body D kk cc j).tmps,defers:=[] } : Act)=aR.put (some p) v:=by
  simp[recOf,Act.put,hd]
 rw[hact];have hA:=hr j x l hx hjk;unfold aw at hA;refine wpIn_mono (hA (some l) M F w F ρ _ w (fun l' e=>by cases e; exact ⟨hMl,_,hrc⟩) S1) ?_;intro e a1 w1 hh;cases e with
 | exit id=>obtain ⟨_,_,_,_,he,_⟩:=hh; cases he
 | ret=>obtain ⟨_,_,_,_,he,_⟩:=hh; cases he
 | goto l=>exact hh
 | panic c=>exact hh
 | outgrown=>exact hh
 | normal=>
 obtain ⟨F1,ρ1,st1,S1',-,hB⟩:=hh;have hl1:w1.heap[l]? = some (.loop (recOf fn aR.tmps #[p] assign body D kk cc j)):=(S1'.bel.block l hlt hMl).trans hrc;have hready:(recOf fn aR.tmps #[p] assign body D kk cc j).state= .ready:=if_pos hjk;obtain ⟨rb,hrb⟩:∃rb,({ recOf fn aR.tmps #[p] assign body D kk cc j with state:= .busy } : Loop)=rb:=⟨_,rfl⟩;refine ⟨_,run_beginRound hl1 hready,?_⟩;rw[hrb];have hput:Mv T (fun q=>q≠l) F1 w1 F1 (w1.putObj l (.loop rb)):=Mv.put S1'.sees (Sim.laid S1') hl1 rfl (fun _ _ h=>by cases h) rfl (fun h=>h rfl);have hl2:(w1.putObj l (.loop rb)).heap[l]? = some (.loop rb):=World.putObj_heap_same (heap_lt hl1);have hs2:(w1.putObj l (.loop rb)).heap.size=w1.heap.size:=by simp
 obtain ⟨w2,hw2⟩:∃w2,w1.putObj l (.loop rb)=w2:=⟨_,rfl⟩;rw[hw2] at hput hl2 hs2 ⊢;have S2:=Sim.move S1' (E:=fun _=>False) (fun _ _ _ h=>h) (fun _ h=>h.elim) a1.defers (.inr ⟨rfl,fun _ _ h=>h⟩) hput (fun q h1 _ _ he=>hMl (he▸h1));have hwle:w.heap.size<=w1.heap.size:=S1'.bel.size;have hNM:∀q,Nin q->¬M q:=fun q hq hm=>(hM q hm (hNb q hq)).2 hq
 have hKr:∀q,(K q\/Nin q\/E q\/q=l)->N q/\¬M q:=fun q hq=>by
  rcases hq with hq | hq | hq | hq
  ·exact ⟨(hK q (.inl hq)).1,(hK q (.inl hq)).2.1⟩
  ·exact ⟨hin q hq,hNM q hq⟩
  ·exact ⟨(hK q (.inr (.inl hq))).1,(hK q (.inr (.inl hq))).2.1⟩
  ·exact ⟨(hK q (.inr (.inr hq))).1,(hK q (.inr (.inr hq))).2.1⟩
 have C2:Cx T J (fun q=>K q\/Nin q\/E q\/q=l) (cutF F F1) w2 (I j) (mvM M (fun _=>False) w1 w2) (nowN N w w1) (cutF F F1) w2:=by
  refine ⟨?_,fun q hq hlt=> ?_,fun q hq=> ?_,fun q hq=>⟨.inl (hKr q hq).1,?_⟩,Mv.refl (cutF_sees hput.sees) (cutF_laid hput.lay)⟩
  ·refine hJ.st (I j) N F w _ _ w2 hj (((Sim.mv S1' fun q hq hm=>hq.2 (hM q hm hq.1).1).trans (hput.mono fun q hq he=>hq.2 (by rw[he]; exact (hK l (.inr (.inr rfl))).1))).cut) (fun q hq=> ?_) fun q hq=> .inl hq;rcases hq with hq | hq
   ·exact ⟨.inl hq,by have:=hN q hq; omega⟩
   ·exact ⟨.inr hq.1,by omega⟩
  ·rcases hq with ⟨h1,h2,_⟩ | h1
   ·by_cases hq:q<w.heap.size
    ·exact .inl (hM q h1 hq).1
    ·exact .inr ⟨by omega,h2⟩
   ·omega
  ·rcases hq with hq | hq
   ·have:=hN q hq; omega
   ·omega
  ·rintro (⟨h1,_⟩ | h1)
   ·exact (hKr q hq).2 h1
   ·have:=hN q (hKr q hq).1; omega
 refine wpIn_mono (hB J hJ _ (cutF F F1) w2 _ _ (cutF F F1) w2 F1 ρ1 a1 w2 (fun l' e=>by cases e; exact ⟨.inr (.inr (.inr rfl)),_,hl2⟩) C2 S2) ?_
 have fin:∀(e:AX) (a3:Act) (w3:World),PB P T J (fun q=>K q\/Nin q\/E q\/q=l) (cutF F F1) w2 (fun e st2 i2=>i2=I (j+1)/\(∃kp2 t2,keepS kp2 st2=some ⟨n,t2,h (j+1),o (j+1)⟩)/\e=if j+1<kk then .nm else cc) e a3 w3->
   ∃v w',(Instr.endRound l (jmp e)).run P w3= .ok v w'/\∃F',Ending.returned v= .returned (.bool (decide (j+1<kk)))/\Mv T Nin F w F' w'/\RJ P T J K Fs ws E l (recOf fn aR.tmps #[p] assign body D kk cc) (fun j=>⟨n,t0,h j,o j⟩) I aR (j+1) Nin F' w':=by
  rintro e a3 w3 ⟨i3,M3,N3,F03,w03,F3,ρ3,st3,C3,S3,rfl,⟨kp2,t2,hk2⟩,hec⟩;have hM3:∀q,(K q\/Nin q\/E q\/q=l)->¬M3 q:=fun q hq=>(C3.kn q hq).2;have hlt3:∀q,(K q\/Nin q\/E q\/q=l)->q<w03.heap.size:=fun q hq=>C3.nb q (C3.kn q hq).1;have hl3:w3.heap[l]? = some (.loop rb):=(S3.bel.block l (hlt3 l (.inr (.inr (.inr rfl)))) (hM3 l (.inr (.inr (.inr rfl))))).trans ((C3.mv.block l (.inr (.inr (.inr rfl)))).trans hl2)
  have hrec:({ rb with state:=if (jmp e).isNone then .ready else .done,pending:=jmp e } : Loop)=recOf fn aR.tmps #[p] assign body D kk cc (j+1):=by
   rw[<- hrb,hec];unfold recOf;by_cases hjj:j+1<kk
   ·simp[hjj,jmp]
   ·cases cc with
    | nm=>exact absurd rfl hcc
    | rt=>simp[hjj,jmp]
    | ex id=>simp[hjj,jmp]
  have hval:(jmp e).isNone=decide (j+1<kk):=by
   rw[hec];by_cases hjj:j+1<kk
   ·simp[hjj,jmp]
   ·cases cc with
    | nm=>exact absurd rfl hcc
    | rt=>simp[hjj,jmp]
    | ex id=>simp[hjj,jmp]
  have hrun:=run_endRound (P:=P) (jmp e) hl3;rw[hrec,hval] at hrun;refine ⟨_,_,hrun,F3,rfl,?_⟩;have hput3:Mv T (fun q=>q≠l) F3 w3 F3 (w3.putObj l (.loop (recOf fn aR.tmps #[p] assign body D kk cc (j+1)))):=Mv.put S3.sees (Sim.laid S3) hl3 rfl (fun _ _ h=>by cases h) rfl (fun h=>h rfl);have hl4:(w3.putObj l (.loop (recOf fn aR.tmps #[p] assign body D kk cc (j+1)))).heap[l]? = some (.loop (recOf fn aR.tmps #[p] assign body D kk cc (j+1))):=World.putObj_heap_same (heap_lt hl3);have hs4:(w3.putObj l (.loop (recOf fn aR.tmps #[p] assign body D kk cc (j+1)))).heap.size=w3.heap.size:=by simp
  obtain ⟨w4,hw4⟩:∃w4,w3.putObj l (.loop (recOf fn aR.tmps #[p] assign body D kk cc (j+1)))=w4:=⟨_,rfl⟩;rw[hw4] at hput3 hl4 hs4 ⊢
  have hnl:∀q,(K q\/Nin q\/E q)->q≠l:=fun q hq he=>by
   subst he;rcases hq with hq | hq | hq
   ·exact hKl hq
   ·exact (hK q (.inr (.inr rfl))).2.2 hq
   ·exact hEl hq
  have hup:∀q,(K q\/Nin q\/E q)->K q\/Nin q\/E q\/q=l:=fun q hq=>by
   rcases hq with hq | hq | hq
   ·exact .inl hq
   ·exact .inr (.inl hq)
   ·exact .inr (.inr (.inl hq))
  have hall:Mv T (fun q=>K q\/Nin q\/E q) F w F3 w4:=
   ((((Sim.mv S1' fun q hq=>(hKr q (hup q hq)).2).trans (hput.mono hnl).cut).trans (C3.mv.mono hup)).trans (Sim.mv S3 fun q hq=>hM3 q (hup q hq))).trans (hput3.mono hnl)
  refine ⟨hall.mono fun q hq=> .inr (.inl hq),⟨ρ3,mvM M3 (fun _=>False) w3 w4,nowN N3 w03 w3,?_,?_,?_,?_,?_,?_⟩,hl4,fun q hq=>(hall.block q (.inr (.inr hq))).trans (heo q hq),hmv.trans (hall.mono fun q hq=> .inl hq)⟩
  ·have S4:=keepS_sound hk2 S3
   have S5:=Sim.reframe (aR:=aR) S4 hn hd t0 (fun q tv e=>by
    obtain ⟨y,h1,h2⟩:=S0.tm q tv e;refine ⟨y,h1,?_⟩
    have hid:∀id,look id (h j)≠none->look id (h (j+1))≠none->ρ3 id=ρ id:=fun id e1 e2=>by
     obtain ⟨k1,hk1⟩:=Option.ne_none_iff_exists'.1 e1;obtain ⟨k3,hk3⟩:=Option.ne_none_iff_exists'.1 e2;have:=S0.nb id k1 _ hk1 (hnm j id k1 hk1);have:=S4.nb id k3 _ hk3 (hnm (j+1) id k3 hk3);omega
    have w1':=hwf j q tv e;have w2':=hwf (j+1) q tv e;cases tv with
    | v u=>exact Rep.mono hall.le h2
    | p id off=>show y=_; rw[hid id w1' w2']; exact h2
    | m id=>show y=_; rw[hid id w1' w2']; exact h2
    | s id off m size=>obtain ⟨cap,g1,g2,g3,g4⟩:=h2; exact ⟨cap,g1,g2,g3,by rw[hid id w1' w2']; exact g4⟩
    | u=>exact h2) (hwf (j+1)) (hoc (j+1))
   have S6:=Sim.move S5 (E:=fun _=>False) (fun _ _ _ h=>h) (fun _ h=>h.elim) aR.defers (.inr ⟨rfl,fun _ _ h=>h⟩) hput3 (fun q h1 _ _ he=>hM3 l (.inr (.inr (.inr rfl))) (he▸h1));exact Sim.rez S6 (hz (j+1))
  ·refine hJ.st (I (j+1)) _ F3 w3 _ F3 w4 (C3.now hJ.st S3) (hput3.mono fun q hq he=>hq.2 (by rw[he]; exact .inl (C3.kn l (.inr (.inr (.inr rfl)))).1)) (fun q hq=>⟨.inl hq,by have:=nowN_b C3 S3 q hq; omega⟩) fun q hq=>hq
  ·rintro q (⟨h1,h2,_⟩ | h1) hq
   ·exact ⟨nowN_m C3 q h1 h2,fun hn'=>hM3 q (.inr (.inl hn')) h1⟩
   ·omega
  ·intro q hq;have:=nowN_b C3 S3 q hq;omega
  ·intro q hq
   have hq':K q\/Nin q\/E q\/q=l:=by
    rcases hq with hq | hq | hq
    ·exact .inl hq
    ·exact .inr (.inr (.inl hq))
    ·exact .inr (.inr (.inr hq))
   refine ⟨.inl (C3.kn q hq').1,?_,(hK q hq).2.2⟩;rintro (⟨h1,_⟩ | h1)
   ·exact hM3 q hq' h1
   ·have:=hlt3 q hq'; have:=S3.bel.size; omega
  ·intro q hq;exact .inl (C3.kn q (.inr (.inl hq))).1
 intro e a3 w3 hq;cases e with
 | normal=>exact fin .nm a3 w3 hq
 | exit id=>exact fin (.ex id) a3 w3 hq
 | ret=>exact fin .rt a3 w3 hq
 | goto l=>exact (show False from hq).elim
 | panic c=>exact (show False from hq).elim
 | outgrown=>exact (show False from hq).elim
end Go.Ab
namespace Go.Ab
open Go.RowKit
variable {P : Program} {T : Lay} {lo k i : Nat} {xs : List V} {rd : Option Nat} {st : St} {Q : AX -> St -> Nat -> Prop}
def awOIc (P:Program) (T:Lay) (lo:Nat) (xs:List V) (k:Nat) (l rest:List Oper) (K:St->Nat->Prop) (i:Nat):St->Prop:=fun st=>awOI P T lo xs k l rest st i K
def YKc (lo:Nat) (xs:List V) (k:Nat) (st:St) (d:Option Tmp) (i l':Nat) (x:V) (K:Nat->St->Prop):Prop:=
 l'=lo/\xs[i]? = some x/\i<k/\putK st d (.v (.val (.bool (decide (i+1<k))))) (K (i+1))
def sqkI (P:Program) (T:Lay) (lo:Nat) (xs:List V) (k:Nat) (rd:Option Nat) (y:Code) (Q:AX->St->Nat->Prop):AX->St->Nat->Prop
 | .nm,st,i=>awI P T lo xs k rd y st i Q
 | e,st,i=>Q e st i
@[congr] theorem awOI_cg {l rest : List Oper} {st st' : St} {K : St -> Nat -> Prop} (h : st = st') : awOI P T lo xs k l rest st i K = awOI P T lo xs k l rest st' i K := by rw [h]
@[congr] theorem awI_cg {c : Code} {st st' : St} (h : st = st') : awI P T lo xs k rd c st i Q = awI P T lo xs k rd c st' i Q := by rw [h]
@[congr] theorem awOIc_cg {l rest : List Oper} {K : St -> Nat -> Prop} : awOIc P T lo xs k l rest K = awOIc P T lo xs k l rest K := rfl
@[congr] theorem sqkI_cg {y : Code} : sqkI P T lo xs k rd y Q = sqkI P T lo xs k rd y Q := rfl
@[congr] theorem sqI_cg {A : St -> Nat -> Prop} : sqI A Q = sqI A Q := rfl
@[congr] theorem blkI_cg {id : Nat} : blkI id Q = blkI id Q := rfl
end Go.Ab
namespace Go.Ab
open Go.RowKit
variable {P : Program} {T : Lay} {lo k i : Nat} {xs : List V} {rd : Option Nat} {st : St} {Q : AX -> St -> Nat -> Prop}
def endI (k:Nat) (xs:List V):AX->St->Nat->Prop:=fun e _ i=>(∀id,e≠ .ex id)/\i=min k xs.length
def fpI (P:Program) (rs:List ResultVar) (r:V):AX->St->Nat->Prop:=fun e st _=>fpost P rs r e st
def lpkI {α:Type} (kp:Kp) (R:α->Prop) (m:α->Nat) (Sf:α->St) (ix:α->Nat) (y:α):St->Nat->Prop:=fun st' i'=>∃z',R z'/\m z'<m y/\i'=ix z'/\keepS kp st'=some (Sf z')
structure Rng where
 t0:List (Nat×TV)
 h:Nat->List (Nat×Blk)
 o:Nat->List (TypeId×List Nat)
 I:Nat->Nat
def rdI (g:Rng) (n kk:Nat) (cc:AX) (j:Nat):AX->St->Nat->Prop:=fun e st2 i2=>i2=g.I (j+1)/\(∃kp2 t2,keepS kp2 st2=some ⟨n,t2,g.h (j+1),g.o (j+1)⟩)/\e=if j+1<kk then .nm else cc
def rbI (P:Program) (T:Lay) (lo:Nat) (xs:List V) (k lr:Nat) (body:Code) (g:Rng) (n kk:Nat) (cc:AX) (j:Nat):AX->St->Prop:=fun e st1=>e= .nm/\awI P T lo xs k (some lr) body st1 (g.I j) (rdI g n kk cc j)
@[congr] theorem rbI_cg {lr : Nat} {body : Code} {g : Rng} {n kk : Nat} {cc : AX} {j : Nat} {e : AX} : rbI P T lo xs k lr body g n kk cc j e st = rbI P T lo xs k lr body g n kk cc j e st := rfl
@[congr] theorem rdI_cg {g : Rng} {n kk : Nat} {cc : AX} {j : Nat} {e : AX} : rdI g n kk cc j e st i = rdI g n kk cc j e st i := rfl
@[congr] theorem lpkI_cg {α : Type} {kp : Kp} {R : α -> Prop} {m : α -> Nat} {Sf : α -> St} {ix : α -> Nat} {y : α} : lpkI kp R m Sf ix y st i = lpkI kp R m Sf ix y st i := rfl
@[congr] theorem YKc_cg {d : Option Tmp} {l' : Nat} {x : V} {K : Nat -> St -> Prop} : YKc lo xs k st d i l' x K = YKc lo xs k st d i l' x K := rfl
@[congr] theorem endI_cg {e : AX} : endI k xs e st i = endI k xs e st i := rfl
@[congr] theorem fpI_cg {rs : List ResultVar} {r : V} {e : AX} : fpI P rs r e st i = fpI P rs r e st i := rfl
end Go.Ab
namespace Go.Ab
open Go.RowKit
variable {P : Program} {T : Lay}
end Go.Ab
namespace Go.Ab
open Go.RowKit
variable {P : Program} {T : Lay}
abbrev fcSt (st:St) (k id j n size:Nat) (ds cs:List V) (nm:Option Nat) (kk:Option (TypeId×Nat×Nat)):St:=⟨st.n,st.t,seth id (.var (setAt cs j [.slice size (chunk 0 n size ds)]) nm kk) (frz1 k (seth k (.var ds) st.h)),st.o⟩
theorem cell_frz {M:Nat->Prop} {F0 F:Frz} {w0 w:World} {ρ:Nat->Nat} {st:St} {a:Act} (S:SimS P T M F0 w0 F ρ st a w) {k id j n cap size b:Nat} {ds cs:List V} {nm:Option Nat} {kk kk':Option (TypeId×Nat×Nat)}
  (h1:look k st.h=some (.var ds (some b) kk')) (h2:look id st.h=some (.var cs nm kk)) (hne:id≠k) (h3:cs[j]? = some (.val (.slice (some ⟨b,0,none⟩) n cap))) (h4:n<=cap) (h5:cap<=maxLen) (h6:n*size<=ds.length):
  ∃F',SimS P T M F0 w0 F' ρ (fcSt st k id j n size ds cs nm kk) a w:=by
 have hρ:=S.nb k _ b h1 rfl;have S0:=Sim.unname S h1;have hb0:look k (seth k (.var ds) st.h)=some (.var ds):=by rw[seth_get,if_pos rfl,h1]; rfl
 obtain ⟨F',S1⟩:=frz1_sound S0 k;have hcon:look k (frz1 k (seth k (.var ds) st.h))=some (.con ds):=by rw[frz1_look,if_pos rfl,hb0]; rfl
 have hid:look id (frz1 k (seth k (.var ds) st.h))=some (.var cs nm kk):=by rw[frz1_look,if_neg hne,seth_get,if_neg hne]; exact h2
 refine ⟨F',?_⟩;obtain ⟨⟨g,q1,q2,q3⟩,_⟩:=S1.hp k _ hcon;have hrep:=chunk_rep (b:=ρ k) (off:=0) (n:=n) (size:=size) (cap:=cap) q1 q2 q3 (by omega) h4 h5;rw[hρ] at hrep;obtain ⟨⟨xs,ty,p1,p2,p3,p4,p5⟩,hM,hlt⟩:=S1.hp id _ hid;have hlc:=(List.getElem?_eq_some_iff.1 h3).1;have hfit:j+[V.slice size (chunk 0 n size ds)].length<=cs.length:=by simp; omega
 have hlx:j<xs.size:=by omega
 have hx:=rep_val_inv (p4 _ _ _ h3 (Array.getElem?_eq_getElem hlx))
 exact Sim.know S1 hid (k:= .var (setAt cs j [.slice size (chunk 0 n size ds)]) nm kk) ⟨xs,ty,p1,by rw[setAt_length hfit]; exact p2,fun c hc=>by
  obtain ⟨i,hi⟩:=List.getElem?_of_mem hc;rw[setAt_get hfit] at hi;split at hi
  ·have:=List.mem_of_getElem? hi;simp at this; subst this; rfl
  ·exact p3 c (List.mem_of_getElem? hi),fun i c y e1 e2=>by
  rw[setAt_get hfit] at e1;split at e1
  ·rename_i hin;simp at hin;have hj0:i=j:=by omega
   subst hj0;simp at e1;subst e1;rw[Array.getElem?_eq_getElem hlx] at e2;cases e2;rw[hx];exact hrep
  ·exact p4 i c y e1 e2,p5⟩ rfl
theorem aw_cfrz {c:Code} {st:St} {Q:AX->St->Prop} (k id j n cap size b:Nat) (ds cs:List V) (nm:Option Nat) (kk kk':Option (TypeId×Nat×Nat))
  (h1:look k st.h=some (.var ds (some b) kk')) (h2:look id st.h=some (.var cs nm kk)) (hne:id≠k) (h3:cs[j]? = some (.val (.slice (some ⟨b,0,none⟩) n cap))) (h4:n<=cap) (h5:cap<=maxLen) (h6:n*size<=ds.length)
  (h:aw P T c (fcSt st k id j n size ds cs nm kk) Q):aw P T c st Q:=by
 unfold aw at h ⊢;intro rd M F0 w0 F ρ a w hR S;obtain ⟨F',S'⟩:=cell_frz S h1 h2 hne h3 h4 h5 h6;exact h rd M F0 w0 F' ρ a w hR S'
def NamedP (es:List (List V)) (ks:List (Nat×Blk)) (b:Blk) (v:V):Prop:=
 ∃r cap,es.length<=cap/\cap<=maxLen/\ks=[]/\b= .var es.flatten (some r)/\v= .val (.slice (some ⟨r,0,none⟩) es.length cap)
theorem DenN.named {f:FuncId} {args:List V} {size R:Nat} {es:List (List V)} (h:DenN P T f args size es) (hne:es≠[]):DenV P T f [] R none (args.map .v) (NamedP es):=by
 refine ⟨h.1,fun w F ρ X xs hs hl hL hr=> ?_⟩;have hr':Reps F args xs:=⟨by have:=hr.1; rw[List.length_map] at this; exact this,fun j v x e1 e2=>hr.2 j (.v v) x (by rw[List.getElem?_map,e1]; rfl) e2⟩;refine (h.2 w F xs hs hl hr').mono ?_;rintro en w' ⟨y,F',e1,e2,e3⟩;rcases e3 with ⟨e3,-⟩ | ⟨b,cap,hy,hc,hm,-,hlo,hhi,hB⟩
 ·exact absurd e3 hne
 have hB:RepB F' w' b (.var es.flatten):=hB;refine ⟨y,F',(fun i=>if i=R then b else ρ i),[],.var es.flatten (some b),.val (.slice (some ⟨b,0,none⟩) es.length cap),e1,?_,fun id hid=>if_neg hid,?_,?_,b,cap,hc,hm,rfl,rfl,rfl⟩
 ·exact ⟨e2.le,e2.fr,fun p v hp=>(e2.new p v hp).imp id .inr,fun b xs hb=>(e2.newm b xs hb).imp id .inr,e2.bel.os,e2.bel.tape,e2.bel.output,e2.bel.size,fun q hq _=>e2.bel.block q hq⟩
 ·have one:∀id k,look id [(R,Blk.var es.flatten (some b))]=some k->id=R/\k= .var es.flatten (some b):=fun id k e=>by
   rw[look_cons] at e;split at e
   ·rename_i he;cases e;exact ⟨he,rfl⟩
   ·cases e
  refine ⟨fun id k e=> ?_,fun id k q e hq=> ?_,fun id id' k k' e e' _=>(one id k e).1.trans (one id' k' e').1.symm,fun j e c hj=>by simp at hj,fun j j' e c e' c' _ hj=>by simp at hj,fun j e c hj=>by simp at hj,fun g hg=> ?_⟩
  ·obtain ⟨rfl,rfl⟩:=one id k e;rw[if_pos rfl];obtain ⟨ys,ty,h1,h2,h3,h4,h5⟩:=hB;exact ⟨⟨ys,⟨ty.1,ty.2.fz⟩,h1,h2,h3,h4,h5⟩,.inr hlo,hhi⟩
  ·obtain ⟨rfl,rfl⟩:=one id k e;cases hq;rw[if_pos rfl]
  ·rintro (hx | hx)
   ·exact hL.lay g hg hx
   ·obtain ⟨xs',hxs⟩:=Option.ne_none_iff_exists'.1 hg;obtain ⟨⟨ty,fz,h1⟩,-⟩:=hl.2 g xs' hxs;have:=heap_lt h1;omega
 ·rw[hy]; exact Rep.val _
end Go.Ab
namespace Go.Ab
open Go.RowKit
variable {P : Program} {T : Lay}
section rows
variable {α : Type} {cs : α -> List V} {z : Nat}
end rows
end Go.Ab
namespace Go.Ab
open Go.RowKit
variable {P : Program} {T : Lay}
def fpostU (P:Program) (rs:List ResultVar) (Post:Option Blk->V->Prop):AX->St->Prop
 | .ex _,_=>False
 | _,st=>∃r r',resS P st rs=some r'/\Wk r' r/\(Post none r\/∃id k b,look id st.h=some k/\k.nm=some b/\Post (some k) r)
theorem denU_of_body {f:FuncId} {fn:Func} {c:Code} {args:List V} {Post:Option Blk->V->Prop} (_hm:P.follows .mixedOrders=true) (hE:Enters P f) (hf:P.funcs[f]? = some fn) (hb:fn.body=some c) (n:Nat) (hn:n=max fn.ntmps args.length)
  (h:aw P T c { n:=n,t:=args0 0 args,h:=[],o:=[] } (fpostU P fn.results.toList Post)) (hnn:n<=999000:=by decide):DenU P T f args Post:=by
 refine ⟨hE,fun w F xs hF hT ha=> ?_⟩;refine calls_of_wpS hf hb (aw_sound c (sim0 hF hT ha n hn hnn) h) ?_ (fun id st hq=>hq);intro en F1 ρ1 st1 a w' S1 hd hq he
 have aux:(∃F' ρ st,SimS P T (fun g=>w.heap.size<=g) F w F' ρ st a w'/\∃r r',resS P st fn.results.toList=some r'/\Wk r' r/\(Post none r\/∃id k b,look id st.h=some k/\k.nm=some b/\Post (some k) r))->
   ∃v,(results fn a.tmps).run P w'= .ok v w'/\∃y F' r,Ending.returned v= .returned y/\Ext F w F' w'/\Rep F' r y/\(Post none r\/∃b k,w.heap.size<=b/\b<w'.heap.size/\RepB F' w' b k/\k.nm=some b/\Post (some k) r):=by
  rintro ⟨F',ρ,st,S,r,r',hr',hwk,hP⟩;obtain ⟨v,h1,h2⟩:=resS_sound S hr';refine ⟨v,h1,v,F',r,rfl,post_ext S,rep_wk hwk h2,?_⟩;rcases hP with hP | ⟨id,k,b,hk,hb,hP⟩
  ·exact .inl hP
  ·obtain ⟨r1,r2,r3⟩:=S.hp id k hk;rw[S.nb id k b hk hb] at r1 r2 r3;exact .inr ⟨b,k,r2,r3,r1,hb,hP⟩
 cases en with
 | nm=>exact aux ⟨F1,ρ1,st1,S1,hq⟩
 | rt=>exact aux ⟨F1,ρ1,st1,S1,hq⟩
 | ex id=>exact absurd rfl (he id)
end Go.Ab
namespace Go.Ab
open Go.RowKit
variable {P : Program} {T : Lay} {rd : Option Nat}
def plainO:Op->Bool
 | .load _ _=>true
 | .fieldAddr _ _ _=>true
 | .move _=>true
 | .assign _=>true
 | .field _ _ _=>true
 | .binOp _ _ _ _ _=>true
 | .nilCheck _=>true
 | _=>false
structure YF (P:Program) (σ:Sto) (h:List (Nat×Blk)) (o:Oper) (tv:TV):Prop where
 gd:o.guard=none
 pl:plainO o.op=true
 ev:evq P (opv σ) h o.op=some tv
theorem YF.one {σ:Sto} {h:List (Nat×Blk)} {o:Oper} {tu tv:TV} (a:YF P σ h o tu) (b:YF P σ h o tv):tu=tv:=by
 have:=a.ev;rw[b.ev] at this;exact (Option.some.injEq _ _▸this).symm
theorem YF.g {σ:Sto} {h:List (Nat×Blk)} {o:Oper} {tv:TV} (l:List Oper) (a:YF P σ h o tv):YieldsG P T l σ h o tv:= .inl ⟨by unfold gdV; rw[a.gd],.inl a.ev⟩
theorem YF.wf {σ:Sto} {h:List (Nat×Blk)} {o:Oper} {tv:TV} (a:YF P σ h o tv) (hw:WfS h σ):wfT h tv:=evq_wf hw.opr a.ev
theorem opvs_upd {ops:Array Oper} {σ:Sto} {o:Oper} {d:Option Tmp} {v:TV} (hd:∀d',d=some d'->d' ∉ o.looksAt ops):∀x∈o.op.operands,opv (upd σ d v) x=opv σ x:=fun x hx=>opv_upd fun d' e1 e2=>hd d' e1 (by
 subst e2
 exact List.mem_append_left _ (List.mem_filterMap.2 ⟨.tmp d',by simpa using hx,rfl⟩))
theorem YF.upd {ops:Array Oper} {σ:Sto} {h:List (Nat×Blk)} {o:Oper} {tv:TV} {d:Option Tmp} {v:TV} (hd:∀d',d=some d'->d' ∉ o.looksAt ops):YF P (upd σ d v) h o tv↔YF P σ h o tv:=by
 have:=evq_congr (P:=P) (h:=h) o.op (opvs_upd (σ:=σ) (v:=v) hd);constructor
 ·exact fun a=>⟨a.gd,a.pl,by rw[<- this]; exact a.ev⟩
 ·exact fun a=>⟨a.gd,a.pl,by rw[this]; exact a.ev⟩
structure EffN (P:Program) (T:Lay) (n:Nat) (op:Oper) (x:HL) (σ:Sto) (R:TV->HL->Prop):Prop where
 gd:op.guard=none
 step:∀(t:List (Nat×TV)) (K:St->Prop),(∀z∈op.op.operands,opv (fun i=>look i t) z=opv σ z)->(∀tv y,R tv y->∀st',st'.n=n->st'.σ=upd (fun i=>look i t) op.dst tv->st'.h=y.1->st'.o=y.2->K st')->stepO P T op ⟨n,t,x.1,x.2⟩ K
 gr:∀tv y,R tv y->∀id,look id x.1≠none->look id x.1=look id y.1
 lg:∀tv y,R tv y->Lg op.dst x.2 y.2
 wf:∀tv y,R tv y->wfT y.1 tv
 ne:∃tv y,R tv y
theorem EffN.congr {n:Nat} {op:Oper} {x:HL} {σ σ':Sto} {R:TV->HL->Prop} (h:EffN P T n op x σ R) (hh:∀z∈op.op.operands,opv σ z=opv σ' z):EffN P T n op x σ' R:=
 ⟨h.gd,fun t K ht hK=>h.step t K (fun z hz=>(ht z hz).trans (hh z hz).symm) hK,h.gr,h.lg,h.wf,h.ne⟩
variable {ops : Array Oper} {m n : Nat} {md : Region.Mode} {D : List Nat} {Q : HL -> Sto -> Prop}
def StN (P:Program) (T:Lay) (n:Nat) (D:List Nat) (o:Oper) (y:HL) (σ:Sto) (K:HL->Sto->Prop):Prop:=
 (effD D o=false/\∃tv,YF P σ y.1 o tv/\K y (upd σ o.dst tv))\/(effD D o=true/\∃R,EffN P T n o y σ R/\∀tv y',R tv y'->K y' (upd σ o.dst tv))
theorem StN.some {o:Oper} {y:HL} {σ:Sto} {K:HL->Sto->Prop} (h:StN P T n D o y σ K):∃y' tv,K y' (upd σ o.dst tv):=by
 rcases h with ⟨-,tv,-,hK⟩ | ⟨-,R,hR,hK⟩
 ·exact ⟨y,tv,hK⟩
 ·obtain ⟨tv,y',hr⟩:=hR.ne;exact ⟨y',tv,hK tv y' hr⟩
theorem StN.mono {o:Oper} {y:HL} {σ:Sto} {K K':HL->Sto->Prop} (hw:WfS y.1 σ) (h:StN P T n D o y σ K) (hk:∀y' σ',WfS y'.1 σ'->K y' σ'->K' y' σ'):StN P T n D o y σ K':=by
 rcases h with ⟨he,tv,hy,hK⟩ | ⟨he,R,hR,hK⟩
 ·exact .inl ⟨he,tv,hy,hk _ _ (hw.upd (hy.wf hw)) hK⟩
 ·exact .inr ⟨he,R,hR,fun tv y' hr=>hk _ _ ((hw.more fun id hid=>by rw[<- hR.gr tv y' hr id hid]; exact hid).upd (hR.wf tv y' hr)) (hK tv y' hr)⟩
variable {w : World} {M : Nat -> Prop} {F0 F : Frz} {w0 : World} {ρ : Nat -> Nat} {σ : Sto} {a : Act}
def stepF (P:Program) (o:Oper) (st:St) (K:St->Prop):Prop:=
 plainO o.op=true/\o.guard=none/\match evq P (opv st.σ) st.h o.op with
  | some tv=>K { st with t:=match o.dst with | none=>st.t | some d=>(d,tv)::st.t }
  | none=>False
def CallN (P:Program) (T:Lay) (g:FuncId) (vs:List V) (st:St) (d:Nat) (K:St->Prop):Prop:=
 (∃r,Den P T g vs r/\K { st with t:=(d,.v r)::st.t,o:=remo d st.o })\/(∃r e,DenO P T g vs e r/\K { st with t:=(d,.v r)::st.t,o:=(e,[d])::remo d st.o })\/
 ∃(q:Nat) (Post:Option Blk->V->Prop),DenU P T g vs Post/\q<st.n/\look q st.h=none/\(∀N,∃ro r,Post ro r/\∀b p,ro=some b->b.nm=some p->N<=p)/\
  (∀r,Post none r->K { st with t:=(d,.v r)::st.t,o:=remo d st.o })/\
  ∀b r,Post (some b) r->(∀id k p p',look id st.h=some k->k.nm=some p->b.nm=some p'->p≠p')->K { st with t:=(d,.v r)::st.t,h:=(q,b)::st.h,o:=remo d st.o }
def stepU (P:Program) (T:Lay) (op:Oper) (st:St) (K:St->Prop):Prop:=
 match op.op with
 | .call c=>match c.callee with
  | .value f=>match vOf (opv st.σ f),vsOf (opv st.σ) c.args.toList,op.dst with
   | some (.func g cap),some vs,some d=>op.guard=none/\d<st.n/\CallN P T g (vs++cap) st d K
   | _,_,_=>False
  | _=>False
 | _=>False
def awU (P:Program) (T:Lay) (D:List Nat):List Oper->St->(St->Prop)->Prop
 | [],st,K=>K st
 | o::rest,st,K=>if effD D o=true then stepU P T o st fun st'=>awU P T D rest st' K else stepF P o st fun st'=>awU P T D rest st' K
def awUk (P:Program) (T:Lay) (D:List Nat) (rest:List Oper) (K:St->Prop):St->Prop:=fun st'=>awU P T D rest st' K
@[congr] theorem awU_cg {D : List Nat} {l : List Oper} {st st' : St} {K : St -> Prop} (h : st = st') : awU P T D l st K = awU P T D l st' K := by rw [h]
@[congr] theorem awUk_cg {D : List Nat} {l : List Oper} {K : St -> Prop} : awUk P T D l K = awUk P T D l K := rfl
@[congr] theorem CallN_cg {g : FuncId} {vs : List V} {st : St} {d : Nat} {K : St -> Prop} : CallN P T g vs st d K = CallN P T g vs st d K := rfl
@[congr] theorem stepU_cg {op : Oper} {st st' : St} {K : St -> Prop} (h : st = st') : stepU P T op st K = stepU P T op st' K := by rw [h]
@[congr] theorem stepF_cg {op : Oper} {st st' : St} {K : St -> Prop} (h : st = st') : stepF P op st K = stepF P op st' K := by rw [h]
abbrev pnSt (st:St) (i k b off:Nat):St:=⟨st.n,(i,.v (.val (.pointer (some ⟨b,off,none⟩))))::st.t,nam k b st.h,remo i st.o⟩
theorem ptr_name {M:Nat->Prop} {F0 F:Frz} {w0 w:World} {ρ:Nat->Nat} {st:St} {a:Act} (S:SimS P T M F0 w0 F ρ st a w) {i k off:Nat} (h1:look i st.t=some (.p k off)):SimS P T M F0 w0 F ρ (pnSt st i k (ρ k) off) a w:=by
 have S1:=Sim.nam S k;obtain ⟨x,g1,g2⟩:=S.tm i _ h1;have g2:x= .pointer (some ⟨ρ k,off,none⟩):=g2;subst g2;have hT:RepT F ρ (TV.v (.val (.pointer (some ⟨ρ k,off,none⟩)))) (.pointer (some ⟨ρ k,off,none⟩)):=Rep.val _;have:=Sim.putr (d:=i) S1 hT trivial (by have:=(Array.getElem?_eq_some_iff.1 g1).1; rw[<- S.n]; exact this);rw[put_same g1] at this;unfold SimS;rw[σ_cons];exact this
def ptrP (Q:AX->St->Prop):AX->St->Prop
 | .rt,st=>∃t k off,look t st.t=some (.p k off)/\∀b,Q .rt (pnSt st t k b off)
 | e,st=>Q e st
theorem aw_ptr {c:Code} {st:St} {Q:AX->St->Prop} (h:aw P T c st (ptrP Q)):aw P T c st Q:=awL_post h fun M F0 w0 F ρ st' a w e S hq=>by
 cases e with
 | nm=>exact ⟨F,ρ,st',S,hq⟩
 | ex id=>exact ⟨F,ρ,st',S,hq⟩
 | rt=>
  obtain ⟨t,k,off,h1,hQ⟩:=hq;exact ⟨F,ρ,_,ptr_name S h1,hQ _⟩
theorem and_e1 {a b:Prop} : (a/\(b/\a))=(a/\b):=propext ⟨fun h=>⟨h.1,h.2.1⟩,fun h=>⟨h.1,h.2,h.1⟩⟩
theorem and_e2 {a b c:Prop} : (a/\(b/\(a/\c)))=(a/\(b/\c)):=propext ⟨fun h=>⟨h.1,h.2.1,h.2.2.2⟩,fun h=>⟨h.1,h.2.1,h.1,h.2.2⟩⟩
end Go.Ab
namespace Go.Ab
open Go.RowKit
variable {P : Program} {T : Lay}
def bz (n k:Nat):List Bool:=(List.range n).map k.testBit
end Go.Ab
namespace Go.Ab
open Go.RowKit
variable {P : Program} {T : Lay}
def okW (h:List (Nat×Blk)) (t:List (Nat×TV)):Bool:=t.all fun x=>match refT x.2 with
 | none=>true
 | some id=>(look id h).isSome
theorem okW_wf {h:List (Nat×Blk)} {t:List (Nat×TV)} (hw:okW h t=true) {i:Nat} {tv:TV} (e:look i t=some tv):wfT h tv:=by
 have:=List.all_eq_true.1 hw (i,tv) (look_mem e);cases tv with
 | v x=>trivial
 | u=>trivial
 | p id off=>simp only[refT] at this; show look id h≠none; intro e; rw[e] at this; cases this
 | m id=>simp only[refT] at this; show look id h≠none; intro e; rw[e] at this; cases this
 | s id off n z=>simp only[refT] at this; show look id h≠none; intro e; rw[e] at this; cases this
theorem DfOk.cut {M M':Nat->Prop} {w:World} : ∀ {ds:List Deferred},DfOk ds M w->(∀D,M D->w.heap[D]? = some (.deferred (some []))->M' D)->DfOk ds M' w
 | [],_,_=>trivial
 | _::_,⟨D,h1,h2,h3,h4,h5⟩,k=>⟨D,h1,k D h2 h3,h3,h4,h5.cut k⟩
theorem Own.cut {F:Frz} {w:World} {M M':Nat->Prop} {e:TypeId} {z:Nat} {y:Value} (h:Own F w M e z y) (k:∀g,y.ownBlock=some g->M g->M' g):Own F w M' e z y:=by
 obtain ⟨n,xs,h1,h2⟩:=h;exact ⟨n,xs,h1,fun g hg=>⟨k g hg (h2 g hg).1,(h2 g hg).2⟩⟩
theorem RepT.other {F:Frz} {ρ ρ':Nat->Nat} {h:List (Nat×Blk)} {tv:TV} {x:Value} (hr:RepT F ρ tv x) (hw:wfT h tv) (he:∀id,look id h≠none->ρ' id=ρ id):RepT F ρ' tv x:=by
 cases tv with
 | v x=>exact hr
 | u=>exact hr
 | p id off=>simp only[RepT] at hr ⊢; rw[he id hw]; exact hr
 | m id=>simp only[RepT] at hr ⊢; rw[he id hw]; exact hr
 | s id off n z=>simp only[RepT] at hr ⊢; rw[he id hw]; exact hr
section
variable {w0 w : World} {M : Nat -> Prop} {F0 F : Frz} {ρ : Nat -> Nat} {a : Act} {n : Nat} {t : List (Nat × TV)} {h1 hr : List (Nat × Blk)}
end
end Go.Ab
namespace Go.Ab
open Go.RowKit
variable {P : Program} {T : Lay}
def Sub (P:Program) (T:Lay) (S st:St):Prop:=∀(M:Nat->Prop) (F0:Frz) (w0:World) (F:Frz) (ρ:Nat->Nat) (a:Act) (w:World),SimS P T M F0 w0 F ρ st a w->SimS P T M F0 w0 F ρ S a w
theorem sub_of {st S:St} (hs ts:List Nat) (hn:S.n=st.n) (ht:keepT hs ts st.t=some S.t) (ho:S.o=[]) (hh:∀id k,look id S.h=some k->look id st.h=some k) (hw:okW S.h S.t=true):Sub P T S st:=fun M F0 w0 F ρ a w X=>by
 unfold SimS at X ⊢;rw[ho,hn]
 exact {
  n:=X.n,df:=X.df,sees:=X.sees,lay:=X.lay,le:=X.le,new:=X.new,newm:=X.newm,bel:=X.bel,hM:=X.hM,nn:=X.nn
  tm:=fun i tv e=>X.tm i tv (keepT_look ht i tv e).1
  wf:=fun i tv e=>okW_wf hw e
  hp:=fun id k e=>X.hp id k (hh id k e)
  z:=fun id k h e=>X.z id k h (hh id k e)
  nb:=fun id k b e hb=>X.nb id k b (hh id k e) hb
  inj:=fun id id' k k' e e'=>X.inj id id' k k' (hh id k e) (hh id' k' e')
  ow:=fun j e c hj=>by simp at hj
  od:=fun j j' e c e' c' _ hj=>by simp at hj
  oc:=fun j e c hj=>by simp at hj }
def Ids (h:List (Nat×Blk)) (l:List Nat):Prop:=∀id k,look id h=some k->id∈l/\∃cs nm kk,k= .var cs nm kk
theorem Ids.v {h:List (Nat×Blk)} {l:List Nat} (hi:Ids h l):∀id k,look id h=some k->∃cs nm kk,k= .var cs nm kk:=fun id k e=>(hi id k e).2
theorem Ids.i {h:List (Nat×Blk)} {l:List Nat} (hi:Ids h l):∀id,look id h≠none->id∈l:=fun id e=>by
 obtain ⟨k,hk⟩:=Option.ne_none_iff_exists'.1 e;exact (hi id k hk).1
def endX (P:Program) (T:Lay) {α:Type} (e0:AX) (φ:α->Prop) (S:α->St):AX->St->Prop:=fun e st=>e=e0/\∃x,φ x/\Sub P T (S x) st
theorem endX_in {α:Type} {e0:AX} {φ:α->Prop} {S:α->St} {st:St} (x:α) (hx:φ x) (hs:Sub P T (S x) st):endX P T e0 φ S e0 st:=⟨rfl,x,hx,hs⟩
theorem aw_end {α:Type} {c:Code} {st:St} {Q:AX->St->Prop} (e0:AX) (φ:α->Prop) (S:α->St) (h:∀E:AX->St->Prop,(∀x st,φ x->Sub P T (S x) st->E e0 st)->aw P T c st E) (hS:∀x,φ x->Q e0 (S x)):aw P T c st Q:=
 awL_post (h (endX P T e0 φ S) fun x _ hx hs=>endX_in x hx hs) fun _ _ _ F ρ _ _ _ _ X ⟨he,x,hx,hs⟩=>⟨F,ρ,S x,hs _ _ _ _ _ _ _ X,he▸hS x hx⟩
end Go.Ab
namespace Go.Ab
open Go.RowKit
variable {P : Program} {T : Lay}
def StopAt (_:Nat):Prop:=True
theorem aw_frzt {c:Code} {st:St} {Q:AX->St->Prop} (t:Nat) (h:aw P T c (frzt1 t st) Q):aw P T c st Q:=by
 unfold aw at h ⊢;intro rd M F0 w0 F ρ a w hR S;obtain ⟨F',S'⟩:=frzt1_sound S t;exact h rd M F0 w0 F' ρ a w hR S'
theorem stopAt (n:Nat):StopAt n:=trivial
theorem aw_regS {n id:Nat} {ops:Array Oper} {l:List Oper} {st:St} {Q:AX->St->Prop} (_hs:StopAt n) (_hn:Nat.beq id n=false) (hl:ops.toList=l) (h:awO P T l l st (Q .nm)):aw P T (.region id ops false) st Q:=aw_reg hl h
theorem runTo {p q r:Prop} {n:Nat} (hs:StopAt n) (hr:r) (h:q) (e:StopAt n->r->q->p:=by
  intro hs hr g
  repeat (first
   | with_reducible refine appO_k ?_
   | with_reducible refine appC_k ?_
   | refine runC ?_
   | refine aw_regS hs (by rfl) rfl ?_
   | refine runR ?_
   | refine runS hr ?_)
  exact g):p:=e hs hr h
end Go.Ab
