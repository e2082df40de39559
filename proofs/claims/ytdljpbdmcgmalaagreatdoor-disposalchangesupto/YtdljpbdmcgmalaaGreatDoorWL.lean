/- A part of this claim. -/
import Derived.Test.YtdljpbdmcgmalaaGreatDoorLb
import Derived.Test.YtdljpbdmcgmalaaGreatDoorShelf
import Derived.Lib.SplitLaws
import Derived.Lib.AppendIntMem
import Derived.Lib.AtoiErrMem
set_option maxRecDepth 100000
namespace Go.Arc
open Go.Ab Go.RowKit Go.Proofs Tryz
variable {T : Lay}
theorem jij {F:Frz} {w w':World} (hF:Sees F w) (hb:Below w.heap.size w w'):Ext F w F w':=
 ⟨Le.refl F,⟨fun p v e=>(hb.cell (jj1 (hF p v e))).trans (hF p v e),fun b xs e=>by obtain ⟨ck,h⟩:=hF.m b xs e; exact ⟨ck,(hb.block b (jf2 hF e)).trans h⟩⟩,fun _ _ e=> .inl e,fun _ _ e=> .inl e,hb⟩
theorem reps1 {F:Frz} {v:V} {xs:List Value} (h:Reps F [v] xs):∃x,xs=[x]/\Rep F v x:=by
 obtain ⟨h1,h2⟩:=h
 match xs,h1 with
 | [x],_=>exact ⟨x,rfl,h2 0 v x rfl rfl⟩
theorem reps2 {F:Frz} {v u:V} {xs:List Value} (h:Reps F [v,u] xs):∃x y,xs=[x,y]/\Rep F v x/\Rep F u y:=by
 obtain ⟨h1,h2⟩:=h
 match xs,h1 with
 | [x,y],_=>exact ⟨x,y,rfl,h2 0 v x rfl rfl,h2 1 u y rfl rfl⟩
theorem jl0 {F:Frz} {w:World} (hF:Sees F w) (hl:Laid T F w):Sees T.f w:=⟨fun _ _ e=>hF _ _ (hl.1 _ _ e),fun _ _ e=>hF.m _ _ (hl.1.m _ _ e)⟩
theorem laid_var {P:Program} {F:Frz} {w:World} {n:String} {g:Nat} {xs:Array Value} (hg:P.globalNamed n=some g) (h:T.r g=some xs) (hl:Laid T F w):w.var? P n=some xs:=by
 obtain ⟨⟨ty,fz,e⟩,-⟩:=hl.2 g xs h;simp[World.var?,hg,e]
theorem rep_t2 {F:Frz} {a b:V} {x y:Value} (h:Rep F a x) (h':Rep F b y):Rep F (.tup [a,b]) (.tuple #[x,y]):= .tup rfl fun j c z e1 e2=>by
 match j with
 | 0=>simp at e1 e2; subst e1 e2; exact h
 | 1=>simp at e1 e2; subst e1 e2; exact h'
 | j+2=>simp at e1
structure LibT (T:Lay):Prop where
 sp:T.r 0=some (Lib.asciiSpaceTab.map fun z=>Value.int .u8 z).toArray
 pow:T.r 1=some (Lib.pow10Tab.map fun z=>Value.int .u64 z).toArray
 utf:∀w:World,Sees T.f w->Lib.Utf8Tabs 6 7 w
 wht:∀w:World,Sees T.f w->Lib.WhiteTab 3 w
 max:∃m:Int,T.f ⟨2,0,none⟩=some (.int .i64 m)
 esy:∃t p,T.f ⟨8,0,none⟩=some (.iface t p)
 era:∃t p,T.f ⟨9,0,none⟩=some (.iface t p)
theorem lib_split (L:LibT T) (s:Str) (hs:s.length<=1048576):Den prog T 338 [.str s,.str [46]] (strs (split [] s)):=by
 refine ⟨fun args w=>call338 args w,fun w F xs hF hl hx=> ?_⟩;obtain ⟨x,y,rfl,h1,h2⟩:=reps2 hx;obtain rfl:=jbg h1;obtain rfl:=jbg h2;obtain ⟨m,hm⟩:=L.max;refine (Any.strings_Split Tryz.lays146 kr ⟨s.toArray⟩ ⟨#[46]⟩ m w (show s.toArray.size<_ by simp; omega) (jl0 hF hl _ _ hm) dc).mono ?_;rintro e w' ⟨rfl,rfl⟩;have hpl:=Lib.splitB_all ⟨#[46]⟩ dc 0 _ ⟨s.toArray⟩ rfl;have hpe:=splitB_eq s;have hcnt:=jmo s [];generalize Lib.splitB ⟨#[46]⟩ 0 (Lib.countB ⟨s.toArray⟩ ⟨#[46]⟩) ⟨s.toArray⟩=ps at hpl hpe;rw[<- hpl];have hlen:ps.length=(split [] s).length:=by rw[<- hpe,List.length_map]
 refine ⟨_,addBlk F w.heap.size ps.length (ps.map Value.string).toArray,rfl,ext_alloc hF _ _ _,?_⟩;have hel:ps.length=((split [] s).map Cst).length:=by rw[hlen,List.length_map]
 have key:∀(i:Nat) (e:List V),((split [] s).map Cst)[i]? = some e->∃p:ByteArray,ps[i]? = some p/\e=Cst p.data.toList:=by
  intro i e he;rw[<- hpe] at he;simp only[List.map_map,List.getElem?_map,msi] at he;obtain ⟨p,hp,rfl⟩:=he;exact ⟨p,hp,rfl⟩
 have hlt:∀(i:Nat) (p:ByteArray),ps[i]? = some p->i<ps.length:=fun i p h=>(gsi.1 h).1
 have:=Rep.slice (F:=addBlk F w.heap.size ps.length (ps.map Value.string).toArray) (size:=1) (es:=(split [] s).map Cst) (a:=⟨w.heap.size,0,none⟩) (cap:=ps.length)
  (fun i _=> .string (ps.getD i ByteArray.empty)) om (by unfold maxLen; omega) (by intro e he; obtain ⟨t,-,rfl⟩:=List.mem_map.1 he; rfl)
  (by intro e he c hc; obtain ⟨t,-,rfl⟩:=List.mem_map.1 he; simp at hc; subst hc; rfl)
  (by
   intro i j e c h1 h2;obtain ⟨p,hp,rfl⟩:=key i e h1
   have hj:j=0:=by
    rcases j with _ | j
    ·rfl
    ·simp at h2
   subst hj;have:=hlt i p hp;rw[jcf];unfold addBlk
   dsimp only
   rw[if_pos zei]
   simp[hp])
  (by
   intro i j e c h1 h2;obtain ⟨p,hp,rfl⟩:=key i e h1
   have hj:j=0:=by
    rcases j with _ | j
    ·rfl
    ·simp at h2
   subst hj;simp at h2;subst h2;have:ps.getD i ByteArray.empty=p:=by simp[hp]
   rw[this]
   exact .str p.data.toList)
 rwa [<- hel] at this
theorem lib_contains (L:LibT T) (s:Str) (hs:s.length<=1048576):Den prog T 159 [.str s,.str [32,32]] (vb (dbl s)):=by
 refine ⟨fun args w=>call159 args w,fun w F xs hF hl hx=> ?_⟩;obtain ⟨x,y,rfl,h1,h2⟩:=reps2 hx;obtain rfl:=jbg h1;obtain rfl:=jbg h2;obtain ⟨m,hm⟩:=L.max;refine (Any.strings_Contains Tryz.lays144 ⟨s.toArray⟩ ⟨#[32,32]⟩ m w (show s.toArray.size<_ by simp; omega) (jl0 hF hl _ _ hm)).mono ?_;rintro e w' ⟨rfl,rfl⟩;refine ⟨_,F,rfl,Ext.refl hF,?_⟩;have:=contains_dbl s;rw[<- this];exact .val _
theorem lib_trim (L:LibT T) (s:Str) (hs:s.length<=1048576):Den prog T 158 [.str s] (.str (Lib.trimSpaceD s)):=by
 refine ⟨fun args w=>call158 args w,fun w F xs hF hl hx=> ?_⟩;obtain ⟨x,rfl,h1⟩:=reps1 hx;obtain rfl:=jbg h1;have hw:=jl0 hF hl;refine (Any.strings_TrimSpace_any Tryz.lays163 Tryz.Space_Extra_163 ⟨s.toArray⟩ w (show s.toArray.size<=_ by simp; omega) (laid_var kr L.sp hl) (L.utf w hw) (L.wht w hw)).mono ?_;rintro e w' ⟨rfl,hb⟩;exact ⟨_,F,rfl,jij hF hb,.str _⟩
theorem jlc (L:LibT T) (n:Int) (h0: -9223372036854775808<=n) (h1:n<=9223372036854775807):Den prog T 30 [vi n] (.str (Lib.itoa n)):=by
 refine ⟨fun args w=>call30 args w,fun w F xs hF hl hx=> ?_⟩;obtain ⟨x,rfl,h2⟩:=reps1 hx;obtain rfl:=ja8 h2;refine (Any.strconv_Itoa Tryz.laysM171 n h0 h1 w (laid_var kr L.pow hl)).mono ?_;rintro e w' ⟨rfl,k,os,rfl⟩;exact ⟨_,F,rfl,jij hF (Lib.below_grow _ w (Nat.le_refl _) k os),.str _⟩
theorem lib_join (_L:LibT T) (l:List Str) (sep:Str) (hl:l.length<=1048576) (hb:(Lib.join l sep).length<=140737488355328):Den prog T 31 [strs l,.str sep] (.str (Lib.join l sep)):=by
 refine ⟨fun args w=>call31 args w,fun w F xs hF hlay hx=> ?_⟩;obtain ⟨x,y,rfl,h1,h2⟩:=reps2 hx;obtain rfl:=jbg h2;rcases jgl h1 with ⟨rfl,he⟩ | ⟨a,cap,g,rfl,hc,hm,hsz,ho,hg,hr⟩
 ·have:l=[]:=by simpa using he
  subst this;refine (Any.strings_Join_none Tryz.lays156 Tryz.Builder_Extra_156 none 0 ⟨sep.toArray⟩ w).mono ?_;rintro e w' ⟨rfl,rfl⟩;exact ⟨_,F,rfl,Ext.refl hF,.str _⟩
 ·rw[List.length_map] at hc ⊢;cases l with
  | nil=>
   refine (Any.strings_Join_none Tryz.lays156 Tryz.Builder_Extra_156 (some a) cap ⟨sep.toArray⟩ w).mono ?_;rintro e w' ⟨rfl,rfl⟩;exact ⟨_,F,rfl,Ext.refl hF,.str _⟩
  | cons s0 r=>
   have h00:=hF _ _ (hg 0 0 _ _ rfl rfl);obtain ⟨b,o,sp⟩:=a
   have hsp:sp=none:=by
    simp only[Addr.add,Nat.zero_mul,Nat.add_zero,if_true] at h00;unfold World.cell? at h00;split at h00
    ·cases sp with
     | none=>rfl
     | some _=>simp at h00
    ·cases h00
   subst hsp
   have hcell:∀(j:Nat) (z:ByteArray),(((s0::r).map fun s=>(⟨s.toArray⟩:ByteArray)))[j]? = some z->w.cell? ⟨b,o+j,none⟩=some (.string z):=by
    intro j z hz;simp only[List.getElem?_map,msi] at hz;obtain ⟨t,ht,rfl⟩:=hz;have he:((s0::r).map Cst)[j]? = some (Cst t):=by rw[List.getElem?_map,ht]; rfl
    have q1:=hF _ _ (hg j 0 _ _ he rfl);have q2:=jbg (hr j 0 _ _ he rfl);rw[q2,jcf,Nat.mul_one,Nat.add_zero] at q1;exact q1
   have hblk:b<w.heap.size:=jj1 (hcell 0 _ rfl);have hmap:((s0::r).map fun s=>(⟨s.toArray⟩:ByteArray)).map (·.data.toList)=s0::r:=by simp[List.map_map,Function.comp_def]
   have hlen:((s0::r).map fun s=>(⟨s.toArray⟩:ByteArray)).length=(s0::r).length:=List.length_map _;have:=Any.strings_Join Tryz.lays156 Tryz.Builder_Extra_156 b o cap ((s0::r).map fun s=>(⟨s.toArray⟩:ByteArray)) ⟨sep.toArray⟩ w hcell hblk (by rw[hlen]; omega) (by rw[hlen]; exact hc) (by rw[hmap]; exact hb);rw[hlen,hmap] at this;refine this.mono ?_;rintro e w' ⟨rfl,hbe⟩;exact ⟨_,F,rfl,jij hF hbe,.str _⟩
theorem lib_atoi (L:LibT T) (s:Str) (hs:s.length<=1048576):(∃n:Int,Den prog T 339 [.str s] (.tup [vi n,.val .nilIface])/\Lib.atoiAll s= .ok n)\/
  ((∀n,Lib.atoiAll s≠ .ok n)/\∃n:Int,Den prog T 339 [.str s] (.tup [vi n,.ifc])):=by
 have hE:Ab.Enters prog 339:=fun args w=>call339 args w;cases hz:Lib.atoiAll s with
 | ok n=>
  refine .inl ⟨n,⟨hE,fun w F xs hF hl hx=> ?_⟩,rfl⟩;obtain ⟨x,rfl,h1⟩:=reps1 hx;obtain rfl:=jbg h1;refine (Any.strconv_Atoi_ok Tryz.laysC172 ⟨s.toArray⟩ (show s.toArray.size<=_ by simp; omega) n hz w).mono ?_;rintro e w' ⟨rfl,hw⟩;refine ⟨_,F,rfl,jij hF ?_,rep_t2 (.val _) (.val _)⟩;rcases hw with rfl | ⟨t,rfl⟩
  ·exact Below.refl _ _
  ·exact Lib.bytesWorld_below _ _ _
 | range=>
  obtain ⟨t,p,hv⟩:=L.era;refine .inr ⟨(fun n h=>by cases h),Lib.atoiSat s,⟨hE,fun w F xs hF hl hx=> ?_⟩⟩;obtain ⟨x,rfl,h1⟩:=reps1 hx;obtain rfl:=jbg h1;refine (Any.strconv_Atoi_range Tryz.laysC172 ⟨s.toArray⟩ (show s.toArray.size<=_ by simp; omega) hz _ w (jl0 hF hl _ _ hv) (.inr ⟨t,p,rfl⟩)).mono ?_;rintro e w' ⟨N,rfl,-,-,hb⟩;exact ⟨_,F,rfl,jij hF hb,rep_t2 (.val _) (.ifc _ _)⟩
 | _=>
  obtain ⟨t,p,hv⟩:=L.esy;refine .inr ⟨(fun n h=>by cases h),0,⟨hE,fun w F xs hF hl hx=> ?_⟩⟩;obtain ⟨x,rfl,h1⟩:=reps1 hx;obtain rfl:=jbg h1;refine (Any.strconv_Atoi_syntax Tryz.laysC172 ⟨s.toArray⟩ (show s.toArray.size<=_ by simp; omega) hz _ w (jl0 hF hl _ _ hv) (.inr ⟨t,p,rfl⟩)).mono ?_;rintro e w' ⟨N,rfl,-,-,hb⟩;exact ⟨_,F,rfl,jij hF hb,rep_t2 (.val _) (.ifc _ _)⟩
theorem libC (L:LibT T):LibC T where
 split:=lib_split L
 atoi:=fun s hs=>by
  rcases lib_atoi L s hs with ⟨n,h,e⟩ | ⟨hn,n,h⟩
  ·exact .inl ⟨n,h,fun m hm=>by have:=atoi_part hm; rw[e] at this; cases this; rfl⟩
  ·refine .inr ⟨?_,n,h⟩;cases hp:part s with
   | none=>rfl
   | some m=>exact absurd (atoi_part hp) (hn _)
 itoa:=fun n hn=>by
  have:=jlc L n om om
  rwa [itoa_dec hn] at this
 join:=fun l h6 hn=>by
  have hb:=jki l;have:=lib_join L (l.map dec) [46] zei (by rw[join_fmt]; omega)
  rwa [join_fmt] at this
 trim:=fun s hs=>⟨_,lib_trim L s hs,trim_same⟩
 contains:=lib_contains L
end Go.Arc
