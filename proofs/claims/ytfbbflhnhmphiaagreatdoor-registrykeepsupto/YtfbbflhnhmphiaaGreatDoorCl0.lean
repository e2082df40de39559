/-
 From the rows' words to the calculus and back:what lies,what arguments read as,what is left.
-/
import Derived.Test.YtfbbflhnhmphiaaGreatDoorCards
import Derived.Test.YtfbbflhnhmphiaaGreatDoorOwn
import Derived.Test.YtfbbflhnhmphiaaGreatDoorOp1
import Derived.Test.YtfbbflhnhmphiaaGreatDoorBaN
import Derived.Deep.DeepHandedRow
import Derived.Deep.DeepWitnessRowRef
import Derived.Lib.LaidU8
import Derived.Shelf.LaysM
import Derived.Carry
import Derived.Lay
set_option maxRecDepth 100000
namespace Go.Arc
open Go.Ab Go.RowKit Go.Proofs Go.ChangeShapes Go.WideShapes Go.ChangeAt Tryz
open Go.Proofs.YtfbbflhnhmphiaaGreatDoor.Rows (uptoBulk uptoBulkAll)
theorem qwa:laidOutB prog=true:=krq
theorem jjd:ownKnob prog.godebug=none:=krq
def jd0(W:World):Lay:=⟨fw W,fun g=>match W.heap[g]? with
 |some (.cells xs _ _)=>if 0<xs.size then some xs else none
 |_=>none⟩
theorem qji(W:World):Laid (jd0 W) (fw W) W:=by
 refine⟨Le.refl _,fun g xs e=>?_⟩;simp only[jd0] at e;split at e
 .rename_i ys ty fz hh;split at e
  .cases e;refine⟨⟨ty,fz,hh⟩,0,xs[0],?_⟩;simp[World.cell?,hh]
  cases e
 cases e
theorem jwq{W:World}{n:String}{g:Nat}{xs:Array Value}(hg:prog.globalNamed n=some g)(h:W.var? prog n=some xs)(h0:0<xs.size):(jd0 W).r g=some xs:=by
 unfold World.var? at h;rw[hg] at h;simp only[Option.bind_some] at h;simp only[jd0];split at h
 .rename_i ys ty fz hh;cases h;rw[hh];simp only;rw[ve h0]
 cases h
theorem qao{W:World}{n:String}{k:IntKind}{zs:List Int}{g:Nat}{t e:TypeId}{m:Nat}(hg:prog.globalNamed n=some g)(hty:(prog.globals[g]?).map (·.type)=some t) 
  (ht:prog.underlying t=some (.array m e)) (he:prog.underlying e=some (.int k)) (hce:prog.cellsOf e=1) (hct:prog.cellsOf t=m) (h:Lib.VarReads prog W n (Lib.tabData k zs)):
  W.var? prog n=some (zs.map fun z=>Value.int k z).toArray:=by
 obtain⟨g',t',cs,fuel,p,hg',ht',hvar,hd⟩:=h;obtain rfl:=xt (hg.symm.trans hg');obtain rfl:=xt (hty.symm.trans ht');rw[hvar,<- Lib.cells_of_tab ht he hce hct hd]
theorem qbw{W:World}{n:String}{g:Nat}{t:TypeId}{ms:Array (String×TypeId)}{d:DataW Unit}{nm:String}(hg:prog.globalNamed n=some g)(hty:(prog.globals[g]?).map (·.type)=some t) 
  (ht:prog.underlying t=some (.interface ms)) (h:Lib.VarReads prog W n (.iface nm d)):∃u v,W.cell? ⟨g,0,none⟩=some (.iface u v):=by
 obtain⟨g',t',cs,fuel,p,hg',ht',hvar,hd⟩:=h;obtain rfl:=xt (hg.symm.trans hg');obtain rfl:=xt (hty.symm.trans ht');cases fuel with
 |zero=>simp[DataW.trod] at hd
 |succ n=>
  unfold DataW.trod at hd;rw[ht] at hd;have hcell:=World.var?_cell hg hvar 0;split at hd<;>simp_all
  rename_i u v _ h1;exact⟨u,v,by rw[<- xcm,h1];rfl⟩
theorem goesBy_none{P:Program}{c:OpenClaim}(hs:c.start=.entering)(h:P.funcs.any Func.goes=false):false=c.goesBy P:=by
 have hn:∀(g:FuncId) (fn:Func),P.funcs[g]?=some fn->fn.goes=false:=fun g fn e=>by
  rw[Array.any_eq_false] at h;obtain⟨hlt,rfl⟩:=asi.1 e;exact xbg.2 (h g hlt)
 have hg:∀f:FuncId,P.goes f=false:=fun f=>by
  unfold Program.goes;rw[h,yz,xb3,yf];intro g _ e;cases hf:P.funcs[g]? with
  |none=>rw[hf] at e;cases e
  |some fn=>rw[hf] at e;rw[show Option.any Func.goes (some fn)=fn.goes from rfl,hn g fn hf] at e;cases e
 unfold OpenClaim.goesBy Program.goesAt Program.goesFrom;rw[hs,xb3];cases P.funcNamed c.func with
 |none=>rfl
 |some f=>exact(hg f).symm
theorem noneGoes:prog.funcs.any Func.goes=false:=krq
theorem jhe{W:World}(hL:laidMet prog YtfbbflhnhmphiaaGreatDoor.Rows.registryKeepsRow.laid W)(hsh:W.ShapedOpen prog):LibT (jd0 W):=by
 obtain ⟨m,hm⟩:=Tryz.laysM144.s1_3 W hsh;have h1 : Lib.VarReads Tryz.prog W "internal/strconv.uint64pow10" YtfbbflhnhmphiaaGreatDoor.Rows.laid_internal_strconv_uint64pow10 := Lib.laidMet.reads hL (by repeat (first | exact .head _ | refine .tail _ ?_))
 rw[show YtfbbflhnhmphiaaGreatDoor.Rows.laid_internal_strconv_uint64pow10=(Lib.tabData .u64 Lib.pow10Tab:DataW Unit) by kernel_rfl] at h1;have h2 : Lib.VarReads Tryz.prog W "strings.asciiSpace" YtfbbflhnhmphiaaGreatDoor.Rows.laid_strings_asciiSpace := Lib.laidMet.reads hL (by repeat (first | exact .head _ | refine .tail _ ?_))
 rw[show YtfbbflhnhmphiaaGreatDoor.Rows.laid_strings_asciiSpace=(Lib.tabData .u8 Lib.asciiSpaceTab:DataW Unit) by kernel_rfl] at h2;have h3 : Lib.VarReads Tryz.prog W "unicode/utf8.first" YtfbbflhnhmphiaaGreatDoor.Rows.laid_unicode_utf8_first := Lib.laidMet.reads hL (by repeat (first | exact .head _ | refine .tail _ ?_))
 rw[show YtfbbflhnhmphiaaGreatDoor.Rows.laid_unicode_utf8_first=(Lib.firstData:DataW Unit) by kernel_rfl] at h3;have h4 : Lib.VarReads Tryz.prog W "unicode/utf8.acceptRanges" YtfbbflhnhmphiaaGreatDoor.Rows.laid_unicode_utf8_acceptRanges := Lib.laidMet.reads hL (by repeat (first | exact .head _ | refine .tail _ ?_))
 rw[show YtfbbflhnhmphiaaGreatDoor.Rows.laid_unicode_utf8_acceptRanges=(Lib.acceptData:DataW Unit) by kernel_rfl] at h4;have h5 : Lib.VarReads Tryz.prog W "unicode.White_Space" YtfbbflhnhmphiaaGreatDoor.Rows.laid_unicode_White_Space := Lib.laidMet.reads hL (by repeat (first | exact .head _ | refine .tail _ ?_))
 rw[show YtfbbflhnhmphiaaGreatDoor.Rows.laid_unicode_White_Space=(Lib.whiteData:DataW Unit) by kernel_rfl] at h5;have h6 : Lib.VarReads Tryz.prog W "strconv.ErrRange" YtfbbflhnhmphiaaGreatDoor.Rows.laid_strconv_ErrRange := Lib.laidMet.reads hL (by repeat (first | exact .head _ | refine .tail _ ?_))
 have h7 : Lib.VarReads Tryz.prog W "strconv.ErrSyntax" YtfbbflhnhmphiaaGreatDoor.Rows.laid_strconv_ErrSyntax := Lib.laidMet.reads hL (by repeat (first | exact .head _ | refine .tail _ ?_))
 have hU:=utf8Tabs_of_reads Tryz.lays260 ⟨krq,krq,krq,krq,krq,krq,krq⟩ h3 h4;have hW:=whiteTab_of_reads Tryz.lays199 ⟨krq,krq,krq,krq,krq,krq,krq,krq⟩ h5;refine⟨?_,?_,fun w hw=>?_,fun w hw=>?_,⟨m,hm⟩,?_,?_⟩
 .exact jwq (g:=0) krq (qao (g:=0) (t:=308) (e:=5) (m:=256) krq krq krq krq krq krq h2) (xj krq)
 .exact jwq (g:=7) krq (qao (g:=7) (t:=442) (e:=390) (m:=20) krq krq krq krq krq krq h1) (xj krq)
 .exact⟨fun c hc=>hw _ _ (hU.1 c hc),fun i hi=>⟨hw _ _ (hU.2 i hi).1,hw _ _ (hU.2 i hi).2⟩⟩
 .obtain⟨T,oT,R,oR,a1,a2,a3,a4,a5⟩:=hW;exact⟨T,oT,R,oR,hw _ _ a1,hw _ _ a2,hw _ _ a3,hw _ _ a4,fun i hi=>hw _ _ (a5 i hi)⟩
 .exact qbw (t:=265) krq krq Tryz.underlying265 h7
 .exact qbw (t:=265) krq krq Tryz.underlying265 h6
variable {H : Type}{enc : TypeId × Value -> H}{W : World}
theorem je2{P:Program}{m:Nat}{t:TypeId}{k:IntKind}{vs:List V}(ht:P.underlying t=some (.int k))(h:fa P m t vs):∃i,vs=[.val (.int k i)]/\(Lit.int k i).wf=true:=by
 cases m with
 |zero=>exact h.elim
 |succ m=>simpa only[fa,ht] using h
theorem qm2{P:Program}{m:Nat}{t:TypeId}{vs:List V}(ht:P.underlying t=some .string)(h:fa P m t vs):∃s:Str,vs=[.str s]/\s.length<=1048576:=by
 cases m with
 |zero=>exact h.elim
 |succ m=>simpa only[fa,ht] using h
theorem jju{P:Program}{m:Nat}{t e:TypeId}{vs:List V}(ht:P.underlying t=some (.slice e))(h:fa P m t vs):∃(es:List (List V)) (m':Nat),vs=[.slice (P.cellsOf e) es]/\es.length<=1048576/\∀x∈es,fa P m' e x:=by
 cases m with
 |zero=>exact h.elim
 |succ m=>
  simp only[fa,ht] at h;obtain⟨es,h1,h2,h3⟩:=h;exact⟨es,m,h1,h2,h3⟩
theorem qg9{P:Program}{m:Nat}{t:TypeId}{fs:Array Field}{vs:List V}(ht:P.underlying t=some (.struct fs))(h:fa P m t vs):∃m',jis (fa P m') (fs.toList.map (·.type)) vs:=by
 cases m with
 |zero=>exact h.elim
 |succ m=>simp only[fa,ht] at h;exact⟨m,h⟩
theorem jj2{α:Type}{f:α->List V}{Q:List V->Prop}{R:α->Prop}(h:∀x,Q x->∃a,x=f a/\R a):∀es:List (List V),(∀x∈es,Q x)->∃l:List α,es=l.map f/\∀a∈l,R a
 |[],_=>⟨[],rfl,smq⟩
 |x::r,hq=>by
  obtain⟨a,rfl,ha⟩:=h x (hq x smq);obtain⟨l,rfl,hl⟩:=jj2 h r fun y hy=>hq y zfd;exact⟨a::l,rfl,by simpa using⟨ha,hl⟩⟩
theorem qvv:okT prog 8 3=true:=krq
theorem jqu{b:Nat}{v:Value}{d:DataW H}{p:List MemPlace}(hv:Value.okWide prog W .any b 3 v)(h:DataW.Trod enc prog W 0 (fun _=>true) true 3 v d p)(hb:uptoBulk d<=1048576):
  ∃n:Int,Rep (fw W) (vi n) v/\(Lit.int .i64 n).wf=true:=by
 obtain⟨n,rfl,-⟩:=open_int Tryz.underlying3 hv h;obtain⟨fuel,h⟩:=h;obtain⟨vs,h1,h2⟩:=jgo 8 fuel _ _ (d,p) h qvv hb;obtain⟨i,rfl,hi⟩:=je2 Tryz.underlying3 h1;exact⟨i,h2.rep 0 _ _ rfl rfl,hi⟩
theorem jsr{W':World}(hb:Below W.heap.size W W'):∀ {ts:List TypeId} {vs:List Value} {ds:List (DataW H)} {p:List MemPlace},DataW.TrodAll enc prog W 0 (fun _=>true) true ts vs ds p->(∀x∈p,x.block<W.heap.size)->
  (∀t∈ts,prog.readableRec t=true/\t<prog.types.size)->DataW.TrodAll enc prog W' 0 (fun b=>decide (b<W.heap.size)) true ts vs ds p
 |[],vs,ds,p,h,_,_=>by
  obtain⟨rfl,rfl,rfl⟩:=trodAll_nil h;exact trodAll_mk0
 |t::ts,vs,ds,p,h,hlt,ht=>by
  obtain⟨v,vs1,d,ds1,a,b,rfl,rfl,rfl,h1,h2⟩:=trodAll_cons h;exact⟨a,b,Below.trod qwa (ht t smq).1 (ht t smq).2 h1 hb (fun x hx=>hlt x (by simp[hx])),jsr hb h2 (fun x hx=>hlt x (by simp[hx])) (fun u hu=>ht u (by simp[hu])),rfl⟩
theorem jhb{f:Func}{s:ChangeSpec}{W':World}{args:Array Value}{ds gs:List (DataW H)}{before:List MemPlace}(hW:DataW.Whole enc prog f.params.toList s.vars false W args.toList ds gs before)(hv:s.vars=[]) 
    (hs:s.fn H ds= { results:=[.lit (.bool true)],args:=ds }) (hr:f.resultTypes= #[4]) (ht:∀t∈f.params.toList,prog.readableRec t=true/\t<prog.types.size) (hb:Below W.heap.size W W'):
    s.post enc prog f false true false false W args (.bool true) W':=by
  have hlt:∀p∈before,p.block<W.heap.size:=fun p hp=>hW.lt p hp;have hW':=hW;obtain⟨p,q,hA,hV,rfl,-,-⟩:=hW;rw[hv] at hV;obtain⟨rfl,rfl⟩:=trodVars_none hV;simp only[xd] at hlt;have e:s.fn H (ds++[])= { results:=[.lit (.bool true)],args:=ds } := by rw[xd];exact hs
  refine⟨ds,[],p++[],[],p,[],hW',?_,?_,?_,World.keptBut_mono (fun x hx=>⟨hx,?_⟩) (hb.frame (· ∈ p++[])),fun h=>by cases h⟩
  . rw[e,hr];exact trodAll_cons_mk (shut_bool Tryz.underlying4 _) trodAll_mk0
  . rw[e];exact jsr hb hA hlt ht
  . rw[e,hv];rfl
  simpa using hx
theorem jhf{f:FuncId}{args:Array Value}{vs:List V}(hd:Den prog (jd0 W) f vs (vb true))(hr:Reps (fw W) vs args.toList):Calls prog f args W fun e W'=>e=.returned (.bool true)/\Below W.heap.size W W':=by
 have:=hd.2 W (fw W) args.toList ⟨fun _ _ h=>h,fun _ _ h=>by cases h⟩ (qji W) hr;refine this.mono ?_;rintro e W' ⟨y,F',rfl,hx,hy⟩;rw[al hy];exact⟨rfl,hx.bel⟩
theorem jab{F:Frz}{v:V}{vs:List V}{x:Value}{xs:List Value}(h:Rep F v x)(k:Reps F vs xs):Reps F (v::vs) (x::xs):=by
 refine⟨by simp[k.1],fun j u y e1 e2=>?_⟩;cases j with
 |zero=>simp at e1 e2;subst e1 e2;exact h
 |succ j=>exact k.2 j u y (by simpa using e1) (by simpa using e2)
theorem jhw{F:Frz}: Reps F [] []:=⟨rfl,smq⟩
theorem jif(os:Os)(args:Array Value):((World.laidAll prog os YtfbbflhnhmphiaaGreatDoor.Rows.registryKeepsRow.laid).forCall (fun _ _=>0) ⟨#[],args,[]⟩).Shaped prog:=
 World.shaped_of_ZipB krq krq
theorem qrs(os:Os)(args:Array Value):laidMet prog YtfbbflhnhmphiaaGreatDoor.Rows.registryKeepsRow.laid ((World.laidAll prog os YtfbbflhnhmphiaaGreatDoor.Rows.registryKeepsRow.laid).forCall (fun _ _=>0) ⟨#[],args,[]⟩).memory:=
 laidMet_laidAll args krq krq
theorem jhg(os:Os)(args:Array Value):laidMetH prog YtfbbflhnhmphiaaGreatDoor.Rows.registryKeepsRow.laid ((World.laidAll prog os YtfbbflhnhmphiaaGreatDoor.Rows.registryKeepsRow.laid).forCall (fun _ _=>0) ⟨#[],args,[]⟩).memory:=qrs os args
theorem jin{W:World}(h:laidMetH prog YtfbbflhnhmphiaaGreatDoor.Rows.registryKeepsRow.laid W):laidMet prog YtfbbflhnhmphiaaGreatDoor.Rows.registryKeepsRow.laid W:=h
theorem jge{C:Checked}{os:Os}{f:FuncId}{fn:Func}{s:OpenSpec}{conds:List PathCond}{apart:Bool}{laid:List (String×DataW Unit)}(w0:World)(args:Array Value)(hos:w0.os=os) 
  (hs:(w0.forCall (fun _ _=>0) ⟨#[],args,[]⟩).Shaped C.prog) (hok:Input.okWideB C.prog (w0.forCall (fun _ _=>0) ⟨#[],args,[]⟩) f ⟨#[],args,[]⟩=true)
  (hrow:s.preRow enc C.prog fn conds apart laid (w0.forCall (fun _ _=>0) ⟨#[],args,[]⟩).memory args):
  ∃(w:World) (tape:Tape) (i:Input),w.os=os/\(w.forCall tape i).Shaped C.prog/\i.vars=[]/\Input.okWide C.prog (w.forCall tape i) .any w.heap.size f i/\
   s.preRow enc C.prog fn conds apart laid (w.forCall tape i).memory i.args/\({} : Assume).holds C.prog (lone (Frame.enter C.prog f i.args .normal) [] (w.forCall tape i)):=
 ⟨w0,fun _ _=>0,⟨#[],args,[]⟩,hos,hs,(Input.okWide_of_okWideB (base:=0) hok).1,(Input.okWide_of_okWideB hok).2,hrow,by
  simp only[Assume.holds]
  exact⟨smq,smq,smq,smq,smq⟩⟩
end Go.Arc
