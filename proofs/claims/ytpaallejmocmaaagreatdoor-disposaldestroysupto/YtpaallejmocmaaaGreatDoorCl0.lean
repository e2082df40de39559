/-
 From the rows' words to the calculus and back:what lies,what arguments read as,what is left.
-/
import Derived.Test.YtpaallejmocmaaaGreatDoorCards
import Derived.Test.YtpaallejmocmaaaGreatDoorOwn
import Derived.Test.YtpaallejmocmaaaGreatDoorOp1
import Derived.Test.YtpaallejmocmaaaGreatDoorBaN
import Derived.Deep.DeepHandedRow
import Derived.Deep.DeepWitnessRowRef
import Derived.Lib.LaidU8
import Derived.Shelf.LaysM
import Derived.Carry
import Derived.Lay
set_option maxRecDepth 100000
namespace Go.Arc
open Go.Ab Go.RowKit Go.Proofs Go.ChangeShapes Go.WideShapes Go.ChangeAt Tryz
open Go.Proofs.YtpaallejmocmaaaGreatDoor.Rows (uptoBulk uptoBulkAll)
theorem qs4:laidOutB prog=true:=krq
theorem ownKn:ownKnob prog.godebug=none:=krq
def jcp(W:World):Lay:=⟨fw W,fun g=>match W.heap[g]? with
 |some (.cells xs _ _)=>if 0<xs.size then some xs else none
 |_=>none⟩
theorem qi1(W:World):Laid (jcp W) (fw W) W:=by
 refine⟨Le.refl _,fun g xs e=>?_⟩;simp only[jcp] at e;split at e
 .rename_i ys ty fz hh;split at e
  .cases e;refine⟨⟨ty,fz,hh⟩,0,xs[0],?_⟩;simp[World.cell?,hh]
  cases e
 cases e
theorem jvx{W:World}{n:String}{g:Nat}{xs:Array Value}(hg:prog.globalNamed n=some g)(h:W.var? prog n=some xs)(h0:0<xs.size):(jcp W).r g=some xs:=by
 unfold World.var? at h;rw[hg] at h;simp only[Option.bind_some] at h;simp only[jcp];split at h
 .rename_i ys ty fz hh;cases h;rw[hh];simp only;rw[um h0]
 cases h
theorem jzt{W:World}{n:String}{k:IntKind}{zs:List Int}{g:Nat}{t e:TypeId}{m:Nat}(hg:prog.globalNamed n=some g)(hty:(prog.globals[g]?).map (·.type)=some t) 
  (ht:prog.underlying t=some (.array m e)) (he:prog.underlying e=some (.int k)) (hce:prog.cellsOf e=1) (hct:prog.cellsOf t=m) (h:Lib.VarReads prog W n (Lib.tabData k zs)):
  W.var? prog n=some (zs.map fun z=>Value.int k z).toArray:=by
 obtain⟨g',t',cs,fuel,p,hg',ht',hvar,hd⟩:=h;obtain rfl:=xf (hg.symm.trans hg');obtain rfl:=xf (hty.symm.trans ht');rw[hvar,<- Lib.cells_of_tab ht he hce hct hd]
theorem qb8{W:World}{n:String}{g:Nat}{t:TypeId}{ms:Array (String×TypeId)}{d:DataW Unit}{nm:String}(hg:prog.globalNamed n=some g)(hty:(prog.globals[g]?).map (·.type)=some t) 
  (ht:prog.underlying t=some (.interface ms)) (h:Lib.VarReads prog W n (.iface nm d)):∃u v,W.cell? ⟨g,0,none⟩=some (.iface u v):=by
 obtain⟨g',t',cs,fuel,p,hg',ht',hvar,hd⟩:=h;obtain rfl:=xf (hg.symm.trans hg');obtain rfl:=xf (hty.symm.trans ht');cases fuel with
 |zero=>simp[DataW.trod] at hd
 |succ n=>
  unfold DataW.trod at hd;rw[ht] at hd;have hcell:=World.var?_cell hg hvar 0;split at hd<;>simp_all
  rename_i u v _ h1;exact⟨u,v,by rw[<- qwf,h1];rfl⟩
theorem goesBy_none{P:Program}{c:OpenClaim}(hs:c.start=.entering)(h:P.funcs.any Func.goes=false):false=c.goesBy P:=by
 have hn:∀(g:FuncId) (fn:Func),P.funcs[g]?=some fn->fn.goes=false:=fun g fn e=>by
  rw[Array.any_eq_false] at h;obtain⟨hlt,rfl⟩:=asi.1 e;exact yz.2 (h g hlt)
 have hg:∀f:FuncId,P.goes f=false:=fun f=>by
  unfold Program.goes;rw[h,xm,xx,vn];intro g _ e;cases hf:P.funcs[g]? with
  |none=>rw[hf] at e;cases e
  |some fn=>rw[hf] at e;rw[show Option.any Func.goes (some fn)=fn.goes from rfl,hn g fn hf] at e;cases e
 unfold OpenClaim.goesBy Program.goesAt Program.goesFrom;rw[hs,xx];cases P.funcNamed c.func with
 |none=>rfl
 |some f=>exact(hg f).symm
theorem noneGoes:prog.funcs.any Func.goes=false:=krq
theorem qlg{W:World}(hL:laidMet prog YtpaallejmocmaaaGreatDoor.Rows.disposalDestroysRow.laid W)(hsh:W.ShapedOpen prog):LibT (jcp W):=by
 obtain ⟨m,hm⟩:=Tryz.laysM144.s1_3 W hsh;have h1 : Lib.VarReads Tryz.prog W "internal/strconv.uint64pow10" YtpaallejmocmaaaGreatDoor.Rows.laid_internal_strconv_uint64pow10 := Lib.laidMet.reads hL (by repeat (first | exact .head _ | refine .tail _ ?_))
 rw[show YtpaallejmocmaaaGreatDoor.Rows.laid_internal_strconv_uint64pow10=(Lib.tabData .u64 Lib.pow10Tab:DataW Unit) by kernel_rfl] at h1;have h2 : Lib.VarReads Tryz.prog W "strings.asciiSpace" YtpaallejmocmaaaGreatDoor.Rows.laid_strings_asciiSpace := Lib.laidMet.reads hL (by repeat (first | exact .head _ | refine .tail _ ?_))
 rw[show YtpaallejmocmaaaGreatDoor.Rows.laid_strings_asciiSpace=(Lib.tabData .u8 Lib.asciiSpaceTab:DataW Unit) by kernel_rfl] at h2;have h3 : Lib.VarReads Tryz.prog W "unicode/utf8.first" YtpaallejmocmaaaGreatDoor.Rows.laid_unicode_utf8_first := Lib.laidMet.reads hL (by repeat (first | exact .head _ | refine .tail _ ?_))
 rw[show YtpaallejmocmaaaGreatDoor.Rows.laid_unicode_utf8_first=(Lib.firstData:DataW Unit) by kernel_rfl] at h3;have h4 : Lib.VarReads Tryz.prog W "unicode/utf8.acceptRanges" YtpaallejmocmaaaGreatDoor.Rows.laid_unicode_utf8_acceptRanges := Lib.laidMet.reads hL (by repeat (first | exact .head _ | refine .tail _ ?_))
 rw[show YtpaallejmocmaaaGreatDoor.Rows.laid_unicode_utf8_acceptRanges=(Lib.acceptData:DataW Unit) by kernel_rfl] at h4;have h5 : Lib.VarReads Tryz.prog W "unicode.White_Space" YtpaallejmocmaaaGreatDoor.Rows.laid_unicode_White_Space := Lib.laidMet.reads hL (by repeat (first | exact .head _ | refine .tail _ ?_))
 rw[show YtpaallejmocmaaaGreatDoor.Rows.laid_unicode_White_Space=(Lib.whiteData:DataW Unit) by kernel_rfl] at h5;have h6 : Lib.VarReads Tryz.prog W "strconv.ErrRange" YtpaallejmocmaaaGreatDoor.Rows.laid_strconv_ErrRange := Lib.laidMet.reads hL (by repeat (first | exact .head _ | refine .tail _ ?_))
 have h7 : Lib.VarReads Tryz.prog W "strconv.ErrSyntax" YtpaallejmocmaaaGreatDoor.Rows.laid_strconv_ErrSyntax := Lib.laidMet.reads hL (by repeat (first | exact .head _ | refine .tail _ ?_))
 have hU:=utf8Tabs_of_reads Tryz.lays260 ⟨krq,krq,krq,krq,krq,krq,krq⟩ h3 h4;have hW:=whiteTab_of_reads Tryz.lays199 ⟨krq,krq,krq,krq,krq,krq,krq,krq⟩ h5;refine⟨?_,?_,fun w hw=>?_,fun w hw=>?_,⟨m,hm⟩,?_,?_⟩
 .exact jvx (g:=0) krq (jzt (g:=0) (t:=282) (e:=5) (m:=256) krq krq krq krq krq krq h2) (xp krq)
 .exact jvx (g:=3) krq (jzt (g:=3) (t:=329) (e:=154) (m:=20) krq krq krq krq krq krq h1) (xp krq)
 .exact⟨fun c hc=>hw _ _ (hU.1 c hc),fun i hi=>⟨hw _ _ (hU.2 i hi).1,hw _ _ (hU.2 i hi).2⟩⟩
 .obtain⟨T,oT,R,oR,a1,a2,a3,a4,a5⟩:=hW;exact⟨T,oT,R,oR,hw _ _ a1,hw _ _ a2,hw _ _ a3,hw _ _ a4,fun i hi=>hw _ _ (a5 i hi)⟩
 .exact qb8 (t:=183) krq krq Tryz.underlying183 h7
 .exact qb8 (t:=183) krq krq Tryz.underlying183 h6
variable {H : Type}{enc : TypeId × Value -> H}{W : World}
theorem be{P:Program}{m:Nat}{t:TypeId}{k:IntKind}{vs:List V}(ht:P.underlying t=some (.int k))(h:bd P m t vs):∃i,vs=[.val (.int k i)]/\(Lit.int k i).wf=true:=by
 cases m with
 |zero=>exact h.elim
 |succ m=>simpa only[bd,ht] using h
theorem jm{P:Program}{m:Nat}{t:TypeId}{vs:List V}(ht:P.underlying t=some .string)(h:bd P m t vs):∃s:Str,vs=[.str s]/\s.length<=1048576:=by
 cases m with
 |zero=>exact h.elim
 |succ m=>simpa only[bd,ht] using h
theorem gt{P:Program}{m:Nat}{t e:TypeId}{vs:List V}(ht:P.underlying t=some (.slice e))(h:bd P m t vs):∃(es:List (List V)) (m':Nat),vs=[.slice (P.cellsOf e) es]/\es.length<=1048576/\∀x∈es,bd P m' e x:=by
 cases m with
 |zero=>exact h.elim
 |succ m=>
  simp only[bd,ht] at h;obtain⟨es,h1,h2,h3⟩:=h;exact⟨es,m,h1,h2,h3⟩
theorem ep{P:Program}{m:Nat}{t:TypeId}{fs:Array Field}{vs:List V}(ht:P.underlying t=some (.struct fs))(h:bd P m t vs):∃m',ji2 (bd P m') (fs.toList.map (·.type)) vs:=by
 cases m with
 |zero=>exact h.elim
 |succ m=>simp only[bd,ht] at h;exact⟨m,h⟩
theorem gi{α:Type}{f:α->List V}{Q:List V->Prop}{R:α->Prop}(h:∀x,Q x->∃a,x=f a/\R a):∀es:List (List V),(∀x∈es,Q x)->∃l:List α,es=l.map f/\∀a∈l,R a
 |[],_=>⟨[],rfl,smq⟩
 |x::r,hq=>by
  obtain⟨a,rfl,ha⟩:=h x (hq x smq);obtain⟨l,rfl,hl⟩:=gi h r fun y hy=>hq y zfj;exact⟨a::l,rfl,by simpa using⟨ha,hl⟩⟩
theorem qkk{m:Nat}{vs:List V}(h:bd prog m 101 vs):∃c:Cls,vs=c.cs/\c.Fit:=by
 obtain⟨m',h⟩:=ep Tryz.underlying101 h;exact zbp
theorem qkf{m:Nat}{vs:List V}(h:bd prog m 152 vs):∃c:Mov,vs=c.cs/\c.Fit:=by
 obtain⟨m',h⟩:=ep Tryz.underlying152 h;exact zbp
theorem qns:prog.cellsOf 101=2:=krq
theorem qnn:prog.cellsOf 152=2:=krq
theorem qjo:prog.cellsOf 105=5:=krq
theorem qhd{m:Nat}{vs:List V}(h:bd prog m 105 vs):∃p:Plan,vs=p.cs/\p.Fit:=by
 obtain⟨m',h⟩:=ep Tryz.underlying105 h;obtain⟨a0,b0,rfl,h0,a1,b1,rfl,h1,a2,b2,rfl,h2,a3,b3,rfl,h3,rfl⟩:=h;obtain⟨ver,rfl,-⟩:=be Tryz.underlying3 h0;obtain⟨m'',h1⟩:=ep Tryz.underlying54 h1;obtain⟨c0,d0,rfl,g0,c1,d1,rfl,g1,rfl⟩:=h1;obtain⟨frm,rfl,-⟩:=be Tryz.underlying3 g0;obtain⟨til,rfl,-⟩:=be Tryz.underlying3 g1;obtain⟨es,m3,rfl,hel,he⟩:=gt Tryz.underlying102 h2;obtain⟨fs,m4,rfl,hfl,hf⟩:=gt Tryz.underlying103 h3;obtain⟨cs,rfl,hc⟩:=gi (fun x hx=>qkk hx) es he;obtain⟨ms,rfl,hm⟩:=gi (fun x hx=>qkf hx) fs hf;refine⟨⟨ver,frm,til,cs,ms⟩,?_,by simpa using hel,by simpa using hfl,hc,hm⟩;rw[qns,qnn];rfl
theorem qg7{m:Nat}{vs:List V}(h:bd prog m 23 vs):∃l:List Plan,vs=[ay l]/\Fits l:=by
 obtain⟨es,m3,rfl,hel,he⟩:=gt Tryz.underlying23 h;obtain⟨l,rfl,hl⟩:=gi (fun x hx=>qhd hx) es he;refine⟨l,?_,by simpa using hel,hl⟩;rw[qjo]
theorem qrx:okT prog 8 3=true:=krq
theorem qcc{b:Nat}{v:Value}{d:DataW H}{p:List MemPlace}(hv:Value.okWide prog W .any b 3 v)(h:DataW.Trod enc prog W 0 (fun _=>true) true 3 v d p)(hb:uptoBulk d<=1048576):
  ∃n:Int,Rep (fw W) (vi n) v/\(Lit.int .i64 n).wf=true:=by
 obtain⟨n,rfl,-⟩:=open_int Tryz.underlying3 hv h;obtain⟨fuel,h⟩:=h;obtain⟨vs,h1,h2⟩:=jfy 8 fuel _ _ (d,p) h qrx hb;obtain⟨i,rfl,hi⟩:=be Tryz.underlying3 h1;exact⟨i,h2.rep 0 _ _ rfl rfl,hi⟩
theorem jrm{W':World}(hb:Below W.heap.size W W'):∀ {ts:List TypeId} {vs:List Value} {ds:List (DataW H)} {p:List MemPlace},DataW.TrodAll enc prog W 0 (fun _=>true) true ts vs ds p->(∀x∈p,x.block<W.heap.size)->
  (∀t∈ts,prog.readableRec t=true/\t<prog.types.size)->DataW.TrodAll enc prog W' 0 (fun b=>decide (b<W.heap.size)) true ts vs ds p
 |[],vs,ds,p,h,_,_=>by
  obtain⟨rfl,rfl,rfl⟩:=trodAll_nil h;exact trodAll_mk0
 |t::ts,vs,ds,p,h,hlt,ht=>by
  obtain⟨v,vs1,d,ds1,a,b,rfl,rfl,rfl,h1,h2⟩:=trodAll_cons h;exact⟨a,b,Below.trod qs4 (ht t smq).1 (ht t smq).2 h1 hb (fun x hx=>hlt x (by simp[hx])),jrm hb h2 (fun x hx=>hlt x (by simp[hx])) (fun u hu=>ht u (by simp[hu])),rfl⟩
theorem ql2{f:Func}{s:ChangeSpec}{W':World}{args:Array Value}{ds gs:List (DataW H)}{before:List MemPlace}(hW:DataW.Whole enc prog f.params.toList s.vars false W args.toList ds gs before)(hv:s.vars=[]) 
    (hs:s.fn H ds= { results:=[.lit (.bool true)],args:=ds }) (hr:f.resultTypes= #[4]) (ht:∀t∈f.params.toList,prog.readableRec t=true/\t<prog.types.size) (hb:Below W.heap.size W W'):
    s.post enc prog f false true false false W args (.bool true) W':=by
  have hlt:∀p∈before,p.block<W.heap.size:=fun p hp=>hW.lt p hp;have hW':=hW;obtain⟨p,q,hA,hV,rfl,-,-⟩:=hW;rw[hv] at hV;obtain⟨rfl,rfl⟩:=trodVars_none hV;simp only[vw] at hlt;have e:s.fn H (ds++[])= { results:=[.lit (.bool true)],args:=ds } := by rw[vw];exact hs
  refine⟨ds,[],p++[],[],p,[],hW',?_,?_,?_,World.keptBut_mono (fun x hx=>⟨hx,?_⟩) (hb.frame (· ∈ p++[])),fun h=>by cases h⟩
  . rw[e,hr];exact trodAll_cons_mk (shut_bool Tryz.underlying4 _) trodAll_mk0
  . rw[e];exact jrm hb hA hlt ht
  . rw[e,hv];rfl
  simpa using hx
theorem qlk{f:FuncId}{args:Array Value}{vs:List V}(hd:Den prog (jcp W) f vs (vb true))(hr:Reps (fw W) vs args.toList):Calls prog f args W fun e W'=>e=.returned (.bool true)/\Below W.heap.size W W':=by
 have:=hd.2 W (fw W) args.toList ⟨fun _ _ h=>h,fun _ _ h=>by cases h⟩ (qi1 W) hr;refine this.mono ?_;rintro e W' ⟨y,F',rfl,hx,hy⟩;rw[al hy];exact⟨rfl,hx.bel⟩
theorem jkn{F:Frz}{v:V}{vs:List V}{x:Value}{xs:List Value}(h:Rep F v x)(k:Reps F vs xs):Reps F (v::vs) (x::xs):=by
 refine⟨by simp[k.1],fun j u y e1 e2=>?_⟩;cases j with
 |zero=>simp at e1 e2;subst e1 e2;exact h
 |succ j=>exact k.2 j u y (by simpa using e1) (by simpa using e2)
theorem qou{F:Frz}: Reps F [] []:=⟨rfl,smq⟩
theorem qrm(os:Os)(args:Array Value):((World.laidAll prog os YtpaallejmocmaaaGreatDoor.Rows.disposalDestroysRow.laid).forCall (fun _ _=>0) ⟨#[],args,[]⟩).Shaped prog:=
 World.shaped_of_ZipB krq krq
theorem qpa(os:Os)(args:Array Value):laidMet prog YtpaallejmocmaaaGreatDoor.Rows.disposalDestroysRow.laid ((World.laidAll prog os YtpaallejmocmaaaGreatDoor.Rows.disposalDestroysRow.laid).forCall (fun _ _=>0) ⟨#[],args,[]⟩).memory:=
 laidMet_laidAll args krq krq
theorem qll(os:Os)(args:Array Value):laidMetH prog YtpaallejmocmaaaGreatDoor.Rows.disposalDestroysRow.laid ((World.laidAll prog os YtpaallejmocmaaaGreatDoor.Rows.disposalDestroysRow.laid).forCall (fun _ _=>0) ⟨#[],args,[]⟩).memory:=qpa os args
theorem qs3{W:World}(h:laidMetH prog YtpaallejmocmaaaGreatDoor.Rows.disposalDestroysRow.laid W):laidMet prog YtpaallejmocmaaaGreatDoor.Rows.disposalDestroysRow.laid W:=h
theorem qg5{C:Checked}{os:Os}{f:FuncId}{fn:Func}{s:OpenSpec}{conds:List PathCond}{apart:Bool}{laid:List (String×DataW Unit)}(w0:World)(args:Array Value)(hos:w0.os=os) 
  (hs:(w0.forCall (fun _ _=>0) ⟨#[],args,[]⟩).Shaped C.prog) (hok:Input.okWideB C.prog (w0.forCall (fun _ _=>0) ⟨#[],args,[]⟩) f ⟨#[],args,[]⟩=true)
  (hrow:s.preRow enc C.prog fn conds apart laid (w0.forCall (fun _ _=>0) ⟨#[],args,[]⟩).memory args):
  ∃(w:World) (tape:Tape) (i:Input),w.os=os/\(w.forCall tape i).Shaped C.prog/\i.vars=[]/\Input.okWide C.prog (w.forCall tape i) .any w.heap.size f i/\
   s.preRow enc C.prog fn conds apart laid (w.forCall tape i).memory i.args/\({} : Assume).holds C.prog (lone (Frame.enter C.prog f i.args .normal) [] (w.forCall tape i)):=
 ⟨w0,fun _ _=>0,⟨#[],args,[]⟩,hos,hs,(Input.okWide_of_okWideB (base:=0) hok).1,(Input.okWide_of_okWideB hok).2,hrow,by
  simp only[Assume.holds]
  exact⟨smq,smq,smq,smq,smq⟩⟩
end Go.Arc
