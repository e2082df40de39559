/- A part of this claim. -/
import Derived.Test.YtfbbflhnhmphiaaGreatDoorW201
import Derived.KernelRfl
set_option maxHeartbeats 16000000
set_option maxRecDepth 100000
namespace Go.Arc
open Go.Ab Go.RowKit Go.Proofs Tryz
variable {T : Lay}
abbrev pc(l:List Evt)(d:Int):V:=.tup [.agg (fv l d).1.cs,vi (fv l d).2.1,vi (fv l d).2.2]
def gc(l:List Evt)(k:Nat):Option Int:=if k=0 then none else(l[k-1]?).map (·.id)
def cntE(d:Int):Option Int->Rgs->List Evt->Nat
 |_,_,[]=>0
 |q,r,e::l=>if d<e.day then 0 else if ji q e=true then 0 else if(appl r e).2≠0 then 0 else cntE d (some e.id) (appl r e).1 l+1
def jfl(l:List Evt)(d:Int):Nat:=cntE d none aj l
structure WkI (l:List Evt) (d:Int) (k:Nat):Prop where
 le:k<=l.length
 eq:fv l d=jw d (gc l k) k (bb aj (l.take k)) (l.drop k)
 low:Low (bb aj (l.take k)) k
 cnt:jfl l d=cntE d (gc l k) (bb aj (l.take k)) (l.drop k)+k
theorem jy6{l:List Evt}{d:Int}(h:l.length<=30):WkI l d 0:=
 ⟨vj _,by unfold fv;rw[vd omq];rfl,gj 0,rfl⟩
theorem juw{l:List Evt}{k:Nat}{e:Evt}(he:l[k]?=some e):gc l (k+1)=some e.id:=by
 unfold gc;rw[vd omq,xcg,he];rfl
section
variable {l : List Evt}{d : Int}{k : Nat}{e : Evt}(hI : WkI l d k)
include hI
theorem jqg(he:l[k]?=some e):fv l d=if d<e.day then(bb aj (l.take k),-1,0) else if ji (gc l k) e=true then(aj,(k:Int),5) else
  if(appl (bb aj (l.take k)) e).2≠0 then(aj,(k:Int),(appl (bb aj (l.take k)) e).2) else jw d (some e.id) (k+1) (appl (bb aj (l.take k)) e).1 (l.drop (k+1)):=by
 rw[hI.eq];obtain⟨hlt,rfl⟩:=gsi.1 he;exact zb9
theorem jfj(he:l[k]?=some e):jfl l d=if d<e.day then k else if ji (gc l k) e=true then k else
  if(appl (bb aj (l.take k)) e).2≠0 then k else cntE d (some e.id) (appl (bb aj (l.take k)) e).1 (l.drop (k+1))+(k+1):=by
 rw[hI.cnt];obtain⟨hlt,rfl⟩:=gsi.1 he;rw[xat hlt,show cntE d (gc l k) (bb aj (l.take k)) (l[k]::l.drop (k+1))=if d<l[k].day then 0 else if ji (gc l k) l[k]=true then 0 else if(appl (bb aj (l.take k)) l[k]).2≠0 then 0 else cntE d (some l[k].id) (appl (bb aj (l.take k)) l[k]).1 (l.drop (k+1))+1 from rfl];split
 .omega
 split
 .omega
 split
 .omega
 omega
theorem qxt(hk:¬k<l.length):jfl l d=k:=by
 rw[hI.cnt,xdd.2 omq]
 show 0+k=k
 omega
theorem jhq(he:l[k]?=some e)(hs:SmE e)(h1:¬d<e.day)(h2:ji (gc l k) e=false)(h3:(appl (bb aj (l.take k)) e).2=0):WkI l d (k+1):=by
 have hlt:=(gsi.1 he).1;have h:=jqg hI he;rw[vd h1,vd ze0,vd zfj] at h;have hc:=jfj hI he;rw[vd h1,vd ze0,vd zfj] at hc;refine⟨hlt,?_,?_,by rw[hc,juw he,oa he]⟩
 .rw[h,juw he,oa he]
  push_cast
  rfl
 rw[oa he];rw[(jaq h3).2.2.2.2.2];exact jc6 (jc7 hI.low hs) _
theorem qak(hk:¬k<l.length):fv l d=(bb aj (l.take k),-1,0):=by
 rw[hI.eq,xdd.2 omq];rfl
end
abbrev qea:List Gent:=gd 13 [[0,0,0],[1,1,0],[3,2,0],[7,3,1,4,2,9,0],[519,3,4,4,5,10,6],[15,4,2,9,3],[23,3,1,5,0,9,3],[55,3,5,9,4],[31,5,4,9,5],[527,4,4,10,6],[535,3,3,5,1,10,4],[1543,3,4,4,3],[567,3,4,10,7],[63,6,4,9,3],[543,5,2,10,4],[1559,3,3,5,4],[1551,4,2,0,0,0],[575,6,5,10,3],[127,7,3,9,4],[1567,5,1,0,0,0],[1591,3,0,0,0,0],[1599,6,4,0,0,0],[255,8,2,9,1],[639,7,0,10,2],[767,8,2,10,3],[511,9,1,0,0,0],[1663,7,1,0,0,0],[1023,10,1,0,0,0],[1791,8,0,0,0,0],[2047,11,0,0,0,0],[4095,12,0,0,0,0],[8191]]
theorem jv8(L:LibT T)(l:List Evt)(d:Int)(f:FuncId)(hl:l.length<=30)(hs:∀e∈l,SmE e)(hf:∀(r:Rgs) (e:Evt),Den prog T f [.agg r.cs,.agg e.cs] (.tup [])):
  Den prog T 34 [evts l,vi d,.func f []] (pc l d):=by
 unfold pc;refine ab call34 func34 63 ?_;refine rc jeb ?_;refine runW (ai am (ai ao ac)) ?_;refine loop ⟨[21,0,1,2,6,9,19,20],[6,9],[],[]⟩ (WkI l d) (fun k=>l.length-k) (fun k=>⟨63,[(21,.v (vi k)),(0,.v (evts l)),(1,.v (vi d)),(2,.v (.func f [])),(6,.p 6 0),(9,.p 9 0),(19,.v (evts l)),(20,.v (vi l.length))],[(6,.var lq),(9,.var (bb aj (l.take k)).cs)],[]⟩) 0 (jy6 hl) ?_;intro k hI;have hkl:=hI.le;obtain⟨r,hr⟩:∃r,bb aj (l.take k)=r:=⟨_,rfl⟩;rw[hr];by_cases hlt:k<l.length
 .obtain⟨e,he,-,hm⟩:=af hlt;have hw:=jqg hI he;rw[hr] at hw;by_cases a1:d<e.day
  .rw[ve a1] at hw;rw[hw]
   skip
   refine runW (ai he (ai (vg a1) (ai am (ai ao ac)))) ?_;exact fin rfl
  rw[vd a1] at hw;refine runD (ai he (ai (vf a1) (ai am (ai ao ac)))) ?_;refine aq qea ?_;by_cases k0:k=0
  .have hla:ji (gc l k) e=false:=by rw[k0];rfl
   refine gR (ai (ai he (vf (show ¬(0:Int)<(k:Int) by omega))) (ai am (ai ao ac))) ?_;have hap:=jdo L hI.low omq (hs e hm);rw[hr] at hap;unfold cz at hap;obtain⟨A,hA⟩:∃A,(appl r e).1=A:=⟨_,rfl⟩;obtain⟨E,hE⟩:∃E,(appl r e).2=E:=⟨_,rfl⟩;rw[hA,hE] at hap;refine call hap ?_;rw[vd (by rw[hla];decide),hE,hA] at hw;by_cases h0:E=0
   .refine rcW (ai (vg h0) (ai am (ai ao ac))) (hf A e) ?_;exact zf
   exact zce
  obtain⟨y,hy,-,-⟩:=af (l:=l) (k:=k-1) omq;have hle:gc l k=some y.id:=by unfold gc;rw[vd k0,hy];rfl
  by_cases a2:e.id<=y.id
  .have hla:ji (gc l k) e=true:=by rw[hle];exact vl a2
   rw[ve hla] at hw;rw[hw]
   skip
   refine gR (ai (ai (ai he hy) (ai (vg (show (0:Int)<(k:Int) by omega)) (vg a2))) (ai am (ai ao ac))) ?_;exact finW (.t3 sa (.refl _) (.refl _))
  have hla:ji (gc l k) e=false:=by rw[hle];exact vw a2
  refine gR (ai (ai (ai he hy) (ai (vg (show (0:Int)<(k:Int) by omega)) (vf a2))) (ai am (ai ao ac))) ?_;have hap:=jdo L hI.low omq (hs e hm);rw[hr] at hap;unfold cz at hap;obtain⟨A,hA⟩:∃A,(appl r e).1=A:=⟨_,rfl⟩;obtain⟨E,hE⟩:∃E,(appl r e).2=E:=⟨_,rfl⟩;rw[hA,hE] at hap;refine call hap ?_;rw[vd (by rw[hla];decide),hE,hA] at hw;by_cases h0:E=0
  .refine rcW (ai (vg h0) (ai am (ai ao ac))) (hf A e) ?_;exact zf
  exact zce
 have hw:=qak hI hlt;rw[hr] at hw;rw[hw]
 skip
 refine runW (ai (vf (show ¬(k:Int)<(l.length:Int) by omega)) (ai am (ai ao ac))) ?_;exact fin rfl
theorem qp7(r:Rgs)(e:Evt):Den prog T 35 [.agg r.cs,.agg e.cs] (.tup []):=by
 refine ab call35 func35 4 ?_;refine run ?_;exact .inl ⟨_,rfl,.refl _⟩
theorem qxm(r:Rgs)(e:Evt):Den prog T 42 [.agg r.cs,.agg e.cs] (.tup []):=by
 refine ab call42 func42 4 ?_;refine run ?_;exact .inl ⟨_,rfl,.refl _⟩
theorem jl2(L:LibT T)(l:List Evt)(hl:l.length<=30)(hs:∀e∈l,SmE e):Den prog T 16 [evts l] (pc l 9223372036854775807):=by
 refine ab call16 func16 10 ?_;refine rc (jv8 L l 9223372036854775807 35 hl hs qp7) ?_;exact za
theorem qtb(L:LibT T)(l:List Evt)(d:Int)(hl:l.length<=30)(hs:∀e∈l,SmE e):Den prog T 20 [evts l,vi d] (pc l d):=by
 refine ab call20 func20 13 ?_;refine rc (jv8 L l d 42 hl hs qxm) ?_;exact za
theorem jdp(L:LibT T){r:Rgs}{n:Nat}(h:Low r n)(hn:n<=30){e:Evt}(he:SmE e):Den prog T 10 [.agg r.cs,.agg e.cs] (.tup [.agg (uh r e).1.cs,vi (uh r e).2]):=by
 have hck:=jgk L r (cg h omq);have hap:=jdo L h hn he;unfold uh;refine ab call10 func10 15 ?_;refine rc hck ?_;by_cases h0:da r=0
 .rw[vd (fun g=>g h0)];refine rcW (vg h0) hap ?_;exact za
 rw[ve h0];refine runW (vf h0) ?_;exact zbw
def gonR(r:Rgs)(id:Int):Int×Bool:=match r.crs.find? fun c=>c.fls.any fun y=>decide (id=y) with
 |some c=>(c.day,true)
 |none=>match r.dps.find? fun x=>decide (x.fil=id) with
  |some x=>(x.day,true)
  |none=>(0,false)
theorem jx5{α:Type}{p:α->Bool}{l:List α}{k:Nat}{x:α}(h:∀e∈l.take k,p e=false)(hx:l[k]?=some x)(hp:p x=true):l.find? p=some x:=by
 obtain⟨hlt,he⟩:=gsi.1 hx;have hd:l.drop k=x::l.drop (k+1):=by rw[xat hlt,he]
 have hf:(l.take k++l.drop k).find? p=some x:=by
  rw[xcq,yq.2 (fun e he=>by rw[h e he];decide),hd,List.find?_cons,hp];rfl
 rwa [xc2] at hf
theorem jtl{α:Type}{p:α->Bool}{l:List α}{k:Nat}(h:∀e∈l.take k,p e=false)(hk:¬k<l.length):l.find? p=none:=yq.2 fun e he=>by
 rw[ye omq] at h;rw[h e he];decide
theorem jvg(r:Rgs)(h:r.Fit)(id:Int):Den prog T 21 [.agg r.cs,vi id] (.tup [vi (gonR r id).1,vb (gonR r id).2]):=by
 have hcl:=h.crs.1;have hdl:=h.dps;refine ab call21 func21 38 ?_;refine run ?_;refine loop ⟨[13,1,2,11,12],[2],[],[]⟩ (fun k:Nat=>k<=r.crs.length/\∀c∈r.crs.take k,(c.fls.any fun y=>decide (id=y))=false) (fun k=>r.crs.length-k) (fun k=>⟨38,[(13,.v (vi k)),(1,.v (vi id)),(2,.p 2 0),(11,.v (crts r.crs)),(12,.v (vi r.crs.length))],[(2,.var r.cs)],[]⟩) 0 ⟨vj _,smq⟩ ?_;rintro k ⟨hk,hall⟩;by_cases hlt:k<r.crs.length
 .obtain⟨c,hc,-,hm⟩:=af hlt;refine rcW hc (jbk c.fls id (h.crs.2 c hm).1) ?_;cases hh:c.fls.any fun y=>decide (id=y)
  .refine run ?_;exact round (k+1) ⟨hlt,jc (q:=fun c:Crt=>(c.fls.any fun y=>decide (id=y))=false) hall hc hh⟩ omq
  have hg:gonR r id=(c.day,true):=by unfold gonR;rw[jx5 hall hc hh]
  rw[hg];exact za
 have hn:=jtl hall hlt;refine run ?_;refine loop ⟨[27,1,25,26],[],[],[]⟩ (fun k:Nat=>k<=r.dps.length/\∀x∈r.dps.take k,decide (x.fil=id)=false) (fun k=>r.dps.length-k) (fun k=>⟨38,[(27,.v (vi k)),(1,.v (vi id)),(25,.v (deps r.dps)),(26,.v (vi r.dps.length))],[],[]⟩) 0 ⟨vj _,smq⟩ ?_;rintro k ⟨hk,hall⟩;by_cases hlt:k<r.dps.length
 .obtain⟨x,hx,-,hm⟩:=af hlt;by_cases hd:x.fil=id
  .have hg:gonR r id=(x.day,true):=by unfold gonR;rw[hn,jx5 hall hx (vl hd)]
   rw[hg];refine runW (ai hx (vg hd)) ?_;exact fin rfl
  refine runW (ai hx (vf hd)) ?_;exact round (k+1) ⟨hlt,jc (q:=fun x:Dep=>decide (x.fil=id)=false) hall hx (vw hd)⟩ omq
 have hg:gonR r id=(0,false):=by unfold gonR;rw[hn,jtl hall hlt]
 rw[hg];exact za
end Go.Arc
set_option maxRecDepth 100000
namespace Go.Arc
open Go.Ab Go.RowKit Go.Proofs Tryz
variable {T : Lay}
variable {l:List Evt}{α:Type}{p:α->Bool}{k:Nat}
abbrev hstV(r:Rgs)(id:Int)(e:Evt):List Vdt:=if onE r id e.day=0 then [onV r id e.day] else []
def hstK(l:List Evt)(id:Int):Nat->List Vdt
 |0=>[]
 |k+1=>hstK l id k++(match l[k]? with|some e=>hstV (bb aj (l.take (k+1))) id e|none=>[])
abbrev vdts(l:List Vdt):V:=.slice 6 (l.map Vdt.cs)
theorem endH {p:Prop} {v u:V} (hw:Wk v u) (e:Wk v u->p:=by
  intro hw;refine⟨fun x hx=>?_,⟨rfl,trivial⟩,_,rfl,.v hw⟩;rw[xn.1 hx]
  exact⟨_,rfl,WkB.self _ _ _⟩):p:=e hw
theorem ql5(L:LibT T)(l:List Evt)(d id:Int)(b:Nat)(f:FuncId)(cap:List V)(hl:l.length<=30)(hs:∀e∈l,SmE e)(ats:List TV)(hcap:∀h:List (Nat×Blk),nmOf (Ab.look 999000 h)=some b->ArgsM [(999000,999000)] h ats (cap.map .v)) 
  (hf:∀(k:Nat) (e:Evt),l[k]?=some e->k<30->DenS prog T f [(999000,.var [vdts (hstK l id (k))] (some b))] [(55,[999001000000000])] (.v (.agg (bb aj (l.take (k+1))).cs) :: .v (.agg e.cs)::ats) [(999000,.var [vdts (hstK l id (k+1))] (some b))] [(55,[999001000000000])] (.v (.tup []))):
  DenS prog T 34 [(999000,.var [vdts (hstK l id (0))] (some b))] [(55,[999001000000000])] [.v (evts l),.v (vi d),.v (.func f cap)] [(999000,.var [vdts (hstK l id (jfl l d))] (some b))] [(55,[999001000000000])] (.v (pc l d)):=by
 unfold pc;refine bx follows (fun args w=>call34 args w) func34 rfl 63 rfl rfl ?_;refine rc jeb ?_;refine runW (ai am (ai ao ac)) ?_;refine loop ⟨[21,0,1,2,6,9,19,20],[6,9,999000],[999001000000000],[]⟩ (WkI l d) (fun k=>l.length-k) (fun k=>⟨63,[(21,.v (vi k)),(0,.v (evts l)),(1,.v (vi d)),(2,.v (.func f cap)),(6,.p 6 0),(9,.p 9 0),(19,.v (evts l)),(20,.v (vi l.length))],[(6,.var lq),(9,.var (bb aj (l.take k)).cs),(999000,.var [vdts (hstK l id (k))] (some b))],[(55,[999001000000000])]⟩) 0 (jy6 hl) ?_;intro k hI;have hkl:=hI.le;obtain⟨r,hr⟩:∃r,bb aj (l.take k)=r:=⟨_,rfl⟩;rw[hr];by_cases hlt:k<l.length
 .obtain⟨e,he,-,hm⟩:=af hlt;have hw:=jqg hI he;rw[hr] at hw;by_cases a1:d<e.day
  .rw[ve a1] at hw;rw[hw];rw[jfj hI he,ve a1];refine runW (ai he (ai (vg a1) (ai am (ai ao ac)))) ?_;exact endH (.refl _)
  rw[vd a1] at hw;refine runD (ai he (ai (vf a1) (ai am (ai ao ac)))) ?_;refine aq qea ?_;by_cases k0:k=0
  .have hla:ji (gc l k) e=false:=by rw[k0];rfl
   refine gR (ai (ai he (vf (show ¬(0:Int)<(k:Int) by omega))) (ai am (ai ao ac))) ?_;have hap:=jdo L hI.low omq (hs e hm);rw[hr] at hap;unfold cz at hap;obtain⟨A,hA⟩:∃A,(appl r e).1=A:=⟨_,rfl⟩;obtain⟨E,hE⟩:∃E,(appl r e).2=E:=⟨_,rfl⟩;rw[hA,hE] at hap;refine call hap ?_;rw[vd (by rw[hla];decide),hE,hA] at hw;by_cases h0:E=0
   .refine runW (ai (vg h0) (ai am (ai ao ac))) ?_;have hfk:=hf k e he omq;rw[oa he,hr,hA] at hfk;refine fg (gh [(999000,999000)] hfk (.cons (.v _) (.cons (.v _) (hcap _ rfl))) ?_ ?_ (h4:=⟨rfl,trivial⟩))
    .exact zdq
    exact zf
   exact z8
  obtain⟨y,hy,-,-⟩:=af (l:=l) (k:=k-1) omq;have hle:gc l k=some y.id:=by unfold gc;rw[vd k0,hy];rfl
  by_cases a2:e.id<=y.id
  .have hla:ji (gc l k) e=true:=by rw[hle];exact vl a2
   rw[ve hla] at hw;rw[hw];rw[jfj hI he,vd a1,ve hla];refine gR (ai (ai (ai he hy) (ai (vg (show (0:Int)<(k:Int) by omega)) (vg a2))) (ai am (ai ao ac))) ?_;exact endH (.t3 sa (.refl _) (.refl _))
  have hla:ji (gc l k) e=false:=by rw[hle];exact vw a2
  refine gR (ai (ai (ai he hy) (ai (vg (show (0:Int)<(k:Int) by omega)) (vf a2))) (ai am (ai ao ac))) ?_;have hap:=jdo L hI.low omq (hs e hm);rw[hr] at hap;unfold cz at hap;obtain⟨A,hA⟩:∃A,(appl r e).1=A:=⟨_,rfl⟩;obtain⟨E,hE⟩:∃E,(appl r e).2=E:=⟨_,rfl⟩;rw[hA,hE] at hap;refine call hap ?_;rw[vd (by rw[hla];decide),hE,hA] at hw;by_cases h0:E=0
  .refine runW (ai (vg h0) (ai am (ai ao ac))) ?_;have hfk:=hf k e he omq;rw[oa he,hr,hA] at hfk;refine fg (gh [(999000,999000)] hfk (.cons (.v _) (.cons (.v _) (hcap _ rfl))) ?_ ?_ (h4:=⟨rfl,trivial⟩))
   .exact zdq
   exact zf
  exact z8
 have hw:=qak hI hlt;rw[hr] at hw;rw[hw];rw[qxt hI hlt];refine runW (ai (vf (show ¬(k:Int)<(l.length:Int) by omega)) (ai am (ai ao ac))) ?_;exact endH (.refl _)
theorem ql9(L:LibC T)(r:Rgs)(h:r.Fit)(e:Evt)(id:Int)(b:Nat)(V0:List Vdt)(hl:V0.length<=1000):
  DenS prog T 44 [(999000,.var [vdts V0] (some b))] [(55,[999001000000000])] [.v (.agg r.cs),.v (.agg e.cs),.v (.row [vi id]),.p 999000 0] [(999000,.var [vdts (V0++hstV r id e)] (some b))] [(55,[999001000000000])] (.v (.tup [])):=by
 have hon:=jau L r h id e.day;have FC:=ai am (ai ao ac);unfold hstV;obtain⟨E,hE⟩:∃E,onE r id e.day=E:=⟨_,rfl⟩;obtain⟨w,hw⟩:∃w,onV r id e.day=w:=⟨_,rfl⟩;rw[hE,hw] at hon;rw[hE,hw];have hap:V0.map Vdt.cs++[w.cs]=(V0++[w]).map Vdt.cs:=by rw[xz];rfl
 refine bx follows (fun args w=>call44 args w) func44 rfl 22 rfl rfl ?_;refine rcW FC hon ?_;by_cases h0:E=0
 .rw[ve h0];refine runW (ai (vg h0) (ai hap FC)) ?_;exact endH (.refl _)
 rw[vd h0,xd];refine runW (ai (vf h0) FC) ?_;exact endH (.refl _)
theorem jz5(l:List Evt)(id:Int):∀k,(hstK l id k).length<=k
 |0=>vo _
 |k+1=>by
  have ih:=jz5 l id k;unfold hstK;rw[vr];cases l[k]? with
  |none=>show _+0<=_;omega
  |some e=>
   have:(hstV (bb aj (l.take (k+1))) id e).length<=1:=by unfold hstV;split<;>simp
   show _+(hstV (bb aj (l.take (k+1))) id e).length<=_
   omega
theorem jzy{D:Int}: ∀ {l:List Evt} {q:Option Int} {k:Int} {r:Rgs},(∀e∈l,¬D<e.day)->(jw D q k r l).2.2=0->cntE D q r l=l.length
 |[],_,_,_,_,_=>rfl
 |e::l,q,k,r,hd,h=>by
  unfold jw at h;unfold cntE;rw[vd (hd e (yo ..))] at h ⊢;by_cases h1:ji q e=true
  .rw[ve h1] at h;cases h
  rw[vd h1] at h ⊢;by_cases h2:(appl r e).2≠0
  .rw[ve h2] at h;exact absurd h h2
  rw[vd h2] at h ⊢;rw[jzy (fun x hx=>hd x (ym _ hx)) h];rfl
theorem jen(hs:∀e∈l,SmE e):∀ {q:Option Int} {r:Rgs} {n:Nat},Low r n->fy q r l->∀k,Low (bb r (l.take k)) (n+k):=by
 induction l with
 |nil=>intro q r n h _ k;rw[List.take_nil];exact h.mono omq
 |cons e l ih=>
  intro q r n h ⟨h1,h2,h3⟩ k;cases k with
  |zero=>exact h
  |succ k=>
   have hx:Low (appl r e).1 (n+1):=by
    rw[(jaq h2).2.2.2.2.2];exact jc6 (jc7 h (hs e (yo ..))) _
   have:=ih (fun x hx=>hs x (ym _ hx)) hx h3 k
   show Low (bb (appl r e).1 (l.take k)) (n+(k+1))
   rw[show n+(k+1)=n+1+k by omega];exact this
theorem qfm(L:LibT T)(l:List Evt)(id:Int)(hl:l.length<=30)(hs:∀e∈l,SmE e)(hd:∀e∈l,e.day<=9223372036854775807)(hr:fy none aj l):
  Den prog T 23 [evts l,vi id] (.tup [vdts (hstK l id l.length),vi 0]):=by
 have FC:=ai am (ai ao ac)
 have hok:fv l 9223372036854775807=(bb aj l,-1,0):=by
  unfold fv;rw[vd omq];exact jgs (fun e he=>xc4.2 (hd e he)) hr
 have hM:jfl l 9223372036854775807=l.length:=jzy (k:=0) (fun e he=>xc4.2 (hd e he)) (by
  have:=jgs (D:=9223372036854775807) (k:=0) (fun e he=>xc4.2 (hd e he)) hr
  rw[this])
 have hW:=fun b:Nat=>ql5 L l 9223372036854775807 id b 44 [.row [vi id],.val (.pointer (some ⟨b,0,none⟩))] hl hs [.v (.row [vi id]),.p 999000 0] (fun h hn=>.cons (.v _) (.cons (.pn rfl hn) .nil)) (fun k e he hk=>by
  have:=ql9 (libC L) (bb aj (l.take (k+1))) (cg (jen hs (gj 0) hr (k+1)) omq) e id b (hstK l id k) (by have:=jz5 l id k;omega);rw[show hstK l id (k+1)=hstK l id k++hstV (bb aj (l.take (k+1))) id e by show hstK l id k++_=_;rw[he]]
  exact this)
 rw[hM] at hW;unfold pc at hW;rw[hok] at hW;obtain⟨R,hR⟩:∃R,bb aj l=R:=⟨_,rfl⟩;rw[hR] at hW;refine ab call23 func23 21 ?_;refine jjb trivial ?_;refine jit 6 ?_;intro b hb;clear hb;refine qaa 6 0 6 55 [.val (.slice none 0 0)] (some b) none rfl rfl dcq rfl ?_;refine runW FC ?_;refine fg (gh [(999000,6)] (hW b) (.cons (.v _) (.cons (.v _) (.cons (.v _) .nil))) ?_ ?_ (h4:=⟨rfl,trivial⟩))
 .intro y hy;rw[xn.1 hy];exact⟨6,_,rfl,rfl,rfl,.inr rfl,rfl⟩
 refine runW FC ?_;exact fin rfl
def fewE(e:Evt):Bool:=decide (e.num.length<=20) && decide (e.txt.length<=20) && e.txt.all fun s=>decide (s.length<=100)
def pr(l:List Evt):Bool:=l.all fewE
theorem qwt{e:Evt}(h:fewE e=true):SmE e:=by
 unfold fewE at h;simp only[vn,vq,xi] at h;exact⟨h.1.1,h.1.2,h.2⟩
theorem jep(h:pr l=true):∀e∈l,SmE e:=fun e he=>qwt (xi.1 h e he)
theorem jj6{l:List α}{x:α}(hx:l[k]?=some x)(h:p x=false):l.all p=false:=by
 cases e:l.all p
 .rfl
 have:=xi.1 e x (vp hx);rw[h] at this;cases this
theorem qcm{l:List α}(h:∀e∈l.take k,p e=true)(hk:¬k<l.length):l.all p=true:=xi.2 fun x hx=>by
 rw[ye omq] at h;exact h x hx
theorem jhn(l:List Evt)(hl:l.length<=30):Den prog T 8 [evts l] (vb (pr l)):=by
 refine ab call8 func8 60 ?_;refine run ?_;refine loop ⟨[3,0],[],[],[]⟩ (fun k:Nat=>k<=l.length/\∀e∈l.take k,fewE e=true) (fun k=>l.length-k) (fun k=>⟨60,[(3,.v (vi k)),(0,.v (evts l))],[],[]⟩) 0 ⟨vj _,smq⟩ ?_;rintro k ⟨hk,hall⟩;by_cases hlt:k<l.length
 .obtain⟨e,he,-,hm⟩:=af hlt;by_cases h1:e.num.length<=20
  case neg=>
   have hf:pr l=false:=jj6 he (by unfold fewE;rw[vw h1];rfl);rw[hf];refine runW he ?_;exact fin rfl
  by_cases h2:e.txt.length<=20
  case neg=>
   have hf:pr l=false:=jj6 he (by unfold fewE;rw[vw h2,yz];rfl);rw[hf];refine runW he ?_;exact fin rfl
  refine runW he ?_;refine loop ⟨[4,3,0],[],[],[]⟩ (fun j:Nat=>j<=e.txt.length/\∀s∈e.txt.take j,decide (s.length<=100)=true) (fun j=>e.txt.length-j) (fun j=>⟨60,[(4,.v (vi j)),(3,.v (vi k)),(0,.v (evts l))],[],[]⟩) 0 ⟨vj _,smq⟩ ?_;rintro j ⟨hj,hin⟩;by_cases hjl:j<e.txt.length
  .obtain⟨s,hs,-,-⟩:=af hjl;by_cases h3:s.length<=100
   .refine runW (ai he hs) ?_;exact round (j+1) ⟨hjl,jc (q:=fun s:Str=>decide (s.length<=100)=true) hin hs (vl h3)⟩ omq
   have hf:pr l=false:=jj6 he (by unfold fewE;rw[jj6 hs (vw h3),yz]);rw[hf];refine runW (ai he hs) ?_;exact fin rfl
  have hfe:fewE e=true:=by unfold fewE;rw[vl h1,vl h2,qcm hin hjl];rfl
  refine runW he ?_;exact round (k+1) ⟨hlt,jc (q:=fun e:Evt=>fewE e=true) hall he hfe⟩ omq
 have hf:pr l=true:=qcm hall hlt;rw[hf];exact za
abbrev ex15:List Evt:=[⟨1,0,1,[1,0,1048576],[[77,105,108,108,115]]⟩,⟨2,0,3,[0,1048576,1,0],[[49],[70,105,108,101,115]]⟩,⟨3,5,4,[7,1,0],[[49],[76,101,116,116,101,114,115]]⟩]
abbrev ev15:Evt:=⟨4,6,6,[7],[]⟩
abbrev r15:Rgs:=⟨[⟨1,[77,105,108,108,115],0,1048576,[]⟩],[⟨1,0,1048576,[⟨[49],[70,105,108,101,115]⟩],[]⟩],[⟨7,1,5,1048576,[49],[76,101,116,116,101,114,115],0,[]⟩],[],[],[],[],[],[],[],[],5⟩
abbrev x15:Rgs:=⟨[⟨1,[77,105,108,108,115],0,1048576,[]⟩],[⟨1,0,1048576,[⟨[49],[70,105,108,101,115]⟩],[]⟩],[⟨7,1,5,6,[49],[76,101,116,116,101,114,115],0,[]⟩],[],[],[],[],[],[],[],[],6⟩
theorem qbn:fv ex15 9223372036854775807=(r15,-1,0):=krq
theorem quq:uh r15 ev15=(x15,0):=krq
theorem qwn:(hstK ex15 7 3).length=1:=krq
theorem qzv:pr ex15=true:=krq
theorem qdj:∀e∈ex15,e.day<=9223372036854775807:=by decide
theorem jez:fy none aj ex15/\bb aj ex15=r15:=by
 have h:=qbn;unfold fv at h;rw[vd dcq] at h;have h2:=jk8 (D:=9223372036854775807) (l:=ex15) (q:=none) (k:=0) (r:=aj) (fun e he=>xc4.2 (qdj e he)) (by rw[h]);rw[h] at h2;exact⟨h2.1,(congrArg (·.1) h2.2).symm⟩
theorem qfd:Den prog T 22 [] (evts ex15):=by
 refine ab call22 func22 11 ?_;exact za
theorem qv1:Wk (.agg [vi 4,vi 6,vi 6,.slice 1 [[vi 7]],.val (.slice none 0 0)]) (.agg ev15.cs):=.agg rfl (fun c hc=>by
  simp only[Evt.cs,vt,yl,xx] at hc
  rcases hc with rfl|rfl|rfl|rfl|rfl<;>rfl) fun j v u e1 e2=>by
 match j with
 |0=>cases e1;cases e2;exact .refl _
 |1=>cases e1;cases e2;exact .refl _
 |2=>cases e1;cases e2;exact .refl _
 |3=>cases e1;cases e2;exact .refl _
 |4=>cases e1;cases e2;exact .nil _
 |j+5=>cases e1
theorem jgj(L:LibT T):Den prog T 7 [] (vb true):=by
 have hsm:=jep qzv
 have hlow:Low r15 3:=by
  have:=jen hsm (gj 0) jez.1 3;rw[show ex15.take 3=ex15 from rfl,jez.2] at this;exact this
 have hF:=jl2 L ex15 dcq hsm;unfold pc at hF;rw[qbn] at hF;have hA:=jdp L hlow dcq (e:=ev15) ⟨dcq,dcq,dcq⟩;rw[quq] at hA;have hH:=qfm L ex15 7 dcq hsm qdj jez.1;have hck:=jgk L r15 (cg hlow dcq)
 have hc0:da r15=0:=by
  have:=jku jdz jez.1
  rwa [jez.2] at this
 rw[hc0] at hck;have hhl:=qwn;obtain⟨H,hHe⟩:∃H,hstK ex15 7 3=H:=⟨_,rfl⟩;rw[show hstK ex15 7 ex15.length=H from hHe] at hH;rw[hHe] at hhl;have hr:r15.fls.length=1/\(∃o:Fil,r15.fls[0]?=some o/\o.id=7/\o.opn=5)/\r15.chg=5:=⟨rfl,⟨_,rfl,rfl,rfl⟩,rfl⟩;have hx:x15.fls.length=1/\∃o:Fil,x15.fls[0]?=some o/\o.cld=6:=⟨rfl,_,rfl,rfl⟩;have hF':Den prog T 16 [evts ex15] (.tup [.agg r15.cs,vi (-1),vi 0]):=hF;have hA':Den prog T 10 [.agg r15.cs,.agg ev15.cs] (.tup [.agg x15.cs,vi 0]):=hA;clear hF hA hc0 hlow;revert hF' hA' hck hr hx;generalize r15=R;generalize x15=X;rintro hck ⟨hr1,⟨o,hr2,hr3,hr4⟩,hr5⟩ ⟨hx1,u,hx2,hx3⟩ hF hA;refine ab call7 func7 93 ?_;refine rc qfd ?_;refine rc hF ?_;refine run ?_;refine callW hA (.cons (.refl _) (.cons qv1 .nil)) ?_;refine rc hH ?_;refine run ?_;simp only[List.append_eq,List.cons_append,List.nil_append];refine runW (ai hhl (ai hr1 (ai hr2 (ai hr3 (ai hr4 (ai hr5 (ai hx1 (ai hx2 hx3)))))))) ?_;rw[show R.cs=[ofcs R.ofs,bh R.pls,fils R.fls,ruls R.rls,hlds R.hls,clks R.cks,sels R.sls,prps R.pps,apvs R.aps,crts R.crs,deps R.dps,vi 5] from by rw[<- hr5]] at hck;refine call hck ?_;exact za
theorem jog{r:Rgs}(h:da r=0)(e:Evt):uh r e=appl r e:=by
 unfold uh;rw[vd (fun h1=>h1 h)]
structure Evd (r x:Rgs) (e:Evt) (n:Nat):Prop where
 low:Low x n
 good:da x=0
 chg:x.chg=e.day
 le:r.chg<=e.day
 keep:Keeps r x
theorem jrf{r:Rgs}{e:Evt}{n:Nat}(hl:Low r n)(he:SmE e)(h:(appl r e).2=0):Evd r (appl r e).1 e (n+1) where
 low:=by
  rw[(jaq h).2.2.2.2.2];exact jc6 (jc7 hl he) _
 good:=(jew h).2.1
 chg:=(jew h).1
 le:=(jew h).2.2
 keep:=qlq h
theorem qeo(L:LibT T)(l:List Evt)(hl:l.length<=1048576):Den prog T 3 [evts l] (vb true):=by
 refine ab call3 func3 176 ?_;refine rc (jgj L) ?_;by_cases h30:30<l.length
 .exact zcl
 have hfw:=jhn (T:=T) l omq;refine rcW (vf h30) hfw ?_;cases hf:pr l
 .exact za
 have hs:=jep hf;refine rc jeb ?_;refine run ?_;refine loop ⟨[25,23,24,3],[3],[],[]⟩ (fun s:Nat×Rgs=>s.1<=l.length/\Low s.2 s.1/\da s.2=0) (fun s=>l.length-s.1) (fun s=>⟨176,[(25,.v (vi s.1)),(23,.v (evts l)),(24,.v (vi l.length)),(3,.p 3 0)],[(3,.var s.2.cs)],[]⟩) (0,aj) ⟨vj _,gj 0,jdz⟩ ?_;rintro⟨k,r⟩ ⟨hk,hlow,hc⟩
 show aw _ _ _ ⟨176,[(25,.v (vi k)),(23,.v (evts l)),(24,.v (vi l.length)),(3,.p 3 0)],[(3,.var r.cs)],[]⟩ _
 dsimp only at hk hlow hc
 by_cases hlt:k<l.length
 .obtain⟨e,he,-,hm⟩:=af hlt;have hap:=jdp L hlow omq (hs e hm);rw[jog hc] at hap;have hgood:=jrf (e:=e) hlow (hs e hm);have hbad:=qus (r:=r) (e:=e);obtain⟨x,hx⟩:∃x,(appl r e).1=x:=⟨_,rfl⟩;obtain⟨y,hy⟩:∃y,(appl r e).2=y:=⟨_,rfl⟩;rw[hx,hy] at hap;rw[hx,hy] at hgood hbad;clear hx hy;refine rcW he hap ?_;by_cases h0:y=0
  case neg=>
   have hz:x.ofs.length=0/\x.fls.length=0/\x.pls.length=0:=by rw[hbad h0];exact⟨rfl,rfl,rfl⟩
   clear hap hgood hbad;refine runW (ai (vf h0) hz) ?_;exact zbv
  have hE:=hgood h0;have hck:=jgk L x (cg hE.low omq);rw[hE.good] at hck;have h1:=hE.chg;have h2:=hE.le;have h3:=hE.keep.fls.1;have h4:=hE.keep.cks;have h5:=hE.keep.dps;obtain⟨t,ht⟩:=hE.keep.crs;have h6:r.crs.length<=x.crs.length:=by rw[ht,vr];omega
  clear hap hgood hbad;have g1:=(cg hlow omq).crs.1;have g2:=(cg hlow omq).fls.1;refine rcW h0 hck ?_;refine runW h1 ?_;refine dl ⟨[109,107,108,25,23,24,3,6],[3,6],[],[]⟩ (fun i:Nat=>i<=r.crs.length) (fun i=>r.crs.length-i) (fun i=>[(109,.v (vi i))]) 0 (vj _) ?_;intro i hi;by_cases hlt2:i<r.crs.length
  .obtain⟨c,hc1,-,hcm⟩:=af hlt2;have hc2:x.crs[i]?=some c:=by rw[ht,xp hlt2];exact hc1
   refine rcW (ai hc1 hc2) (jty c ((cg hlow omq).crs.2 c hcm).1) ?_;refine run ?_;exact zcn
  refine run ?_;refine dl ⟨[126,124,125,25,23,24,3,6],[3,6],[],[]⟩ (fun i:Nat=>i<=r.fls.length) (fun i=>r.fls.length-i) (fun i=>[(126,.v (vi i))]) 0 (vj _) ?_;intro i hi;by_cases hlt2:i<r.fls.length
  .obtain⟨o,ho,-,-⟩:=af hlt2;obtain⟨u,hu,s1,s2,s3,s4⟩:=hE.keep.fls.2 i o ho;refine runW (ai (ai ho hu) (ai (ai s1 s2) (ai s3 s4))) ?_;exact zcn
  refine run ?_;exact zq
 exact za
end Go.Arc
