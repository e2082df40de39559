/- A part of this claim. -/
import Derived.Test.YtfbbflhnhmphiaaGreatDoorBaK
import Derived.Test.YtfbbflhnhmphiaaGreatDoorBaG
set_option maxHeartbeats 8000000
set_option maxRecDepth 100000
namespace Go.Arc
open Go.Ab Go.RowKit Go.Proofs Tryz
variable {T : Lay}
variable {l:List Rul}{q:List Int}{i:Nat}{n:Int}{d:Int}{α:Type}{f:α->List V}{x:Ofc}{z:Nat}{e:Int}
def Hide(p:Prop):Prop:=p
theorem gR {p q r:Prop} (hr:r) (h:q) (e:r->Hide q->p:=by
  intro hr z;refine ax hr ?_
  try simp only[xg,xa,vz,bn,bq,xaq]
  exact z):p:=e hr h
theorem gM {p q r:Prop} {g:FuncId} {cs cs':List V} {rv:TV} (hr:r) (hD:DenM prog T g cs [.p 999999 0] cs' rv) (h:q) (e:r->DenM prog T g cs [.p 999999 0] cs' rv->Hide q->p:=by
  intro hr hD z;apply viaA
  .repeat' (first|with_reducible apply yh|(intro hk;exact dx 999001 hD hk))
  refine gR hr ?_
  exact z):p:=e hr hD h
theorem gD {p q r:Prop} {g:FuncId} {vs:List V} {v:V} (hr:r) (hD:Den prog T g vs v) (h:q) (e:r->Den prog T g vs v->Hide q->p:=by
  intro hr hD z;apply viaA
  .repeat' (first|with_reducible apply yh|(intro hk;exact call hD hk))
  refine gR hr ?_
  exact z):p:=e hr hD h
theorem qdy{cs0 cs:List V}(h:Wks cs0 cs):WkB (.var cs0) (.var cs):=by
 have:=WkB.var (ex:=[]) (nm:=none) (nm':=none) (kk:=none) (kk':=none) h (.inl rfl)
 rwa [xd] at this
abbrev rdC(ns:List Int)(ts:List Str)(d:Int):List V:=[ints ns,strs ts,vi d]
theorem bo(n:Int)(ns:List Int)(ts:List Str)(d:Int)(hl:ns.length<=100):DenM prog T 161 (rdC (n::ns) ts d) [.p 999999 0] (rdC ns ts d) (.v (vi n)):=by
 refine rl follows (fun args w=>call161 args w) func161 rfl 19 rfl rfl ?_
 show aw _ _ _ (St.mk 19 [(0,.p 999999 0)] [(999999,.var [.slice 1 ([vi n]::ns.map Cint),strs ts,vi d])] []) _
 have ht:(ns.map Cint).take ns.length=ns.map Cint:=ye smq;refine runW ht ?_;exact ja (.v (.refl _))
theorem fu(s:Str)(ns:List Int)(ts:List Str)(d:Int)(hl:ts.length<=100):DenM prog T 163 (rdC ns (s::ts) d) [.p 999999 0] (rdC ns ts d) (.v (.str s)):=by
 refine rl follows (fun args w=>call163 args w) func163 rfl 19 rfl rfl ?_
 show aw _ _ _ (St.mk 19 [(0,.p 999999 0)] [(999999,.var [ints ns,.slice 1 ([.str s]::ts.map Cst),vi d])] []) _
 have ht:(ts.map Cst).take ts.length=ts.map Cst:=ye smq;refine runW ht ?_;exact ja (.v (.refl _))
theorem jxu(ns:List Int)(ts:List Str)(d:Int)(hl:ns.length<=100):DenM prog T 165 (rdC ns ts d) [.p 999999 0] (rdC [] ts d) (.v (ints ns)):=by
 have hc:=(rp (T:=T) ns omq).den;refine bx follows (fun args w=>call165 args w) func165 rfl 13 rfl rfl ?_;refine rc hc ?_;refine run ?_
 exact finS (fun x hx=>by
  rw[xn.1 hx]
  exact⟨_,rfl,qdy (.cons (.nil 1) (.cons (.refl _) (.cons (.refl _) .nil)))⟩) (.v (.refl _))
theorem jbt(a b:Int)(ns:List Int)(ts:List Str)(d:Int)(hl:ns.length<=90):DenM prog T 162 (rdC (a::b::ns) ts d) [.p 999999 0] (rdC ns ts d) (.v (span a b)):=by
 refine rl follows (fun args w=>call162 args w) func162 rfl 8 rfl rfl ?_;refine run ?_;refine dx 999999 (bo a (b::ns) ts d zep) ?_;refine run ?_;refine dx 999999 (bo b ns ts d omq) ?_;refine run ?_;exact ja (.v (.refl _))
theorem jf1{α:Type}{cs:α->List V}{z:Nat}(hz:∀x,(cs x).length=z){off:Nat}{v:V}(ho:off<z){x y:α}(hy:cs y=(cs x).set off v):∀ {l:List α} {k:Nat},l[k]?=some x->
  ((l.map cs).flatten).take (k*z+off)++[v]++((l.map cs).flatten).drop (k*z+off+1)=((l.set k y).map cs).flatten
 |[],k,h=>by simp at h
 |w::r,0,h=>by
  simp only[List.getElem?_cons_zero,vk] at h;subst h;simp only[vy,List.flatten_cons,List.set_cons_zero,xcs,xl];rw[hy,xd3,ve (by rw[hz];exact ho),xd9 (by rw[hz];omega),xd4 (by rw[hz];omega)];simp
 |w::r,k+1,h=>by
  simp only[List.getElem?_cons_succ] at h;have ih:=jf1 hz ho hy h;simp only[vy,List.flatten_cons,List.set_cons_succ];rw[<- ih,show (k+1)*z+off=(cs w).length+(k*z+off) by rw[hz,Nat.succ_mul];omega,show (cs w).length+(k*z+off)+1=(cs w).length+(k*z+off+1) from rfl,xd2,xbv];simp only[xb]
abbrev jfg(l:List Rul)(n d:Int):V:=.tup [ruls (nr l n d),vi (iw l n d)]
theorem jir(h:iw l n d=e)(hne:e≠0):jfg l n d=.tup [ruls [],vi e]:=by
 unfold jfg nr;rw[vd (by rw[h];exact hne),h]
theorem qwx(h:iw l n d=0)(hi:gt l n=i):jfg l n d=.tup [ruls (cutR l i d),vi 0]:=by
 unfold jfg nr;rw[ve h,h,hi,Int.toNat_natCast]
theorem qwz(h:goodR l=false):iw l n d=1:=by unfold iw;rw[ve h]
theorem qwy(h:goodR l=true)(h7:gt l n<0):iw l n d=7:=by unfold iw;rw[vd zey,ve h7]
theorem qsc{x:Rul}(h:goodR l=true)(hi:gt l n=i)(hx:l[i]?=some x):iw l n d=if d<=x.frm\/x.til<d then 2 else 0:=by
 unfold iw;rw[vd zey,vd omq,hi,Int.toNat_natCast,hx]
theorem qho(l:List Rul)(n:Int):gt l n<0\/∃(i:Nat) (x:Rul),gt l n=i/\i<l.length/\l[i]?=some x/\x.id=n:=by
 rcases jf4 (pm n) l with⟨h,-⟩|⟨k,x,h1,h2,h3,-,h4⟩
 .left;show ix (pm n) l<0;rw[h];decide
 right;exact⟨k,x,h1,h2,h3,by simpa [pm] using h4⟩
theorem flatR:∀(l:List Rul),∀e∈l.map Rul.cs,∀c∈e,c.flat=true:=by
 intro l e he c hc;obtain⟨n,-,rfl⟩:=ya.1 he;simp only[Rul.cs,vt,xbh,xx] at hc;rcases hc with rfl|rfl|rfl|rfl|rfl|rfl|rfl|rfl<;>rfl
theorem qtt(l:List Rul)(i:Nat)(d:Int):(cutR l i d).length=l.length:=by
 unfold cutR;split
 .exact yc
 rfl
theorem qtd(L:LibC T)(l:List Rul)(n d:Int)(hl:jdb l):Den prog T 168 [ruls l,vi n,vi d] (jfg l n d):=by
 have hl0:=hl.1;refine ab call168 func168 51 ?_;refine rc (jl3 L l hl) ?_;by_cases hg0:¬(ia l).2=0
 .rw[jir (e:=1) (qwz (by simp[goodR,hg0])) dcq];refine run ?_;exact finW (lc (.nil 8))
 have hz:(ia l).2=0:=yt.1 hg0;have hg:goodR l=true:=by simp[goodR,hz]
 refine rc (jxt l n hl0) ?_;rcases qho l n with h7|⟨i,x,hi,hlt,hx,-⟩
 .rw[jir (qwy hg h7) dcq];refine run ?_;exact finW (lc (.nil 8))
 rw[hi];have he:=qsc (d:=d) hg hi hx;by_cases a1:d<=x.frm
 .rw[ve (.inl a1)] at he;rw[jir he dcq];refine runW hx ?_;exact finW (lc (.nil 8))
 by_cases a2:x.til<d
 .rw[ve (.inr a2)] at he;rw[jir he dcq];refine runW hx ?_;exact finW (lc (.nil 8))
 rw[vd omq] at he;rw[qwx he hi];refine runW hx ?_;refine pu ((qgn l hl0).new krq dcq (flatR l)) ?_ ?_
 .intro hz;have:l=[]:=by simpa using hz
  subst this;simp at hlt
 intro _;have hcut:=jf1 (cs:=Rul.cs) (z:=8) (fun _=>rfl) (off:=7) (v:=vi d) dcq (x:=x) (y:= { x with til:=d }) rfl hx;have hcu:cutR l i d=l.set i { x with til:=d } := by unfold cutR;rw[hx]
 have hcl:=ct (cs:=Rul.cs) (z:=8) (fun _=>rfl) l;have hcc:=il (cs:=Rul.cs) (z:=8) (fun _=>rfl) (cutR l i d);rw[qtt,hcu] at hcc;rw[hcu];have hfl:=ct (cs:=Rul.cs) (z:=8) (fun _=>rfl) (l.set i { x with til:=d });rw[yc] at hfl;generalize (l.map Rul.cs).flatten=C at hcl hcut;refine run ?_;refine jd4 (Wk.of ?_) ?_
 .rw[show ruls (l.set i { x with til:=d })=.slice 8 ((l.set i { x with til:=d }).map Rul.cs) from rfl,<- hcc,<- hcut]
 rw[hcut,hfl];omega
abbrev jfw(l:List Ofc)(n d:Int)(q:List Int):V:=.tup [ofcs (endO l n d q),vi (kg l n d q)]
theorem jf7{l:List Ofc}(h:kg l n d q=e)(hne:e≠0):jfw l n d q=.tup [ofcs [],vi e]:=by
 unfold jfw endO;rw[vd (by rw[h];exact hne),h]
theorem qx0{l:List Ofc}(h:kg l n d q=0)(hi:ii l n=i):jfw l n d q=.tup [ofcs (cutO l i d q),vi 0]:=by
 unfold jfw endO;rw[ve h,h,hi,Int.toNat_natCast]
theorem qsd{l:List Ofc}(h:goodO l=true)(hi:ii l n=i)(hx:l[i]?=some x):kg l n d q=if d<=x.frm\/x.til<d then 2 else(fm (cutO l i d q)).2:=by
 unfold kg;rw[vd zey,vd omq,hi,Int.toNat_natCast,hx]
theorem qhp(l:List Ofc)(n:Int):ii l n<0\/∃(i:Nat) (x:Ofc),ii l n=i/\i<l.length/\l[i]?=some x/\x∈l:=by
 rcases jf4 (isId n) l with⟨h,-⟩|⟨k,x,h1,h2,h3,h4,-⟩
 .left;show ix (isId n) l<0;rw[h];decide
 right;exact⟨k,x,h1,h2,h3,vp h3⟩
theorem qc4{l:List Ofc}(hx:l[i]?=some x)(d:Int)(q:List Int):cutO l i d q=l.set i { x with til:=d,nxt:=q } := by unfold cutO;rw[hx]
theorem qtu{l:List Ofc}(hl:nw l)(d:Int)(hq:q.length<=1048576):nw (cutO l i d q):=by
 cases hx:l[i]? with
 |none=>unfold cutO;rw[hx];exact hl
 |some x=>
  rw[qc4 hx];refine⟨by rw[yc];exact hl.1,fun o ho=>?_⟩;rcases xbw ho with h|rfl
  .exact hl.2 o h
  exact⟨(hl.2 x (vp hx)).1,hq⟩
theorem qte(L:LibC T)(l:List Ofc)(n d:Int)(q:List Int)(hl:nw l)(hq:q.length<=1048576):Den prog T 164 [ofcs l,vi n,vi d,ints q] (jfw l n d q):=by
 have hl0:=hl.1;refine ab call164 func164 86 ?_;refine rc (jdw L l hl) ?_;by_cases hg0:¬(fm l).2=0
 .rw[jf7 (e:=1) (by unfold kg;rw[ve (by simp[goodO,hg0])]) dcq];refine run ?_;exact finW (lc (.nil 5))
 have hz:(fm l).2=0:=yt.1 hg0;have hg:goodO l=true:=by simp[goodO,hz]
 refine rc (jmb l n hl0) ?_;rcases qhp l n with h7|⟨i,x,hi,hlt,hx,hm⟩
 .rw[jf7 (e:=7) (by unfold kg;rw[vd (by simp[hg]),ve h7]) dcq];refine run ?_;exact finW (lc (.nil 5))
 rw[hi];have he:=qsd (d:=d) (q:=q) hg hi hx;by_cases a1:d<=x.frm
 .rw[ve (.inl a1)] at he;rw[jf7 he dcq];refine runW hx ?_;exact finW (lc (.nil 5))
 by_cases a2:x.til<d
 .rw[ve (.inr a2)] at he;rw[jf7 he dcq];refine runW hx ?_;exact finW (lc (.nil 5))
 rw[vd omq] at he;refine runW hx ?_;refine fg (jda 48 (jsy l hl0) ?_ ?_)
 .rintro rr (⟨-,hz,-⟩|⟨_,_,hro,_⟩)
  .have hz:l=[]:=by simpa using hz
   subst hz;simp at hlt
  cases hro
 rintro bk rr (⟨hro,-⟩|⟨b,c,hro,hc1,hc2,rfl⟩) hnm
 .cases hro
 cases hro;simp only[vm] at hc1;simp only[vm];have hw:=ct (cs:=Ofc.cs) (z:=5) (fun _=>rfl) l;refine runW ac ?_;refine loop ⟨[51,0,1,2,3,12,13,50],[48],[],[]⟩ (fun k:Nat=>k<=l.length) (fun k=>l.length-k) (fun k=>⟨86,[(51,.v (vi k)),(0,.v (ofcs l)),(1,.v (vi n)),(2,.v (vi d)),(3,.v (ints q)),(12,.v (vi i)),(13,.v (.val (.slice (some ⟨b,0,none⟩) l.length c))),(50,.v (vi l.length))],[(48,.var (l.map Ofc.cs).flatten (some b) (some (136,5,c)))],[]⟩) 0 (vj _) ?_;intro k hk;by_cases hkl:k<l.length
 .obtain⟨o,ho,-,hom⟩:=af hkl;have g4:=om (cs:=Ofc.cs) (z:=5) (fun _=>rfl) ho (off:=4) rfl;have s4:=tx (cs:=Ofc.cs) (z:=5) (fun _=>rfl) ho (off:=4) rfl;obtain⟨W,hW⟩:∃W,(l.map Ofc.cs).flatten=W:=⟨_,rfl⟩;simp only[hW] at hw g4 s4 ⊢;refine rcW (ai (ai g4 s4) (ai ed ac)) (rp o.nxt (hl.2 o hom).2).den ?_;refine runW (ai (ai g4 s4) (ai ed ac)) ?_;exact round (k+1) hkl omq
 have hk2:k=l.length:=omq;subst hk2;have p3:=jf1 (cs:=Ofc.cs) (z:=5) (fun _=>rfl) (off:=3) (v:=vi d) dcq (x:=x) (y:= { x with til:=d }) rfl hx;have hx1:(l.set i { x with til:=d })[i]?=some { x with til:=d } := by rw[xdc hlt]
 have p4:=jf1 (cs:=Ofc.cs) (z:=5) (fun _=>rfl) (off:=4) (v:=ints q) dcq (x:= { x with til:=d }) (y:= { x with til:=d,nxt:=q }) rfl hx1;rw[List.set_set] at p4;have hcu:=qc4 hx d q;have hlc:(cutO l i d q).length=l.length:=by rw[hcu,yc]
 have hw1:=ct (cs:=Ofc.cs) (z:=5) (fun _=>rfl) (l.set i { x with til:=d });have hw2:=ct (cs:=Ofc.cs) (z:=5) (fun _=>rfl) (cutO l i d q);have hch:=il (cs:=Ofc.cs) (z:=5) (fun _=>rfl) (cutO l i d q);rw[<- hcu] at p4;rw[yc] at hw1;rw[hlc] at hw2 hch;obtain⟨W,hW⟩:∃W,(l.map Ofc.cs).flatten=W:=⟨_,rfl⟩;obtain⟨W1,hW1⟩:∃W1,((l.set i { x with til:=d }).map Ofc.cs).flatten=W1:=⟨_,rfl⟩;obtain⟨W2,hW2⟩:∃W2,((cutO l i d q).map Ofc.cs).flatten=W2:=⟨_,rfl⟩;simp only[hW,hW1,hW2] at hw hw1 hw2 p3 p4 hch ⊢;refine rcW ac (rp q hq).den ?_;refine qdz (qcr 16) (ai (ai p3 p4) (ai ed ac)) ?_;refine fj (st':=⟨86,[(13,.v (.val (.slice (some ⟨b,0,none⟩) l.length c)))],[(48,.var W2 (some b) (some (136,5,c)))],[]⟩) ⟨[13],[48],[],[]⟩ rfl ?_;refine qy6 13 ?_;rw[qbk (id:=48) rfl (by simp[dj,eh,Blk.nm,nmOf,ay]) rfl hc1 omq,hch];refine rc (jdw L (cutO l i d q) (qtu hl d hq)) ?_;by_cases hz:(fm (cutO l i d q)).2=0
 .rw[qx0 (he.trans hz) hi];refine runW hz ?_;exact fin rfl
 rw[jf7 he hz];refine runW (vf hz) ?_;exact finW (lc (.nil 5))
theorem ij {p:Prop} (e:p:=by
  refine⟨fun x hx=>?_,trivial,_,rfl,.v (.refl _)⟩;simp only[vt,yl,xx] at hx;rcases hx with rfl|rfl
  .exact⟨_,rfl,WkB.self _ _ _⟩
  .exact⟨_,rfl,WkB.self _ _ _⟩):p:=e
theorem ql3(l:List Fil)(id d:Int)(hl:ri l):Den prog T 167 [fils l,vi id,vi d] (.tup [fils (clsL l id d),vi (clsE l id d)]):=by
 rcases jtm l id with h|⟨i,f,hi,-,hf,-⟩
 .have he:clsE l id d=7:=by unfold clsE;rw[ve h]
  have hL:clsL l id d=[]:=by unfold clsL;rw[he];rfl
  rw[he,hL];exact qid l id d hl h
 have hk:=qp8 (T:=T) l id d hl hi hf;have he:clsE l id d=lw f d:=by unfold clsE;rw[vd omq,hi,Int.toNat_natCast,hf]
 have hL:clsL l id d=if lw f d=0 then l.set i (pe f d) else []:=by unfold clsL;rw[he,hi,Int.toNat_natCast,hf]
 unfold jfn at hk;rw[he,hL];by_cases h0:lw f d=0
 .rw[ve h0] at hk ⊢;rw[h0];exact hk
 rw[vd h0] at hk ⊢;exact hk
theorem qp5(L:LibC T)(l:List Fil)(id:Int)(n:Note)(hl:ri l)(hn:n.Fit):Den prog T 166 [fils l,vi id,.agg n.cs] (.tup [fils (gq l id n),vi (nh l id n)]):=by
 rcases jtm l id with h|⟨i,f,hi,-,hf,-⟩
 .have he:nh l id n=7:=by unfold nh;rw[ve h]
  have hL:gq l id n=[]:=by unfold gq;rw[he];rfl
  rw[he,hL];exact qpb l id n hl h
 have hk:=qxp (T:=T) L l id n hl hn hi hf;have he:nh l id n=addE f n:=by unfold nh;rw[vd omq,hi,Int.toNat_natCast,hf]
 have hL:gq l id n=if addE f n=0 then l.set i (cn f n) else []:=by unfold gq;rw[he,hi,Int.toNat_natCast,hf];rfl
 unfold jg4 at hk;rw[he,hL];by_cases h0:addE f n=0
 .rw[ve h0] at hk ⊢;rw[h0];exact hk
 rw[vd h0] at hk ⊢;exact hk
abbrev rgB(r:Rgs)(ns:List Int)(ts:List Str)(d:Int):List (Nat×Blk):=[(999000,.var r.cs),(999001,.var (rdC ns ts d))]
abbrev rgA:List TV:=[.p 999000 0,.p 999001 0]
theorem qf1(L:LibC T)(r:Rgs)(h:r.Fit)(a b:Int)(q:List Int)(d:Int)(hq:q.length<=60):DenS prog T 82 (rgB r (a::b::q) [] d) [] rgA (rgB { r with ofs:=endO r.ofs a b q } [] [] d) [] (.v (vi (kg r.ofs a b q))):=by
 have hc:=qte L r.ofs a b q h.ofs omq;refine bx follows (fun args w=>call82 args w) func82 rfl 23 rfl rfl ?_;refine runD trivial ?_;refine aq (gd 19 [[0,0,0],[1,1,0],[3,2,0],[7,3,0],[15,5,0],[47,7,0],[175,9,0],[687,4,1,6,0],[751,4,1,8,2],[703,6,0,0,0,0],[767,8,2,0,0,0],[1007,4,1,10,0],[2031,4,1,0,0,0],[1023,10,0,0,0,0],[2047,11,0,0,0,0],[4095,12,0],[8191,13,1,14,0],[24575,13,2,0,0,0],[16383,15,0],[49151,16,1],[32767,15,1],[114687,14,1,17,2],[65535,16,0],[131071,17,1,0,0,0],[245759,14,0,0,0,0],[262143,18,0,0,0,0],[524287]]) ?_;exact z9
theorem qf2(r:Rgs)(h:r.Fit)(a d:Int):DenS prog T 86 (rgB r [a] [] d) [] rgA (rgB { r with fls:=clsL r.fls a d } [] [] d) [] (.v (vi (clsE r.fls a d))):=by
 have hc:=ql3 (T:=T) r.fls a d h.fls;refine bx follows (fun args w=>call86 args w) func86 rfl 23 rfl rfl ?_;refine runD trivial ?_;refine aq (gd 19 [[0,0,0],[1,1,0],[3,2,0],[7,3,0],[15,5,0],[47,7,0],[175,8,0],[431,9,0],[943,4,0,6,2,10,1],[959,6,4,10,2],[1967,4,1,6,2],[1007,4,2,10,1],[1983,6,2,0,0,0],[2031,4,1,0,0,0],[1023,10,0,0,0,0],[2047,11,0,0,0,0],[4095,12,0],[8191,13,0,14,1],[16383,15,1],[24575,13,1,0,0,0],[49151,16,1],[32767,15,1],[114687,14,1,17,2],[65535,16,0],[131071,17,1,0,0,0],[245759,14,0,0,0,0],[262143,18,0,0,0,0],[524287]]) ?_;exact zbf
theorem qh1(L:LibC T)(r:Rgs)(h:r.Fit)(a b c d:Int)(s:Str)(hs:s.length<=1048576):DenS prog T 85 (rgB r [a,b,c] [s] d) [] rgA (rgB { r with fls:=gq r.fls a ⟨s,b,c,d⟩ } [] [] d) [] (.v (vi (nh r.fls a ⟨s,b,c,d⟩))):=by
 have hc:=qp5 (T:=T) L r.fls a ⟨s,b,c,d⟩ h.fls hs;refine bx follows (fun args w=>call85 args w) func85 rfl 33 rfl rfl ?_;refine run ?_;refine dx 999001 (bo a [b,c] [s] d smq) ?_;refine runD trivial ?_;refine aq (gd 26 [[0,0,0],[1,1,0],[3,2,0],[7,3,0],[15,5,0],[47,6,0],[111,8,0],[367,10,0],[1391,13,0],[9583,14,0],[25967,15,0],[58735,4,1,7,2,16,0],[124271,4,2,7,5],[58751,7,2,16,1],[58863,4,1,9,2,16,3],[124287,7,5,0,0,0],[58879,9,3,16,4],[59375,4,2,11,4,16,1],[124399,4,2,9,0],[124911,4,3,11,6],[59391,11,3,16,2],[124415,9,1,0,0,0],[61423,4,1,12,2,16,3],[124927,11,5,0,0,0],[61439,12,2,16,4],[65519,4,1,16,2],[126959,4,2,12,1],[65535,16,2,0,0,0],[131055,4,1,17,2],[126975,12,0,0,0,0],[131071,17,1,0,0,0],[262127,4,0,0,0,0],[262143,18,0,0,0,0],[524287,19,0],[1048575,20,1,21,0],[3145727,20,2,0,0,0],[2097151,22,0],[6291455,23,1],[4194303,22,1],[14680063,21,2,24,1],[8388607,23,1],[31457279,21,1,0,0,0],[16777215,24,0,0,0,0],[33554431,25,0,0,0,0],[67108863]]) ?_;refine gR trivial ?_;refine gM trivial (fu s [b,c] [] d smq) ?_;refine gM trivial (bo b [c] [] d smq) ?_;refine gM trivial (bo c [] [] d smq) ?_;refine gD trivial hc ?_;exact ij
theorem qgx(L:LibC T)(r:Rgs)(h:r.Fit)(a b d:Int):DenS prog T 88 (rgB r [a,b] [] d) [] rgA (rgB { r with rls:=nr r.rls a b } [] [] d) [] (.v (vi (iw r.rls a b))):=by
 have hc:=qtd (T:=T) L r.rls a b h.rls;refine bx follows (fun args w=>call88 args w) func88 rfl 21 rfl rfl ?_;exact zd
theorem qer(L:LibC T)(r:Rgs)(h:r.Fit)(a b d:Int):DenS prog T 90 (rgB r [a,b] [] d) [] rgA (rgB { r with hls:=relL r.hls a b } [] [] d) [] (.v (vi (relE r.hls a b))):=by
 have hc:=qi5 (T:=T) L r.hls a b h.hls;refine bx follows (fun args w=>call90 args w) func90 rfl 21 rfl rfl ?_;exact zd
theorem qgw(L:LibT T)(r:Rgs)(h:r.Fit)(a b:Int)(q:List Int)(d:Int)(hq:q.length<=60)(hl:r.pps.length<1048576):DenS prog T 93 (rgB r (a::b::q) [] d) [] rgA (rgB (nc r ⟨a,d,b,q,1048576⟩).1 [] [] d) [] (.v (vi (nc r ⟨a,d,b,q,1048576⟩).2)):=by
 have hc:=qi7 L r h ⟨a,d,b,q,1048576⟩ (by show q.length<=1048576;omega) hl;refine bx follows (fun args w=>call93 args w) func93 rfl 26 rfl rfl ?_;refine runD trivial ?_;refine aq (gd 22 [[0,0,0],[1,1,0],[3,2,0],[7,4,0],[23,6,0],[87,8,0],[343,9,0],[855,10,0],[1879,12,0],[5975,3,1,5,0,11,2],[6007,3,2,7,3,11,5],[5983,5,1,11,3],[8023,3,2,5,3],[6015,7,5,11,3],[6135,3,4,11,3,13,5],[8031,5,1,0,0,0],[8055,3,0,7,1],[8063,7,5,0,0,0],[8183,3,4,13,3],[6143,11,3,13,1],[14327,3,0,11,1],[14335,11,2,0,0,0],[16375,3,1,14,2],[8191,13,0,0,0,0],[16383,14,1,0,0,0],[32759,3,0,0,0,0],[32767,15,0,0,0,0],[65535,16,0],[131071,17,0,18,1],[262143,19,2],[393215,17,0,0,0,0],[524287,19,2],[786431,18,1,20,0],[1835007,18,1,0,0,0],[1048575,20,0,0,0,0],[2097151,21,0,0,0,0],[4194303]]) ?_;exact z9
theorem qgz(L:LibT T)(r:Rgs)(h:r.Fit)(a b d:Int)(hl:r.aps.length<1048576):DenS prog T 94 (rgB r [a,b] [] d) [] rgA (rgB (nv r ⟨a,d,b⟩).1 [] [] d) [] (.v (vi (nv r ⟨a,d,b⟩).2)):=by
 have hc:=qie L r h ⟨a,d,b⟩ hl;refine bx follows (fun args w=>call94 args w) func94 rfl 24 rfl rfl ?_;refine runD trivial ?_;refine aq (gd 20 [[0,0,0],[1,1,0],[3,2,0],[7,4,0],[23,6,0],[87,8,0],[343,9,0],[855,10,0],[1879,3,0,5,2,11,1],[1887,5,3,11,4],[3927,3,3,5,1],[1911,3,1,7,3,11,0],[3959,3,3,7,5],[1919,7,3,11,2],[3935,5,1,0,0,0],[2039,3,1,11,2],[3967,7,2,0,0,0],[2047,11,1,0,0,0],[4087,3,0,12,1],[4095,12,1,0,0,0],[8183,3,0,0,0,0],[8191,13,0,0,0,0],[16383,14,0],[32767,15,1,16,0],[98303,15,1,0,0,0],[65535,17,1],[131071,17,2],[196607,16,1,18,0],[458751,16,1,0,0,0],[262143,18,0,0,0,0],[524287,19,0,0,0,0],[1048575]]) ?_;refine gR trivial ?_;refine gM trivial (bo a [b] [] d smq) ?_;refine gM trivial (bo b [] [] d smq) ?_;refine gD trivial hc ?_;exact ij
theorem qfz(L:LibT T)(r:Rgs)(h:r.Fit)(a d:Int):DenS prog T 95 (rgB r [a] [] d) [] rgA (rgB (wdrR r a d).1 [] [] d) [] (.v (vi (wdrR r a d).2)):=by
 have hc:=qgr L r h a d;refine bx follows (fun args w=>call95 args w) func95 rfl 21 rfl rfl ?_;refine runD trivial ?_;refine aq (gd 17 [[0,0,0],[1,1,0],[3,2,0],[7,4,0],[23,6,0],[87,7,0],[215,8,0],[471,3,0,5,2,9,1],[479,5,4,9,2],[983,3,1,5,2],[503,3,2,9,1],[991,5,2,0,0,0],[1015,3,1,0,0,0],[511,9,0,0,0,0],[1023,10,0,0,0,0],[2047,11,0],[4095,12,1,13,0],[12287,12,2,0,0,0],[8191,14,0],[24575,13,1,15,2],[16383,14,0],[32767,15,1,0,0,0],[57343,13,0,0,0,0],[65535,16,0,0,0,0],[131071]]) ?_;exact zbf
theorem qgy(L:LibT T)(r:Rgs)(h:r.Fit)(a d:Int)(hl:r.crs.length<1048576):DenS prog T 96 (rgB r [a] [] d) [] rgA (rgB (desP r a d).1 [] [] d) [] (.v (vi (desP r a d).2.2)):=by
 have hc:=qib L r h a d hl;refine bx follows (fun args w=>call96 args w) func96 rfl 22 rfl rfl ?_;refine runD trivial ?_;refine aq (gd 18 [[0,0,0],[1,1,0],[3,2,0],[7,4,0],[23,6,0],[87,7,0],[215,8,0],[471,3,0,5,2,9,1],[479,5,4,9,2],[983,3,1,5,2],[503,3,2,9,1],[991,5,2,0,0,0],[1015,3,1,0,0,0],[511,9,0,0,0,0],[1023,10,0,0,0,0],[2047,11,0],[4095,12,1,13,0,14,2],[12287,12,4,14,3],[8191,15,1],[20479,12,3,13,1],[40959,13,3,14,5,16,4],[28671,12,5,0,0,0],[16383,15,1],[24575,15,2],[49151,14,3,16,5],[106495,13,4,14,3],[57343,13,1,16,2],[32767,15,0],[65535,16,2,0,0,0],[122879,13,1,0,0,0],[114687,14,0,0,0,0],[131071,17,0,0,0,0],[262143]]) ?_;exact zbf
theorem qdg {a b:List V} {p:Prop} (hw:Wks a b) (e:Wks a b->p:=by
  intro hw;refine⟨fun x hx=>?_,trivial,_,rfl,.v (.refl _)⟩;simp only[vt,yl,xx] at hx;rcases hx with rfl|rfl
  .exact⟨_,rfl,qdy hw⟩
  .exact⟨_,rfl,WkB.self _ _ _⟩):p:=e hw
theorem qaj{l:List (List V)}{e e':List V}(hz:∀x∈l++[e'],x.length=z)(ho:∀x∈l++[e'],∀c∈x,c.one=true)(he:Wks e e'):Wk (.slice z (l++[e])) (.slice z (l++[e'])):=by
 have hget:∀ {a b:List V},Wks a b->∀(j:Nat) v u,a[j]?=some v->b[j]?=some u->Wk v u:=by
  intro a b h
  induction h with
  |nil=>intro j v u h1;simp at h1
  |cons h _ ih=>
   intro j v u h1 h2;cases j with
   |zero=>simp at h1 h2;subst h1 h2;exact h
   |succ j=>simp at h1 h2;exact ih j v u h1 h2
 refine .slice smq hz ho fun i j a b v c h1 h2 h3 h4=>?_;by_cases hi:i<l.length
 .rw[xp hi] at h1 h2;rw[h1] at h2;cases h2;rw[h3] at h4;cases h4;exact .refl _
 rw[yb omq] at h1 h2;cases hk:i-l.length with
 |zero=>
  rw[hk] at h1 h2;simp at h1 h2;subst h1 h2;exact hget he j v c h3 h4
 |succ k=>rw[hk] at h1;simp at h1
theorem qdv(h:∀x,(f x).length=z)(l:List α):∀x∈l.map f,x.length=z:=fun x hx=>by
 obtain⟨a,-,rfl⟩:=ya.1 hx;exact h a
theorem qb4(h:∀x,∀c∈f x,c.one=true)(l:List α):∀x∈l.map f,∀c∈x,c.one=true:=fun x hx=>by
 obtain⟨a,-,rfl⟩:=ya.1 hx;exact h a
theorem qvq(o:Ofc):∀c∈o.cs,c.one=true:=fun c hc=>by
 simp only[Ofc.cs,vt,yl,xx] at hc;rcases hc with rfl|rfl|rfl|rfl|rfl<;>rfl
theorem qvr(o:Fil):∀c∈o.cs,c.one=true:=fun c hc=>by
 simp only[Fil.cs,vt,yl,xx] at hc;rcases hc with rfl|rfl|rfl|rfl|rfl|rfl|rfl|rfl<;>rfl
theorem qyp(l:List Ofc)(a b c:Int)(s:Str):Wk (.slice 5 (l.map Ofc.cs++[[vi a,.str s,vi b,vi c,.val (.slice none 0 0)]])) (ofcs (l++[⟨a,s,b,c,[]⟩])):=by
 show Wk _ (.slice 5 ((l++[(⟨a,s,b,c,[]⟩:Ofc)]).map Ofc.cs))
 have h1:=qdv (f:=Ofc.cs) (z:=5) (fun _=>rfl) (l++[⟨a,s,b,c,[]⟩]);have h2:=qb4 (f:=Ofc.cs) qvq (l++[⟨a,s,b,c,[]⟩]);rw[xz] at h1 h2 ⊢;exact qaj h1 h2 (.cons (.refl _) (.cons (.refl _) (.cons (.refl _) (.cons (.refl _) (.cons (.nil 1) .nil)))))
theorem qyq(l:List Fil)(a b c d x:Int)(s t:Str):Wk (.slice 8 (l.map Fil.cs++[[vi a,vi b,vi c,vi x,.str s,.str t,vi d,.val (.slice none 0 0)]])) (fils (l++[⟨a,b,c,x,s,t,d,[]⟩])):=by
 show Wk _ (.slice 8 ((l++[(⟨a,b,c,x,s,t,d,[]⟩:Fil)]).map Fil.cs))
 have h1:=qdv (f:=Fil.cs) (z:=8) (fun _=>rfl) (l++[⟨a,b,c,x,s,t,d,[]⟩]);have h2:=qb4 (f:=Fil.cs) qvr (l++[⟨a,b,c,x,s,t,d,[]⟩]);rw[xz] at h1 h2 ⊢;exact qaj h1 h2 (.cons (.refl _) (.cons (.refl _) (.cons (.refl _) (.cons (.refl _) (.cons (.refl _) (.cons (.refl _) (.cons (.refl _) (.cons (.nil 4) .nil))))))))
theorem qf4(r:Rgs)(h:r.Fit)(a b c d:Int)(s:Str):DenS prog T 81 (rgB r [a,b,c] [s] d) [(136,[plc 999000 0])] rgA (rgB { r with ofs:=r.ofs++[⟨a,s,b,c,[]⟩] } [] [] d) [] (.v (vi 0)):=by
 have hl:=h.ofs.1;refine bx follows (fun args w=>call81 args w) func81 rfl 21 rfl rfl ?_;refine runD trivial ?_;refine aq (gd 17 [[0,0,0],[1,1,0],[3,2,0],[7,3,0],[15,5,0],[47,7,0],[175,9,0],[687,4,0,6,1],[703,6,2,0,0,0],[751,4,1,8,0],[1007,4,2,10,1],[767,8,1,0,0,0],[2031,4,1,11,2],[1023,10,0,0,0,0],[2047,11,1,0,0,0],[4079,4,0,12,1],[4095,12,1,0,0,0],[8175,4,0,0,0,0],[8191,13,0,0,0,0],[16383,14,0],[32767,15,0],[65535,16,0,0,0,0],[131071]]) ?_;refine gR trivial ?_;refine gM trivial (bo a [b,c] [s] d smq) ?_;refine gM trivial (jbt b c [] [s] d smq) ?_;refine gM trivial (fu s [] [] d smq) ?_;exact qdg (.cons (qyp r.ofs a b c s) (Wks.refl _))
theorem qg1(r:Rgs)(h:r.Fit)(a b c d:Int)(s t:Str):DenS prog T 84 (rgB r [a,b,c] [s,t] d) [(52,[plc 999000 2])] rgA (rgB { r with fls:=r.fls++[⟨a,b,d,1048576,s,t,c,[]⟩] } [] [] d) [] (.v (vi 0)):=by
 have hl:=h.fls.1;refine bx follows (fun args w=>call84 args w) func84 rfl 29 rfl rfl ?_;refine runD trivial ?_;refine aq (gd 25 [[0,0,0],[1,1,0],[3,2,0],[7,3,0],[15,5,0],[47,7,0],[175,9,0],[687,11,0],[2735,13,0],[10927,15,0],[43695,16,0],[109231,17,0],[240303,4,1,6,2,18,0],[502447,4,2,6,5],[240319,6,2,18,1],[240367,4,1,8,2,18,3],[502463,6,3,0,0,0],[240383,8,4,18,2],[240623,4,3,10,2,18,4],[502511,4,0,8,3],[502527,8,6,0,0,0],[241647,4,3,12,2,18,4],[240639,10,2,18,4],[502767,4,3,10,2],[245743,4,4,14,5,18,6],[241663,12,3,18,2],[503791,4,1,12,4],[502783,10,0,0,0,0],[503807,12,5,0,0,0],[245759,14,2,18,4],[262127,4,1,18,2],[507887,4,2,14,1],[262143,18,2,0,0,0],[524271,4,1,19,2],[507903,14,0,0,0,0],[524287,19,2,0,0,0],[1048559,4,1,20,0],[2097135,4,1,0,0,0],[1048575,20,0,0,0,0],[2097151,21,0,0,0,0],[4194303,22,0],[8388607,23,0],[16777215,24,0,0,0,0],[33554431]]) ?_;refine gR trivial ?_;refine gM trivial (bo a [b,c] [s,t] d smq) ?_;refine gM trivial (bo b [c] [s,t] d smq) ?_;refine gM trivial (bo c [] [s,t] d smq) ?_;refine gM trivial (fu s [] [t] d smq) ?_;refine gM trivial (fu t [] [] d smq) ?_;exact qdg (.cons (.refl _) (.cons (.refl _) (.cons (qyq r.fls a b d c 1048576 s t) (Wks.refl _))))
theorem qh0(r:Rgs)(h:r.Fit)(a b c e f g d:Int)(s t:Str):DenS prog T 87 (rgB r [a,b,c,e,f,g] [s,t] d) [(118,[plc 999000 3])] rgA (rgB { r with rls:=r.rls++[⟨a,s,t,b,decide (c=1),e,f,g⟩] } [] [] d) [] (.v (vi 0)):=by
 have hl:=h.rls.1;have hap:r.rls.map Rul.cs++[[vi a,.str s,.str t,vi b,vb (decide (c=1)),vi e,vi f,vi g]]=(r.rls++[(⟨a,s,t,b,decide (c=1),e,f,g⟩:Rul)]).map Rul.cs:=by simp
 refine bx follows (fun args w=>call87 args w) func87 rfl 30 rfl rfl ?_;refine runD trivial ?_;refine aq (gd 26 [[0,0,0],[1,1,0],[3,2,0],[7,3,0],[15,5,0],[47,7,0],[175,9,0],[687,12,0],[4783,14,0],[21167,16,0],[86703,18,0],[348847,4,0,6,1],[348863,6,1,0,0,0],[348911,4,0,8,1],[348927,8,1,0,0,0],[349167,4,0,10,1],[349183,10,1,0,0,0],[350191,11,1],[350207,11,1],[352239,4,0,13,1],[352255,13,1,0,0,0],[360431,4,0,15,1],[360447,15,1,0,0,0],[393199,4,0,17,1],[393215,17,2,0,0,0],[524271,4,1,19,0],[1048559,4,1,20,2],[524287,19,0,0,0,0],[1048575,20,2,0,0,0],[2097135,4,1,21,0],[4194287,4,1,0,0,0],[2097151,21,0,0,0,0],[4194303,22,0,0,0,0],[8388607,23,0],[16777215,24,0],[33554431,25,0,0,0,0],[67108863]]) ?_;refine gR hap ?_;refine gM hap (bo a [b,c,e,f,g] [s,t] d smq) ?_;refine gM hap (bo b [c,e,f,g] [s,t] d smq) ?_;refine gM hap (bo c [e,f,g] [s,t] d smq) ?_;refine gM hap (bo e [f,g] [s,t] d smq) ?_;refine gM hap (jbt f g [] [s,t] d smq) ?_;exact zdw
theorem qh2(r:Rgs)(h:r.Fit)(a b c e f d:Int)(s t:Str):DenS prog T 89 (rgB r [a,b,c,e,f] [s,t] d) [(147,[plc 999000 4])] rgA (rgB { r with hls:=r.hls++[⟨a,b,c,s,t,e,f⟩] } [] [] d) [] (.v (vi 0)):=by
 have hl:=h.hls.1;have hap:r.hls.map Hld.cs++[[vi a,vi b,vi c,.str s,.str t,vi e,vi f]]=(r.hls++[(⟨a,b,c,s,t,e,f⟩:Hld)]).map Hld.cs:=by simp
 refine bx follows (fun args w=>call89 args w) func89 rfl 27 rfl rfl ?_;refine runD trivial ?_;refine aq (gd 23 [[0,0,0],[1,1,0],[3,2,0],[7,3,0],[15,5,0],[47,7,0],[175,9,0],[687,11,0],[2735,13,0],[10927,15,0],[43695,4,0,6,1],[43711,6,1,0,0,0],[43759,4,0,8,1],[43775,8,1,0,0,0],[44015,4,0,10,1],[44031,10,1,0,0,0],[45039,4,0,12,1],[45055,12,1,0,0,0],[49135,4,0,14,1],[49151,14,1,0,0,0],[65519,4,0,16,1],[65535,16,1,0,0,0],[131055,4,0,17,1],[131071,17,1,0,0,0],[262127,4,0,18,1],[262143,18,1,0,0,0],[524271,4,0,0,0,0],[524287,19,0,0,0,0],[1048575,20,0],[2097151,21,0],[4194303,22,0,0,0,0],[8388607]]) ?_;refine gR hap ?_;refine gM hap (bo a [b,c,e,f] [s,t] d smq) ?_;refine gM hap (bo b [c,e,f] [s,t] d smq) ?_;refine gM hap (bo c [e,f] [s,t] d smq) ?_;refine gM hap (jbt e f [] [s,t] d smq) ?_;exact zdw
theorem qg3(r:Rgs)(h:r.Fit)(a b e f d:Int)(s:Str):DenS prog T 91 (rgB r [a,b,e,f] [s] d) [(94,[plc 999000 5])] rgA (rgB { r with cks:=r.cks++[⟨a,b,s,e,f⟩] } [] [] d) [] (.v (vi 0)):=by
 have hl:=h.cks.1;have hap:r.cks.map Clk.cs++[[vi a,vi b,.str s,vi e,vi f]]=(r.cks++[(⟨a,b,s,e,f⟩:Clk)]).map Clk.cs:=by simp
 refine bx follows (fun args w=>call91 args w) func91 rfl 23 rfl rfl ?_;refine runD trivial ?_;refine aq (gd 19 [[0,0,0],[1,1,0],[3,2,0],[7,3,0],[15,5,0],[47,7,0],[175,9,0],[687,11,0],[2735,4,1,6,0],[2799,4,2,8,1],[2751,6,1,0,0,0],[3055,4,2,10,1],[2815,8,1,0,0,0],[4079,4,1,12,2],[3071,10,0,0,0,0],[4095,12,2,0,0,0],[8175,4,1,13,0],[16367,4,1,14,2],[8191,13,0,0,0,0],[16383,14,1,0,0,0],[32751,4,0,0,0,0],[32767,15,0,0,0,0],[65535,16,0],[131071,17,0],[262143,18,0,0,0,0],[524287]]) ?_;refine gR hap ?_;refine gM hap (bo a [b,e,f] [s] d smq) ?_;refine gM hap (bo b [e,f] [s] d smq) ?_;refine gM hap (jbt e f [] [s] d smq) ?_;refine gM hap (fu s [] [] d smq) ?_;exact ij
def chsG(r:Rgs)(s:Smp)(d:Int):Rgs:=if slcE r s d=0 then { r with sls:=r.sls++[⟨s.id,d,slcR r s d⟩] } else r
def trnE(r:Rgs)(id d:Int):Int:=if onE r id d≠0 then onE r id d else if(onV r id d).kind≠9 then 21 else 0
def trnG(r:Rgs)(id d:Int):Rgs:=if trnE r id d=0 then { r with dps:=r.dps++[⟨id,d⟩] } else r
theorem qif(L:LibT T)(r:Rgs)(h:r.Fit)(a b c e d:Int)(s t:Str)(hs:s.length<=1048576)(ht:t.length<=1000000)(hfew:b=2->slcE r ⟨a,b,c,e,s,t⟩ d=0->(cl r s d).length<20):
  DenS prog T 92 (rgB r [a,b,c,e] [s,t] d) [(149,[plc 999000 6])] rgA (rgB (chsG r ⟨a,b,c,e,s,t⟩ d) [] [] d) [] (.v (vi (slcE r ⟨a,b,c,e,s,t⟩ d))):=by
 have hl:=h.sls.1;have hc:=qkv L r h ⟨a,b,c,e,s,t⟩ hs ht d hfew;obtain⟨E,hE⟩:∃E,slcE r ⟨a,b,c,e,s,t⟩ d=E:=⟨_,rfl⟩;obtain⟨F,hF⟩:∃F,slcR r ⟨a,b,c,e,s,t⟩ d=F:=⟨_,rfl⟩;rw[hE,hF] at hc;unfold chsG;rw[hE,hF];have hap:r.sls.map Sel.cs++[[vi a,vi d,ints F]]=(r.sls++[(⟨a,d,F⟩:Sel)]).map Sel.cs:=by simp
 refine bx follows (fun args w=>call92 args w) func92 rfl 53 rfl rfl ?_;refine run ?_;refine dx 999001 (bo a [b,c,e] [s,t] d smq) ?_;refine run ?_;refine dx 999001 (bo b [c,e] [s,t] d smq) ?_;refine run ?_;refine dx 999001 (bo c [e] [s,t] d smq) ?_;refine run ?_;refine dx 999001 (bo e [] [s,t] d smq) ?_;refine run ?_;refine dx 999001 (fu s [] [t] d smq) ?_;refine run ?_;refine dx 999001 (fu t [] [] d smq) ?_;refine runD (ai am (ai ao ac)) ?_;refine aq (gd 14 [[0,0,0],[1,1,0],[3,4,0],[19,5,0],[51,6,0],[115,2,1,3,0,7,2],[123,2,4,7,3],[119,3,3,7,1],[243,2,0,3,1],[247,3,2,0,0,0],[251,2,1,0,0,0],[127,7,0,0,0,0],[255,8,0,0,0,0],[511,9,0],[1023,10,0,11,1],[2047,11,2,12,1],[3071,10,1,0,0,0],[6143,11,1,0,0,0],[4095,12,0,0,0,0],[8191,13,0,0,0,0],[16383]]) ?_;refine gR (ai am (ai ao ac)) ?_;refine gD (ai am (ai ao ac)) hc ?_;by_cases h0:E=0
 .subst h0;rw[ve rfl];refine runD (ai am (ai ao ac)) ?_;refine aq (gd 18 [[0,0,0],[1,1,0],[3,2,0],[7,3,0],[15,5,0],[47,7,0],[175,8,0],[431,9,0],[943,11,0],[2991,4,1,6,2,10,0],[4015,4,4,6,2],[3007,6,2,10,3],[3055,4,1,10,0],[4079,4,2,12,3],[3071,10,1,0,0,0],[4031,6,0,0,0,0],[4095,12,1,0,0,0],[8175,4,0,13,1],[8191,13,1,0,0,0],[16367,4,0,0,0,0],[16383,14,0,0,0,0],[32767,15,0],[65535,16,0],[131071,17,0,0,0,0],[262143]]) ?_;refine gR (ai hap (ai am (ai ao ac))) ?_;exact ij
 exact zea
theorem qg0(L:LibC T)(r:Rgs)(h:r.Fit)(a d:Int):
  DenS prog T 97 (rgB r [a] [] d) [(98,[plc 999000 10])] rgA (rgB (trnG r a d) [] [] d) [] (.v (vi (trnE r a d))):=by
 have hl:=h.dps;have hc:=jau L r h a d;have hap:r.dps.map Dep.cs++[[vi a,vi d]]=(r.dps++[(⟨a,d⟩:Dep)]).map Dep.cs:=by simp
 obtain⟨E,hE⟩:∃E,trnE r a d=E:=⟨_,rfl⟩;unfold trnG;rw[hE];unfold trnE at hE;obtain⟨e,he⟩:∃e,onE r a d=e:=⟨_,rfl⟩;obtain⟨v,hv⟩:∃v,onV r a d=v:=⟨_,rfl⟩;rw[he,hv] at hE hc;refine bx follows (fun args w=>call97 args w) func97 rfl 43 rfl rfl ?_;refine run ?_;refine dx 999001 (bo a [] [] d smq) ?_;refine runD (ai am (ai ao ac)) ?_;refine aq (gd 15 [[0,0,0],[1,1,0],[3,3,0],[11,4,0],[27,5,0],[59,6,0],[123,2,1,7,0,12,2],[251,2,2,12,3],[127,7,1,12,3],[4219,2,2,7,1],[255,8,2,12,3],[4347,2,2,0,0,0],[4223,7,1,0,0,0],[511,9,1],[4351,8,1,0,0,0],[1023,10,1,11,3,12,2],[4607,9,1],[2047,11,2,12,4],[5119,10,3,11,2],[3071,10,0,12,1],[4095,12,2,0,0,0],[7167,10,1,0,0,0],[6143,11,0,13,1],[8191,13,1,0,0,0],[14335,11,0,0,0,0],[16383,14,0,0,0,0],[32767]]) ?_;refine gR (ai am (ai ao ac)) ?_;refine gD (ai am (ai ao ac)) hc ?_;by_cases h0:e=0
 .rw[vd (fun g=>g h0)] at hE;by_cases h9:v.kind=9
  .rw[vd (fun g=>g h9)] at hE;subst hE;rw[ve rfl];refine runD (ai (ai h0 h9) (ai am (ai ao ac))) ?_;refine aq (gd 16 [[0,0,0],[1,1,0],[3,2,0],[7,3,0],[15,5,0],[47,6,0],[111,7,0],[239,8,0],[495,4,0,9,1],[511,9,1,0,0,0],[1007,4,0,10,1],[1023,10,2,0,0,0],[2031,4,1,11,0],[4079,4,1,0,0,0],[2047,11,0,0,0,0],[4095,12,0,0,0,0],[8191,13,0],[16383,14,0],[32767,15,0,0,0,0],[65535]]) ?_;refine gR (ai hap (ai am (ai ao ac))) ?_;exact ij
  rw[ve h9] at hE;subst hE;rw[vd dcq];refine runW (ai (ai h0 (vf h9)) (ai am (ai ao ac))) ?_;exact ij
 rw[ve h0] at hE;subst hE;exact zea
end Go.Arc
