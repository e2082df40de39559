/- A part of this claim. -/
import Derived.Shelf.Sort.Plain
import Derived.Test.YtfbbflhnhmphiaaGreatDoorBaV
import Derived.Test.YtfbbflhnhmphiaaGreatDoorBaR
set_option maxHeartbeats 1000000
set_option maxRecDepth 100000
namespace Go.Arc
open Go.Ab Go.RowKit Go.Proofs Tryz
variable {T : Lay}
variable {cls:Str}{r:Rgs}{d:Int}{s:Smp}
theorem ja1(n a b:Int):Den prog T 276 [vi n,vi a,vi b] (vb (decide (a<=n/\n<=b))):=by
 refine ab call276 func276 15 ?_;by_cases h1:a<=n<;>by_cases h2:n<=b<;>(refine run ?_;refine fin (ah ?_);simp;try omega)
theorem qfc(s:Str)(hl:s.length<=1048576):Den prog T 291 [.str s] (vb (letB s)):=by
 refine ab call291 func291 36 ?_;refine run ?_;refine dq ⟨[6,0,5],[],[],[]⟩ s.length (fun k=>(∀c∈s.take k,capB c=true)/\∀(j:Nat) x y,j+1<k->s[j]?=some x->s[j+1]?=some y->x.toNat<y.toNat) ⟨smq,fun j _ _ hj=>by omega⟩ ?_;rintro k ⟨hk,hall,hris⟩;by_cases hlt:k<s.length
 .obtain⟨c,hc,-,hm⟩:=af hlt;by_cases c1:(c.toNat:Int)<65
  .rw[jil fun h=>by have:=h.1 c hm;unfold capB at this;rw[vn,vq] at this;omega];refine runW (ai hc (vg c1)) ?_;exact fin rfl
  by_cases c2:90<(c.toNat:Int)
  .rw[jil fun h=>by have:=h.1 c hm;unfold capB at this;rw[vn,vq,vq] at this;omega];refine runW (ai hc (ai (vf c1) (vg c2))) ?_;exact fin rfl
  have hcap:capB c=true:=by unfold capB;rw[vl omq,vl omq];rfl
  have hall2:=jc (q:=fun c=>capB c=true) hall hc hcap;by_cases h0:k=0
  .subst h0;refine runW (ai hc (ai (vf c1) (vf c2))) ?_;exact round (0+1) ⟨hlt,hall2,fun j _ _ hj=>by omega⟩ omq
  obtain⟨b,hb,-,-⟩:=af (l:=s) (k:=k-1) omq;have hpos:((0:Int)<(k:Int))=True:=vg omq;by_cases c3:(c.toNat:Int)<=(b.toNat:Int)
  .rw[jil fun h=>by
    have:=h.2.1 (k-1) b c hb (by rw[show k-1+1=k by omega];exact hc)
    omega]
   refine runW (ai hpos (ai hc (ai hb (ai (vf c1) (ai (vf c2) (vg c3)))))) ?_;exact fin rfl
  refine runW (ai hpos (ai hc (ai hb (ai (vf c1) (ai (vf c2) (vf c3)))))) ?_;refine round (k+1) ⟨hlt,hall2,fun j x y hj h1 h2=>?_⟩ omq;by_cases hjk:j+1=k
  .subst hjk;rw[hc] at h2;cases h2;rw[show j+1-1=j by omega,h1] at hb;cases hb;omega
  exact hris j x y omq h1 h2
 have hA:(∀c∈s,capB c=true)/\∀(i:Nat) x y,s[i]?=some x->s[i+1]?=some y->x.toNat<y.toNat:=⟨fun c hc=>jht hall hlt c hc,fun i x y hx hy=>hris i x y (by have:=(gsi.1 hy).1;omega) hx hy⟩;by_cases hn:s=[]
 .rw[jil fun h=>h.2.2 hn];subst hn;exact za
 rw[(jyz s).2 ⟨hA.1,hA.2,hn⟩];have hb:(s == [])=false:=by rw[beq_eq_false_iff_ne];exact hn
 refine runW (ai hb hn) ?_;exact fin rfl
theorem jvu(l m:List Fil):ar (l++m)=ar l++ar m:=by simp[ar]
theorem jbg:∀(l:List Fil) (k:Nat),(ar l).drop (k*8)=ar (l.drop k)
 |_,0=>rfl
 |[],k+1=>by simp[ar]
 |x::l,k+1=>by
  rw[qa,show (k+1)*8=k*8+8 by omega];simp only[List.cons_append,List.nil_append,xbz];exact jbg l k
theorem jk6:∀(l:List Fil) (k:Nat),(ar l).take (k*8)=ar (l.take k)
 |_,0=>by simp[ar]
 |[],k+1=>by simp[ar]
 |x::l,k+1=>by
  rw[qa,show (k+1)*8=k*8+8 by omega];simp only[List.cons_append,List.nil_append,List.take_succ_cons];rw[jk6 l k];rfl
theorem qlb(l:List Fil)(f:FuncId)(cap:List V)(p:Fil->Bool)(hl:l.length<=1048576)(hp:∀e∈l,Den prog T f (.agg e.cs::cap) (vb (p e))):
   DenM prog T 28 (ar l) [.s 999999 0 l.length 8,.v (.func f cap)] (ar l) (.v (vi (ix p l))):=by
  refine rl follows (fun args w=>call28 args w) func28 rfl 19 rfl rfl ?_;refine run ?_;refine dq ⟨[8,0,1,7],[999999],[],[]⟩ l.length (fun k=>∀e∈l.take k,p e=false) smq ?_;rintro k ⟨hk,hall⟩;by_cases hlt:k<l.length
  . obtain⟨x,hx,hd,hm⟩:=af hlt;have hd':(ar l).drop (k*8)=vi x.id::vi x.ofc::vi x.opn::vi x.cld :: .str x.cls :: .str x.title::vi x.pts::ntss x.nts::ar (l.drop (k+1)):=by rw[jbg,hd];rfl
    refine rcW hd' (hp x hm) ?_;cases hpc:p x
    . exact zbj
    refine run ?_;exact ja (.v (.of (bc (uu hall hx hpc))))
  refine run ?_;exact ja (.v (.of (bc (jan hall hlt))))
theorem ju1(l:List Fil)(f:FuncId)(cap:List V)(p:Fil->Bool)(hl:l.length<=1048576)(h0:l≠[])(hp:∀e∈l,Den prog T f (.agg e.cs::cap) (vb (p e))):
   DenM prog T 277 (ar l) [.s 999999 0 l.length 8,.v (.func f cap)] (ar (l.filter fun e=> !p e))
     (if l.filter (fun e=> !p e)=[] then .v (.slice 8 []) else .s 999999 0 (l.filter fun e=> !p e).length 8):=by
  have hlen:0<l.length:=yn.2 h0;refine rl follows (fun args w=>call277 args w) func277 rfl 42 rfl rfl ?_;refine run ?_;refine dx 999999 (qlb l f cap p hl hp) ?_;rcases hix:l.findIdx? p with _|i
  . have hi:ix p l= -1:=by simp[ix,hix]
    have hf:l.filter (fun e=> !p e)=l:=by
      exact zd2
    rw[hi,hf,vd h0];exact zdz
  obtain⟨hlt,hpi,hbef⟩:=xbb.1 hix;have hi:ix p l=i:=by simp[ix,hix]
  rw[hi];refine run ?_
  have hfi:((l.take (i+1)).filter fun e=> !p e)=l.take i:=by
    exact zbg
  have hkl:((l.take (i+1)).filter fun e=> !p e).length=i:=by rw[hfi];simp;omega
  refine loop ⟨[0,1,5,6],[999999],[],[]⟩ (fun y:Nat×List V=>i+1<=y.1/\y.1<=l.length/\y.2.length=l.length*8/\((l.take y.1).filter fun e=> !p e).length<y.1/\
      y.2.take (((l.take y.1).filter fun e=> !p e).length*8)=ar ((l.take y.1).filter fun e=> !p e)/\y.2.drop (y.1*8)=ar (l.drop y.1)) (fun y=>l.length-y.1)
    (fun y=>⟨42,[(0,.s 999999 0 l.length 8),(1,.v (.func f cap)),(5,.v (vi ((l.take y.1).filter fun e=> !p e).length)),(6,.v (vi y.1))],[(999999,.var y.2)],[]⟩) (i+1,ar l) ?_ ?_ ?_
  . refine⟨smq,by simp;omega,ko l,?_,?_,jbg l _⟩
    . simp only;rw[hfi];simp;omega
    simp only;rw[hfi];simp only[xq,xaw (Nat.le_of_lt hlt),jk6]
  . rintro⟨j,cs⟩ ⟨h1,h2,h3,h4,h5,h6⟩;simp only at h1 h2 h3 h4 h5 h6;by_cases hj:j<l.length
    . obtain⟨x,hx,hd,hm⟩:=af hj;have hd':cs.drop (j*8)=vi x.id::vi x.ofc::vi x.opn::vi x.cld :: .str x.cls :: .str x.title::vi x.pts::ntss x.nts::ar (l.drop (j+1)):=by rw[h6,hd];rfl
      refine rcW hd' (hp x hm) ?_
      have hdn:cs.drop (j*8+8)=ar (l.drop (j+1)):=by
        rw[<- xc0,hd'];rfl
      cases hpc:p x
      . have hf:=jbf (q:=fun e=> !p e) hx;simp only[hpc,xcw,xf] at hf;refine run ?_;have hl1:(cs.take (((l.take j).filter fun e=> !p e).length*8)).length=((l.take j).filter fun e=> !p e).length*8:=by rw[xq];omega
        refine round (j+1,cs.take (((l.take j).filter fun e=> !p e).length*8)++x.cs++cs.drop (((l.take j).filter fun e=> !p e).length*8+8)) ⟨by simp only;omega,by simp only;omega,?_,?_,?_,?_⟩ zeo ?_
        . exact zdg
        . exact zdj
        . simp only;rw[hf];rw[xd9 zeq,ye zeq,h5,jvu];rfl
        . simp only;rw[List.drop_append,xbc zeq,List.nil_append,xc0,<- hdn];congr 1;exact zek
        simp only[hf,vr,List.length_cons,List.length_nil];rfl
      have hf:=jbf (q:=fun e=> !p e) hx;simp only[hpc,xbs,yw,xy] at hf;refine run ?_;refine round (j+1,cs) ⟨omq,omq,h3,?_,?_,?_⟩ zeo ?_
      . simp only;rw[hf];omega
      . simp only;rw[hf];exact h5
      . simp only;rw[show (j+1)*8=j*8+8 by omega];exact hdn
      simp only[hf];rfl
    have hj':j=l.length:=omq;subst hj';simp only[yk] at h4 h5;have htl:l.take l.length=l:=yk;refine runW htl ?_;by_cases hz:l.filter (fun e=> !p e)=[]
    . rw[ve hz];have hz':(l.filter (fun e=> !p e)).length=0:=by rw[hz];rfl
      refine runW hz' ?_;rw[hz];exact ja (.refl _)
    exact zcd
  simp only[hkl];rfl
theorem jts(f:FuncId)(cap:List V):Den prog T 277 [fils [],.func f cap] (fils []):=by
 refine ab call277 func277 42 ?_;refine rc (jxo [] f cap (fun _=>false) smq smq) ?_;have hi:ix (fun _:Fil=>false) []= -1:=rfl;rw[hi];exact za
theorem qgv(zs:List Int)(kk:Option (TypeId×Nat×Nat))(hl:zs.length<=1048576):
  DenS prog T 280 [(999000,.var (zs.map vint) none kk)] [] [.s 999000 0 zs.length 1] [(999000,.var ((lu zs).map vint) none kk)] [] (.v (.tup [])):=
 qpd (fun args w=>call280 args w) (fun blk cap zs w hH hb hz=>Any.slices_Sort_int Tryz.lays189 blk 0 cap zs w hH hb hz) zs kk hl
theorem qgh(l:List Int):be 0 l.length 1 (l.map vint)=l.map Cint:=qpl vint l
theorem jar{a b c:V}(h:Wk a b):Wk (.tup [a,c]) (.tup [b,c]):=.t2 h (.refl _)
def gonC(n d:Int)(c:Crt):Bool:=decide (c.day<=d) && c.fls.any fun y=>decide (n=y)
def gonD(n d:Int)(c:Dep):Bool:=decide (c.day<=d) && decide (c.fil=n)
def gonB(r:Rgs)(n d:Int):Bool:=r.crs.any (gonC n d) || r.dps.any (gonD n d)
theorem qwo(r:Rgs)(f:Fil)(d:Int):gonB r f.id d=(gone1 r f d || gone2 r f d):=by
 unfold gonB gone1 gone2;congr 1
 .congr 1
  funext c
  unfold gonC cu;congr 1;congr 1
  funext y
  exact xc9.2 eq_comm
 congr 1
 funext c
 unfold gonD cu;simp
theorem qsu(n d:Int)(c:Crt)(hc:c.fls.length<=1048576):Den prog T 338 [.agg c.cs,.row [vi d],.row [vi n]] (vb (gonC n d c)):=by
 refine ab call338 func338 15 ?_;unfold gonC;by_cases h:c.day<=d
 .rw[vl h];refine rcW (vg h) (jbk c.fls n hc) ?_;exact za
 rw[vw h];exact zeg
theorem qst(n d:Int)(c:Dep):Den prog T 339 [.agg c.cs,.row [vi d],.row [vi n]] (vb (gonD n d c)):=by
 refine ab call339 func339 15 ?_;unfold gonD;by_cases h:c.day<=d
 .rw[vl h];refine runW (vg h) ?_;exact fin rfl
 rw[vw h];exact zeg
theorem qxb(r:Rgs)(h:r.Fit)(n d:Int):Den prog T 279 [.agg r.cs,vi n,vi d] (vb (gonB r n d)):=by
 have h1:=h.crs.1;have h2:=h.dps;unfold gonB;refine ab call279 func279 17 ?_;refine rc (jl0 r.crs _ _ (gonC n d) h1 fun c hc=>qsu n d c (h.crs.2 c hc).1) ?_;cases r.crs.any (gonC n d)
 .refine rc (jkz r.dps _ _ (gonD n d) h2 fun c _=>qst n d c) ?_;exact za
 exact za
theorem qu4(r:Rgs)(cls:Str)(d:Int)(f:Fil):jd8 r cls d f=(decide (state f d=2) && !(gonB r f.id d) && decide ((bd r.pls f d).2=0) && db (bd r.pls f d).1 cls):=by
 rw[qwo];rfl
theorem qox(L:LibC T)(r:Rgs)(h:r.Fit)(cls:Str)(hc:cls.length<=1048576)(d:Int)(f:Fil)(hf:f.Fit):
  Den prog T 278 [.agg f.cs,.row r.cs,.row [vi d],.row [.str cls]] (vb (!jd8 r cls d f)):=by
 rw[qu4];have hcl:=jl6 h.pls hf d;refine ab call278 func278 37 ?_;refine rc (jmc L r.pls f d h.pls hf) ?_;refine rc (jma f d) ?_;by_cases h1:state f d=2
 case neg=>
  rw[vw h1];refine runW (vf h1) ?_;exact fin rfl
 rw[vl h1];refine rcW (vg h1) (qxb r h f.id d) ?_;cases gonB r f.id d
 case true=>
  exact za
 by_cases h2:(bd r.pls f d).2=0
 case neg=>
  rw[vw h2];refine runW (vf h2) ?_;exact fin rfl
 rw[vl h2];refine rcW (vg h2) (jh1 L (bd r.pls f d).1 cls hcl hc) ?_;cases db (bd r.pls f d).1 cls<;>(refine run ?_;exact fin rfl)
theorem qcb(h:checkG r≠0):jb r cls d=1:=ve h
theorem qc9(h:checkG r=0)(h2:(ak cls).isSome=false):jb r cls d=3:=by unfold jb;rw[vd (fun e=>e h),ve h2]
theorem qca(h:checkG r=0)(h2:(ak cls).isSome=true)(h3:dayG d=false):jb r cls d=2:=by
 unfold jb;rw[vd (fun e=>e h),vd ze0,ve h3]
theorem qcc(h:checkG r=0)(h2:(ak cls).isSome=true)(h3:dayG d=true):jb r cls d=0:=by
 unfold jb;rw[vd (fun e=>e h),vd ze0,vd zfj]
theorem jpy{e:Int}(h:jb r cls d=e)(he:e≠0):jg0 r cls d=[]:=by unfold jg0;rw[vd (by rw[h];exact he)]
theorem qc8(h:jb r cls d=0):jg0 r cls d=cl r cls d:=by unfold jg0;rw[ve h]
theorem qf0(L:LibC T)(r:Rgs)(h:r.Fit)(cls:Str)(hc:cls.length<=1048576)(d:Int):Den prog T 231 [.agg r.cs,.str cls,vi d] (.tup [fils (jg0 r cls d),vi (jb r cls d)]):=by
 have hl:=h.fls.1;refine ab call231 func231 29 ?_;refine rc (jl4 L r h) ?_;by_cases h1:checkG r=0
 case neg=>
  rw[jpy (qcb h1) dcq,qcb h1];refine runW h1 ?_;exact finW (jar (.nil 8))
 refine rcW h1 (qd L cls hc) ?_;cases hp:ak cls with
 |none=>
  have h2:(ak cls).isSome=false:=by rw[hp];rfl
  rw[jpy (qc9 h1 h2) dcq,qc9 h1 h2,kr hp];refine run ?_;exact finW (jar (.nil 8))
 |some q=>
  have h2:(ak cls).isSome=true:=by rw[hp];rfl
  rw[kq hp];refine rc (ja1 d 0 1048575) ?_;cases h3:dayG d
  .rw[jpy (qca h1 h2 h3) dcq,qca h1 h2 h3];have h4:decide (0<=d/\d<=1048575)=false:=by rw[Bool.decide_and];exact h3
   rw[h4];refine run ?_;exact finW (jar (.nil 8))
  rw[qc8 (qcc h1 h2 h3),qcc h1 h2 h3];have h4:decide (0<=d/\d<=1048575)=true:=by rw[Bool.decide_and];exact h3
  rw[h4];refine run ?_
  have hfil:(r.fls.filter fun e=> !(!jd8 r cls d e))=cl r cls d:=by
   unfold cl;congr 1
   funext e
   rw[Bool.not_not]
  refine pu (jg9 r.fls hl) (fun hz=>?_) (fun hz=>?_)
  .have hz':r.fls=[]:=by simpa using hz
   have hcz:cl r cls d=[]:=by unfold cl;rw[hz'];rfl
   rw[hcz];refine rc (jts _ _) ?_;refine run ?_;exact finW (jar (.refl _))
  have hz':r.fls≠[]:=fun e=>hz (by rw[e];rfl);have hlen:(r.fls.map Fil.cs).length=r.fls.length:=by simp
  rw[show (r.fls.map Fil.cs).flatten=ar r.fls from rfl];refine runW hlen ?_;have hD:=ju1 (T:=T) r.fls 278 [.row r.cs,.row [vi d],.row [.str cls]] (fun f=> !jd8 r cls d f) hl hz' fun f hf=>qox L r h cls hc d f (h.fls.2 f hf);rw[hfil] at hD;refine dx 26 hD ?_;by_cases hne:cl r cls d=[]
  .rw[ve hne,hne];refine run ?_;exact finW (jar (.refl _))
  rw[vd hne];have hcl:=ko (cl r cls d);have hcc:=jbd (cl r cls d);generalize ar (cl r cls d)=C at hcl hcc;refine run ?_;refine jd4 (Wk.of ?_) ?_
  .rw[show fils (cl r cls d)=.slice 8 ((cl r cls d).map Fil.cs) from rfl,<- hcc]
  rw[hcl];omega
theorem qkh:Den prog T 383 [.val (.slice none 0 0),vi 0,vi 0] (.tup []):=by
 refine ab call383 func383 49 ?_;refine run ?_;refine loop ⟨[0,1,2,6],[],[],[]⟩ (fun _:Unit=>True) (fun _=>0) (fun _=>⟨49,[(0,.v (.val (.slice none 0 0))),(1,.v (vi 0)),(2,.v (vi 0)),(6,.v (vi 1))],[],[]⟩) () trivial ?_;rintro⟨⟩ -;exact zca
theorem qk2(x:Int):Den prog T 340 [.val (.slice none 0 0),vi 0,vi 0,vi x] (.tup []):=by
 refine ab call340 func340 134 ?_;refine run ?_;refine loop ⟨[0,1,2,3],[],[],[]⟩ (fun _:Unit=>True) (fun _=>0) (fun _=>⟨134,[(0,.v (.val (.slice none 0 0))),(1,.v (vi 0)),(2,.v (vi 0)),(3,.v (vi x))],[],[]⟩) () trivial ?_;rintro⟨⟩ -;refine rc qkh ?_;exact zca
theorem qgm:Den prog T 392 [.val (.int .u64 0)] (vi 0):=by
 refine ab call392 func392 25 ?_;refine run ?_;simp only[List.append_eq,List.cons_append,List.getElem?_cons_zero,Option.map_some];exact za
theorem qke:Den prog T 341 [.val (.int .u64 0)] (vi 0):=by
 refine ab call341 func341 8 ?_;refine run ?_;refine qab (b:=false) rfl (fun h=>absurd h dcq) (fun _=>?_);refine rc qgm ?_;exact za
theorem qhv:Den prog T 280 [.val (.slice none 0 0)] (.tup []):=by
 refine ab call280 func280 11 ?_;refine rc qke ?_;refine rc (qk2 0) ?_;exact zca
theorem qna{l:List Fil}{k:Nat}{f:Fil}(h:l[k]?=some f):idsF (l.take (k+1))=idsF (l.take k)++[f.id]:=by
 obtain⟨hlt,rfl⟩:=gsi.1 h;unfold idsF;rw[xap hlt,xz];rfl
theorem qxa(l:List Fil)(hl:l.length<=1048576):Den prog T 232 [fils l] (ints (lu (idsF l))):=by
 refine ab call232 func232 21 ?_;refine run ?_
 refine qe7 (fun y:Nat×List Int×Nat×Nat=>if y.2.1=[] then ⟨[3,6,7,8],[],[],[]⟩ else ⟨[3,6,7,8],[16],[],[]⟩)
  (fun y=>y.1<=l.length/\y.2.1=idsF (l.take y.1)/\y.2.1.length=y.1/\(y.2.1≠[]->y.2.1.length<=y.2.2.2/\y.2.2.2<=maxLen)) (fun y=>l.length-y.1)
  (fun y=>if y.2.1=[] then ⟨21,[(3,.v (.val (.slice none 0 0))),(6,.v (fils l)),(7,.v (vi l.length)),(8,.v (vi y.1))],[],[]⟩ else
   ⟨21,[(3,.v (.val (.slice (some ⟨y.2.2.1,0,none⟩) y.2.1.length y.2.2.2))),(6,.v (fils l)),(7,.v (vi l.length)),(8,.v (vi y.1))],[(16,.var (y.2.1.map vint) (some y.2.2.1) (some (3,1,y.2.2.2)))],[]⟩)
  (0,[],0,0) ⟨vj _,rfl,rfl,fun h=>absurd rfl h⟩ rfl ?_
 rintro⟨k,out,r',cap⟩ ⟨hk,ho,hlen,hout⟩;simp only at hk ho hlen hout;have hnn:∀x:Int,[x]≠[]:=fun x=>List.cons_ne_nil _ _;by_cases hlt:k<l.length
 .obtain⟨f,hx,-,-⟩:=af hlt;have hsn:=qna hx;rw[<- ho] at hsn;by_cases hout0:out=[]
  .subst hout0;simp only[xf];refine runB hx ?_;refine sw ?_;unfold appR;refine run ?_;intro r2 cap2 hnm g1 g2;refine run ?_;refine jfb (k+1,[f.id],r2,cap2) ⟨by simp only;omega,by simp only;rw[hsn];rfl,by simp at hlen;simp only[List.length_cons,List.length_nil];omega,fun _=>⟨by simpa using g1,g2⟩⟩ zeo ?_
   show cb (if [f.id]=[] then _ else _) _=some (if [f.id]=[] then _ else _)
   rw[vd (hnn _),vd (hnn _)];rfl
  simp only[hout0,xy];obtain⟨hc1,hc2⟩:=hout hout0;have hp:=yn.2 hout0;refine runB hx ?_;refine sw ?_;unfold appR;refine run ?_;refine⟨.inl trivial,?_⟩;intro r2 cap2 hnm g1 g2;have e1:out.map vint++[[vi f.id]].flatten=(out++[f.id]).map vint:=by simp[vint]
  have e2:out.length+[[vi f.id]].length=(out++[f.id]).length:=by simp
  rw[e1,e2];rw[e2] at g1;have hne:out++[f.id]≠[]:=by simp
  have hol:(out++[f.id]).length=k+1:=by simp only[vr,List.length_cons,List.length_nil];omega
  obtain⟨out1,ho1⟩:∃o1,out++[f.id]=o1:=⟨_,rfl⟩;rw[ho1] at g1 hne hsn hol ⊢;refine run ?_;refine jfb (k+1,out1,r2,cap2) ⟨by simp only;omega,by simp only;rw[hsn],hol,fun _=>⟨g1,g2⟩⟩ zeo ?_
  show cb (if out1=[] then _ else _) _=some (if out1=[] then _ else _)
  rw[vd hne,vd hne];rfl
 have hkl:k=l.length:=omq;have hall:out=idsF l:=by rw[ho,ye omq]
 by_cases hout0:out=[]
 .rw[<- hall,hout0];simp only[xf];refine rc qhv ?_;refine run ?_;rw[show lu []=[] from qiv List.Pairwise.nil];exact finW (.nil 1)
 rw[<- hall];simp only[hout0,xy];obtain⟨hc1,hc2⟩:=hout hout0;have hp:=yn.2 hout0;refine run ?_;refine fg (gh [(999000,16)] (qgv out (some (3,1,cap)) omq) (.cons (.sn rfl rfl hc1 hc2 hp) .nil) ?_ ?_)
 .intro x hx;simp only[xn] at hx;subst hx;exact⟨16,_,rfl,rfl,rfl,.inl rfl,rfl⟩
 refine run ?_;refine finFr (id:=16) (r:=r') (n:=out.length) (cap:=cap) (e:=3) (size:=1) (cs:=(lu out).map vint) ?_ hc1 ?_ ?_
 .rw[<- jlk out,qgh];exact .refl _
 .rw[vm,jlk];omega
 simp[dj,eh,Blk.nm,nmOf,ay]
theorem jto(L:LibT T)(s:Str)(n:Int)(hs:s.length<=1000000)(hn:0<=n/\n<=1073741824):Den prog T 345 [.str s,vi n] (.str (scrD s n)):=by
 have hd:=jec hn;have hi:=jc1 L n omq omq;unfold scrD scrT;obtain⟨z,hz⟩:∃z,decS n=z:=⟨_,rfl⟩;rw[show Lib.itoa n=z from hz] at hi;rw[hz] at hd ⊢;refine ab call345 func345 11 ?_;refine rc hi ?_;have h1:(s++[32]).length=s.length+1:=by simp
 refine rcW h1 (jsx L (s++[32]++z) (by simp only[vr,List.length_cons,List.length_nil];omega)) ?_;exact za
abbrev fnV(f:FuncId):V:=.func f []
abbrev js9(f:FuncId):V:=.func 283 [.row [.func f []]]
abbrev qz6:List V:=[.val .nilFunc,.val .nilFunc,.val .nilFunc,
 fnV 285,fnV 281,fnV 286,
 fnV 287,fnV 119,fnV 288,
 fnV 290,fnV 291,js9 292,
 fnV 294,fnV 281,js9 295]
theorem jzm(f:FuncId):Den prog T 282 [.func f []] (js9 f):=by
 refine ab call282 func282 4 ?_;exact za
theorem ti:Den prog T 233 [] (.agg qz6):=by
 refine ab call233 func233 14 ?_;refine rc (jzm 292) ?_;refine rc (jzm 295) ?_;exact zbm
theorem qi0(s:Str):Den prog T 281 [.str s] (vb (decide (s=[]))):=by
 refine ab call281 func281 5 ?_;refine run ?_;refine fin (ah ?_);rw[xc1,vq,xax]
theorem qsm(s:Smp):Den prog T 285 [.agg s.cs] (vb (decide (1<=s.n/\s.n<=256) && decide (0<=s.sta/\s.sta<=s.n-1))):=by
 refine ab call285 func285 14 ?_;refine rc (ja1 s.n 1 256) ?_;cases h:decide (1<=s.n/\s.n<=256)
 .exact za
 have h:=xj h;refine rc (ja1 s.sta 0 (s.n-1)) ?_;exact za
theorem qsl(s:Smp):Den prog T 287 [.agg s.cs] (vb (decide (0<=s.n/\s.n<=256) && decide (s.sta=0))):=by
 refine ab call287 func287 11 ?_;refine rc (ja1 s.n 0 256) ?_;cases decide (0<=s.n/\s.n<=256)<;>(refine run ?_;exact fin rfl)
theorem qsk(s:Smp):Den prog T 290 [.agg s.cs] (vb (decide (s.n=0) && decide (s.sta=0))):=by
 refine ab call290 func290 11 ?_;by_cases h:s.n=0
 .rw[vl h];refine runW h ?_;exact fin rfl
 rw[vw h];refine runW h ?_;exact fin rfl
theorem qsj(s:Smp):Den prog T 294 [.agg s.cs] (vb (decide (0<=s.n/\s.n<=100) && decide (s.sta=0))):=by
 refine ab call294 func294 11 ?_;refine rc (ja1 s.n 0 100) ?_;cases decide (0<=s.n/\s.n<=100)<;>(refine run ?_;exact fin rfl)
theorem jqn(h:idB s.id=false\/¬(1<=s.mth/\s.mth<=4)\/numB s=false):smpE s=2:=ve h
theorem jiw(h:¬(idB s.id=false\/¬(1<=s.mth/\s.mth<=4)\/numB s=false))(h2:(ak s.cls).isSome=false):smpE s=3:=by unfold smpE;rw[vd h,ve h2]
theorem jix(h:¬(idB s.id=false\/¬(1<=s.mth/\s.mth<=4)\/numB s=false))(h2:(ak s.cls).isSome=true)(h3:uo s=false):smpE s=1:=by
 unfold smpE;rw[vd h,vd ze0,ve h3]
theorem jiy(h:¬(idB s.id=false\/¬(1<=s.mth/\s.mth<=4)\/numB s=false))(h2:(ak s.cls).isSome=true)(h3:uo s=true):smpE s=0:=by
 unfold smpE;rw[vd h,vd ze0,vd zfj]
theorem qgs(L:LibC T)(s:Smp)(hc:s.cls.length<=1048576)(hs:s.seed.length<=1048576):Den prog T 230 [.agg s.cs] (vi (smpE s)):=by
 refine ab call230 func230 40 ?_;refine rc (ja1 s.id 1 1073741824) ?_;cases h1:idB s.id
 .rw[jqn (.inl h1),show decide (1<=s.id/\s.id<=1073741824)=false from h1];exact za
 rw[show decide (1<=s.id/\s.id<=1073741824)=true from h1];refine rc (ja1 s.mth 1 4) ?_;by_cases h2:1<=s.mth/\s.mth<=4
 case neg=>
  rw[jqn (.inr (.inl h2)),vw h2];exact za
 rw[vl h2];have hb:numB s=false->smpE s=2:=fun h=>jqn (.inr (.inr h))
 have hg:numB s=true->¬(idB s.id=false\/¬(1<=s.mth/\s.mth<=4)\/numB s=false):=by
  rintro hb (e|e|e)
  .rw[h1] at e;cases e
  .exact e h2
  rw[hb] at e;cases e
 have hm:s.mth=1\/s.mth=2\/s.mth=3\/s.mth=4:=omq;have hCP:=qd (T:=T) L s.cls hc;have hNm:=ua (T:=T) L s.seed hs;have hLt:=qfc (T:=T) s.seed hs;have hEm:=qi0 (T:=T) s.seed;have hN1:=qsm (T:=T) s;have hN2:=qsl (T:=T) s;have hN3:=qsk (T:=T) s;have hN4:=qsj (T:=T) s;obtain⟨i,m,n,k,c,sd⟩:=s;simp only at h1 h2 hm hCP hNm hLt hEm;rcases hm with rfl|rfl|rfl|rfl
 .obtain⟨B,hB⟩:∃B,numB ⟨i,1,n,k,c,sd⟩=B:=⟨_,rfl⟩;obtain⟨D,hD⟩:∃D,uo ⟨i,1,n,k,c,sd⟩=D:=⟨_,rfl⟩;have hN:=hN1;have hS:=hEm;rw[show (decide (1<=n/\n<=256) && decide (0<=k/\k<=n-1))=B from hB] at hN;rw[show decide (sd=[])=D from hD] at hS;refine rc ti ?_;refine rc hN ?_;cases B
  .rw[hb hB];exact za
  refine rc hCP ?_;cases hp:ak c with
  |none=>
   exact zb7
  |some q=>
   have hi:(ak c).isSome=true:=by rw[hp];rfl
   rw[kq hp];refine rc hS ?_;cases D
   .exact zed
   exact zec
 .obtain⟨B,hB⟩:∃B,numB ⟨i,2,n,k,c,sd⟩=B:=⟨_,rfl⟩;obtain⟨D,hD⟩:∃D,uo ⟨i,2,n,k,c,sd⟩=D:=⟨_,rfl⟩;have hN:=hN2;have hS:=hNm;rw[show (decide (0<=n/\n<=256) && decide (k=0))=B from(Bool.and_comm _ _).trans hB] at hN;rw[show name sd=D from hD] at hS;refine rc ti ?_;refine rc hN ?_;cases B
  .rw[hb hB];exact za
  refine rc hCP ?_;cases hp:ak c with
  |none=>
   exact zb7
  |some q=>
   have hi:(ak c).isSome=true:=by rw[hp];rfl
   rw[kq hp];refine rc hS ?_;cases D
   .exact zed
   exact zec
 .obtain⟨B,hB⟩:∃B,numB ⟨i,3,n,k,c,sd⟩=B:=⟨_,rfl⟩;obtain⟨D,hD⟩:∃D,uo ⟨i,3,n,k,c,sd⟩=D:=⟨_,rfl⟩;have hN:=hN3;have hS:=hLt;rw[show (decide (n=0) && decide (k=0))=B from(Bool.and_comm _ _).trans hB] at hN;rw[show letB sd=D from hD] at hS;refine rc ti ?_;refine rc hN ?_;cases B
  .rw[hb hB];exact za
  refine rc hCP ?_;cases hp:ak c with
  |none=>
   exact zb7
  |some q=>
   have hi:(ak c).isSome=true:=by rw[hp];rfl
   rw[kq hp];refine rc hS ?_;cases D
   .exact zed
   exact zec
 obtain⟨B,hB⟩:∃B,numB ⟨i,4,n,k,c,sd⟩=B:=⟨_,rfl⟩;obtain⟨D,hD⟩:∃D,uo ⟨i,4,n,k,c,sd⟩=D:=⟨_,rfl⟩;have hN:=hN4;have hS:=hEm;rw[show (decide (0<=n/\n<=100) && decide (k=0))=B from(Bool.and_comm _ _).trans hB] at hN;rw[show decide (sd=[])=D from hD] at hS;refine rc ti ?_;refine rc hN ?_;cases B
 .rw[hb hB];exact za
 refine rc hCP ?_;cases hp:ak c with
 |none=>
  exact zb7
 |some q=>
  have hi:(ak c).isSome=true:=by rw[hp];rfl
  rw[kq hp];refine rc hS ?_;cases D
  .exact zed
  exact zec
abbrev gr175:List Gent:=gd 18 [[0,0,0],[1,1,0],[3,2,0],[7,3,0],[15,4,0],[31,5,0],[63,6,0],[127,7,0],[255,8,0],[511,10,0],[1535,11,0],[3583,12,0],[7679,9,1,13,0],[15871,9,1,0,0,0],[8191,13,0,0,0,0],[16383,14,0],[32767,15,0,0,0,0],[65535,16,0],[131071,17,0,0,0,0],[262143]]
theorem qqz{α:Type}(lt:α->α->Bool)(l:List α):srtS lt (l.take 1)++l.drop 1=l:=by
 cases l with
 |nil=>rfl
 |cons x r=>rfl
end Go.Arc
