/- A part of this claim. -/
import Derived.Test.YtfbbflhnhmphiaaGreatDoorBaF
import Derived.Shelf.Strings.OnBuilder
import Derived.Shelf.Strings.Search3
set_option maxHeartbeats 2000000
set_option maxRecDepth 100000
namespace Go.Arc
open Go.Ab Go.RowKit Go.Proofs Tryz
variable {T : Lay}
variable {r:Rgs}{s:Smp}{α:Type}{j:Nat}{d:Int}{P:List α}{R:List α}{x:α}{y:α}
theorem qn7(hj:j<=P.length):(P.take j++x::P.drop j++R).drop j=x::(P.drop j++R):=by
 have h:(P.take j).length=j:=by rw[xq];omega
 rw[xb,xd4 (by rw[h];omega),xbc (by rw[h];omega)];rfl
theorem qjo(hj:j+1<=P.length)(hy:P[j]?=some y):(P.take (j+1)++x::P.drop (j+1)++R).drop j=y::x::(P.drop (j+1)++R):=by
 obtain⟨hlt,rfl⟩:=gsi.1 hy;have h:(P.take j).length=j:=by rw[xq];omega
 rw[xap hlt,xb,xb,xd4 (by rw[h];omega),xbc (by rw[h];omega)];rfl
theorem qwf(hj:j+1<=P.length)(hy:P[j]?=some y):((P.take (j+1)++x::P.drop (j+1)++R).set (j+1) y).set j x=P.take j++x::P.drop j++R:=by
 obtain⟨hlt,rfl⟩:=gsi.1 hy;have h:(P.take j).length=j:=by rw[xq];omega
 rw[xat hlt,xap hlt];generalize P.take j=A at h;generalize P.drop (j+1)=B;subst h;simp
theorem jvt{L:List Fil}{i:Nat}(y:Fil)(h:i<L.length):(ar L).take (i*8)++y.cs++(ar L).drop (i*8+8)=ar (L.set i y):=by
 rw[xd3,ve h,jvu,qa,jk6,show i*8+8=(i+1)*8 by omega,jbg,xb]
abbrev CmpF(T:Lay)(f:FuncId)(cap:List V)(lt:Fil->Fil->Bool)(l:List Fil):Prop:=
 ∀x∈l,∀y∈l,∃c:Int,Den prog T f (.agg x.cs :: .agg y.cs::cap) (vi c)/\decide (c<0)=lt x y
theorem qpe(kk:Option (TypeId×Nat×Nat))(l:List Fil)(f:FuncId)(cap:List V)(lt:Fil->Fil->Bool)(hl:l.length<=1000)(h0:l≠[])(hc:CmpF T f cap lt l):
  DenS prog T 418 [(999000,.var (ar l) none kk)] [] [.s 999000 0 l.length 8,.v (vi 0),.v (vi l.length),.v (.func f cap)] [(999000,.var (ar (srtS lt l)) none kk)] [] (.v (.tup [])):=by
 have hlen:0<l.length:=yn.2 h0;refine bx follows (fun args w=>call418 args w) func418 rfl 53 rfl rfl ?_;refine run ?_
 refine loop ⟨[0,1,2,3,8],[999000],[],[]⟩ (fun y:Nat×List V=>1<=y.1/\y.1<=l.length/\y.2=ar (srtS lt (l.take y.1)++l.drop y.1)) (fun y=>l.length-y.1)
  (fun y=>⟨53,[(0,.s 999000 0 l.length 8),(1,.v (vi 0)),(2,.v (vi l.length)),(3,.v (.func f cap)),(8,.v (vi y.1))],[(999000,.var y.2 none kk)],[]⟩) (1,ar l) ⟨vo _,hlen,by rw[qqz]⟩ ?_
 rintro⟨i,cs⟩ ⟨h1,h2,h3⟩;simp only at h1 h2 h3;by_cases hi:i<l.length
 .obtain⟨x,hx,hd,hm⟩:=af hi;obtain⟨P,hP⟩:∃P,srtS lt (l.take i)=P:=⟨_,rfl⟩;have hPl:P.length=i:=by rw[<- hP,jmt,xq];omega
  have hPm:∀y∈P,y∈l:=fun y hy=>by rw[<- hP] at hy;exact xb5 ((jw8 _ _).mem_iff.1 hy)
  have hd0:P.drop i=[]:=xbc omq;have ht0:P.take i=P:=ye omq;rw[hP,hd] at h3;refine run ?_
  refine loop ⟨[0,1,2,3,8,9],[999000],[],[]⟩ (fun y:Nat×List V=>y.1<=i/\(∀z∈P.drop y.1,lt x z=true)/\y.2=ar (P.take y.1++x::P.drop y.1++l.drop (i+1))) (fun y=>y.1)
   (fun y=>⟨53,[(0,.s 999000 0 l.length 8),(1,.v (vi 0)),(2,.v (vi l.length)),(3,.v (.func f cap)),(8,.v (vi i)),(9,.v (vi y.1))],[(999000,.var y.2 none kk)],[]⟩) (i,cs)
   ⟨vo _,by simp only;rw[hd0];simp,by simp only;rw[h3,ht0,hd0];simp⟩ ?_
  rintro⟨j,ds⟩ ⟨g1,g2,g3⟩;simp only at g1 g2 g3;have hdl:ds.length=l.length*8:=by rw[g3,ko];simp;omega
  have hend:(j=0\/∃y,P[j-1]?=some y/\lt x y=false)->ds=ar (srtS lt (l.take (i+1))++l.drop (i+1)):=fun hz=>by
   rw[g3,qmb hx,hP,qwg omq g2 hz]
  cases j with
  |zero=>
   refine run ?_;exact round (i+1,ds) ⟨by simp only;omega,by simp only;omega,hend (.inl rfl)⟩ zeo
  |succ j=>
   obtain⟨y,hy⟩:∃y,P[j]?=some y:=⟨_,gge omq⟩;have hym:=hPm y (vp hy);obtain⟨c,hden,hlt⟩:=hc x hm y hym;have e1:ds.drop ((j+1)*8)=vi x.id::vi x.ofc::vi x.opn::vi x.cld :: .str x.cls :: .str x.title::vi x.pts::ntss x.nts::ar (P.drop (j+1)++l.drop (i+1)):=by rw[g3,jbg,qn7 omq];rfl
   have e2:ds.drop ((j+1-1)*8)=vi y.id::vi y.ofc::vi y.opn::vi y.cld :: .str y.cls :: .str y.title::vi y.pts::ntss y.nts::ar (x::(P.drop (j+1)++l.drop (i+1))):=by rw[g3,jbg,xcg,qjo omq hy];rfl
   refine rcW (ai e1 e2) hden ?_;cases hb:lt x y
   .have hc0:¬c<0:=by rw[hb] at hlt;exact of_decide_eq_false hlt
    refine runW (vf hc0) ?_;exact round (i+1,ds) ⟨by simp only;omega,by simp only;omega,hend (.inr ⟨y,by simpa using hy,hb⟩)⟩ zeo
   have hc0:c<0:=by rw[hb] at hlt;exact xj hlt
   refine runD (ai (vg hc0) (ai e1 e2)) ?_;refine aq gr175 ?_;refine ax (ai e1 e2) ?_
   try simp only[xg,xa,vz,bn,bq]
   have ej:((j+1:Nat):Int)-1=(j:Int):=omq
   have hrow:List.take ((j+1-1)*8) (List.take ((j+1)*8) ds++y.cs++List.drop ((j+1)*8+8) ds)++x.cs++List.drop ((j+1-1)*8+8) (List.take ((j+1)*8) ds++y.cs++List.drop ((j+1)*8+8) ds)=
     ar (P.take j++x::P.drop j++l.drop (i+1)):=by
    have hl2:(P.take (j+1)++x::P.drop (j+1)++l.drop (i+1)).length=l.length:=by
     simp only[vr,List.length_cons,xq,xw];omega
    rw[g3,jvt y (by rw[hl2];omega),xcg,jvt x (by rw[yc,hl2];omega),qwf omq hy]
   rw[hrow,ej];refine round (j,ar (P.take j++x::P.drop j++l.drop (i+1))) ⟨by simp only;omega,fun z hz=>?_,rfl⟩ zeo;simp only at hz;rw[xat omq] at hz;rcases vt.1 hz with rfl|hz
   .obtain⟨_,rfl⟩:=gsi.1 hy;exact hb
   exact g2 z hz
 have hil:i=l.length:=omq;subst hil;have h4:cs=ar (srtS lt l):=by rw[h3,yk,List.drop_length,xd]
 rw[h4];exact zdt
theorem qqn(c:UInt8):Lib.upperB c=upB c:=by
 unfold Lib.upperB upB Lib.isLowerB;by_cases h:97<=c.toNat/\c.toNat<=122
 .rw[ve h,ve zev]
 rw[vd h,vd zev]
theorem qn1(c:UInt8)(hc:c.toNat<128):Den prog T 293 [.str [c]] (.str [upB c]):=by
 refine⟨fun args w=>call293 args w,fun w F xs hF hl hx=>?_⟩;obtain⟨x,rfl,h1⟩:=jcw hx;obtain rfl:=cw h1;refine(Any.strings_ToUpper_ascii Tryz.lays158 Tryz.Builder_Extra_158 ⟨#[c]⟩ w (by show (1:Nat)<=_;decide) ?_).mono ?_
 .intro j b hb;have hb':[c][j]?=some b:=hb;cases j with
  |zero=>simp at hb';subst hb';exact hc
  |succ j=>simp at hb'
 rintro e w' ⟨rfl,hb⟩;refine⟨_,F,rfl,tp hF hb,?_⟩;have:(Lib.toUpperA (⟨#[c]⟩:ByteArray).data.toList)=[upB c]:=by rw[<- qqn];rfl
 rw[this];exact .str _
theorem qza(s:Str)(c:UInt8):decide (0<=Lib.indexByte s c)=s.any fun b=>decide (b=c):=by
  induction s with
  |nil=>rfl
  | cons b r ih=>
    rw[List.any_cons];unfold Lib.indexByte;by_cases h:b=c
    . rw[vl h,xam];simp[h]
    rw[vw h,xav,<- ih,vd (by rw[xax];exact h)]
    have hr: -1<=Lib.indexByte r c:=by
      clear ih
      induction r with
      |nil=>exact Int.le_refl _
      | cons a t iht => unfold Lib.indexByte; split; · decide
                        split; · decide
                        omega
    by_cases h2:Lib.indexByte r c= -1
    . rw[ve (by rw[xax];exact h2),h2]
    rw[vd (by rw[xax];exact h2)];exact xc9.2 omq
theorem qw6(s:Str)(c:UInt8):Den prog T 189 [.str s,.str [c]] (vb (s.any fun b=>decide (b=c))):=by
 refine⟨fun args w=>call189 args w,fun w F xs hF hl hx=>?_⟩;obtain⟨x,y,rfl,h1,h2⟩:=jcv hx;obtain rfl:=cw h1;obtain rfl:=cw h2;refine(Any.strings_Contains_one Tryz.lays144 ⟨s.toArray⟩ c w).mono ?_;rintro e w' ⟨rfl,rfl⟩;refine⟨_,_,rfl,Ext.refl hF,?_⟩;rw[<- qza];exact .val _
theorem qso(s:Smp)(f:Fil)(hf:∀c∈f.title,c.toNat<128):Den prog T 292 [.agg s.cs,.agg f.cs] (vb (jfq s f)):=by
 refine ab call292 func292 17 ?_;unfold jfq;obtain⟨t,ht⟩:∃t,f.title=t:=⟨_,rfl⟩;rw[ht] at hf;cases t with
 |nil=>
  rw[ht];refine runW ht ?_;exact fin rfl
 |cons c r=>
  rw[ht];have h1:((c::r == []):Bool)=false:=rfl;refine rcW (ai ht h1) (qn1 c (hf c (yo ..))) ?_;refine rcW (ai ht h1) (qw6 s.seed (upB c)) ?_;exact za
theorem qx8(s:Smp)(f:Fil):Den prog T 295 [.agg s.cs,.agg f.cs] (vb (pntB s f)):=by
 refine ab call295 func295 10 ?_;exact za
theorem qkf(s:Smp)(f:Fil)(g:FuncId)(b:Bool)(h:Den prog T g [.agg s.cs,.agg f.cs] (vb b)):
  Den prog T 284 [.agg f.cs,.row [.func g []],.row s.cs] (vb (!b)):=by
 refine ab call284 func284 10 ?_;refine rc h ?_;exact za
theorem qos(i m:Int)(c sd:Str)(n k:Nat)(l:List Fil)(h1:1<=n)(hb:n<=256)(hk:k<=256)(hl:l.length<=1048576):
  Den prog T 286 [.agg (Smp.cs ⟨i,m,n,k,c,sd⟩),fils l] (fils (evL n k l)):=by
 refine ab call286 func286 25 ?_;refine run ?_
 refine loop ⟨[1,2,5,6],[2],[5],[(5,52,8)]⟩ (fun y:Nat×List Fil=>y.1<=l.length+256/\y.2.length<=y.1/\y.2++evL n 0 (l.drop y.1)=evL n k l) (fun y=>l.length-y.1)
  (fun y=>⟨25,[(1,.v (fils l)),(2,.p 2 0),(5,.v (fils y.2)),(6,.v (vi y.1))],[(2,.var (Smp.cs ⟨i,m,n,k,c,sd⟩))],[(52,[5])]⟩) (k,[]) ⟨by simp only;omega,vj _,by rw[List.nil_append,<- jnt]⟩ ?_
 rintro⟨j,out⟩ ⟨hj,hlen,ho⟩;simp only at hj hlen ho;by_cases hjl:j<l.length
 .obtain⟨f,hx,-,hm⟩:=af hjl;rw[qsb h1 hx] at ho;have hap:out.map Fil.cs++[f.cs]=(out++[f]).map Fil.cs:=by simp
  refine runW (ai hx hap) ?_;refine round (j+n,out++[f]) ⟨by simp only;omega,by simp;omega,by simp only;rw[xb];exact ho⟩ zeo
 rw[je hjl,jiq,xd] at ho;refine run ?_;exact fin (by rw[<- ho])
theorem ql6(kk:Option (TypeId×Nat×Nat))(l:List Fil)(f:FuncId)(cap:List V)(lt:Fil->Fil->Bool)(hl:l.length<20)(h0:l≠[])(hc:CmpF T f cap lt l):
  DenS prog T 393 [(999000,.var (ar l) none kk)] [] [.s 999000 0 l.length 8,.v (vi l.length),.v (.func f cap)] [(999000,.var (ar (srtS lt l)) none kk)] [] (.v (.tup [])):=by
 have hlen:0<l.length:=yn.2 h0;have hn:((20:Int)<=(l.length:Int))=False:=vf omq;have hn2:((20:Int)<(l.length:Int))=False:=vf omq;refine bx follows (fun args w=>call393 args w) func393 rfl 63 rfl rfl ?_;refine run ?_
 refine loop ⟨[0,1,2,6,7,8],[999000],[],[]⟩ (fun _:Unit=>True) (fun _=>0)
  (fun _=>⟨63,[(0,.s 999000 0 l.length 8),(1,.v (vi l.length)),(2,.v (.func f cap)),(6,.v (vi 20)),(7,.v (vi 0)),(8,.v (vi 20))],[(999000,.var (ar l) none kk)],[]⟩) () trivial ?_
 rintro⟨⟩ -;refine runW hn ?_;refine gh [(999000,999000)] (qpe kk l f cap lt omq h0 hc) (.cons (.s rfl) (.cons (.v _) (.cons (.v _) (.cons (.v _) .nil)))) ?_ ?_
 .intro x hx;simp only[xn] at hx;subst hx;exact zcf
 refine run ?_
 refine loop ⟨[0,1,2,6,7,8],[999000],[],[]⟩ (fun _:Unit=>True) (fun _=>0)
  (fun _=>⟨63,[(0,.s 999000 0 l.length 8),(1,.v (vi l.length)),(2,.v (.func f cap)),(6,.v (vi 20)),(7,.v (vi 0)),(8,.v (vi 20))],[(999000,.var (ar (srtS lt l)) none kk)],[]⟩) () trivial ?_
 rintro⟨⟩ -;refine runW hn2 ?_;exact zbo
theorem qpc(kk:Option (TypeId×Nat×Nat))(l:List Fil)(f:FuncId)(cap:List V)(lt:Fil->Fil->Bool)(hl:l.length<20)(h0:l≠[])(hc:CmpF T f cap lt l):
  DenS prog T 342 [(999000,.var (ar l) none kk)] [] [.s 999000 0 l.length 8,.v (.func f cap)] [(999000,.var (ar (srtS lt l)) none kk)] [] (.v (.tup [])):=by
 have hlen:0<l.length:=yn.2 h0;refine bx follows (fun args w=>call342 args w) func342 rfl 9 rfl rfl ?_;refine run ?_;refine gh [(999000,999000)] (ql6 kk l f cap lt hl h0 hc) (.cons (.s rfl) (.cons (.v _) (.cons (.v _) .nil))) ?_ ?_
 .intro x hx;simp only[xn] at hx;subst hx;exact zcf
 exact zdt
theorem qoq(f:FuncId)(cap:List V):Den prog T 418 [fils [],vi 0,vi 0,.func f cap] (.tup []):=by
 refine ab call418 func418 53 ?_;refine run ?_;refine loop ⟨[0,1,2,3,8],[],[],[]⟩ (fun _:Unit=>True) (fun _=>0) (fun _=>⟨53,[(0,.v (fils [])),(1,.v (vi 0)),(2,.v (vi 0)),(3,.v (.func f cap)),(8,.v (vi 1))],[],[]⟩) () trivial ?_;rintro⟨⟩ -;exact zca
theorem qjy(f:FuncId)(cap:List V):Den prog T 393 [fils [],vi 0,.func f cap] (.tup []):=by
 refine ab call393 func393 63 ?_;refine run ?_
 refine loop ⟨[0,1,2,6,7,8],[],[],[]⟩ (fun _:Unit=>True) (fun _=>0)
  (fun _=>⟨63,[(0,.v (fils [])),(1,.v (vi 0)),(2,.v (.func f cap)),(6,.v (vi 20)),(7,.v (vi 0)),(8,.v (vi 20))],[],[]⟩) () trivial ?_
 rintro⟨⟩ -;refine rc (qoq f cap) ?_;refine run ?_
 refine loop ⟨[0,1,2,6,7,8],[],[],[]⟩ (fun _:Unit=>True) (fun _=>0)
  (fun _=>⟨63,[(0,.v (fils [])),(1,.v (vi 0)),(2,.v (.func f cap)),(6,.v (vi 20)),(7,.v (vi 0)),(8,.v (vi 20))],[],[]⟩) () trivial ?_
 rintro⟨⟩ -;exact zca
theorem qny(f:FuncId)(cap:List V):Den prog T 342 [fils [],.func f cap] (.tup []):=by
 refine ab call342 func342 9 ?_;refine rc (qjy f cap) ?_;exact zca
def cmpS(a b:Str):Int:=if Op.bytesLess a b=true then -1 else if(Op.bytesLess a b || a == b)=true then 0 else 1
theorem jzo(a:Str):Den prog T 394 [.str a] (vb false):=by
 refine ab call394 func394 6 ?_;have h:(a == a)=true:=xb1 a;refine runW h ?_;exact fin rfl
theorem qsw(a b:Str):Den prog T 344 [.str a,.str b] (vi (cmpS a b)):=by
 refine ab call344 func344 20 ?_;refine rc (jzo a) ?_;refine rc (jzo b) ?_;unfold cmpS;cases h1:Op.bytesLess a b
 .rw[vd dcq,xav];cases h2:a == b
  .rw[vd dcq];refine runW (ai h1 h2) ?_;exact fin rfl
  rw[ve rfl];refine runW (ai h1 h2) ?_;exact fin rfl
 rw[ve rfl];refine runW h1 ?_;exact fin rfl
theorem qxu(a b:Str):decide (cmpS a b<0)=Op.bytesLess a b:=by
 unfold cmpS;cases h1:Op.bytesLess a b
 .rw[vd dcq];split<;>rfl
 rw[ve rfl];rfl
theorem qsq(L:LibT T)(sd:Str)(hs:sd.length<=1000000)(a b:Fil)(ha:0<=a.id/\a.id<=1073741824)(hb:0<=b.id/\b.id<=1073741824):
  Den prog T 343 [.agg a.cs,.agg b.cs,.row [.str sd]] (vi (cmpS (scrD sd a.id) (scrD sd b.id))):=by
 refine ab call343 func343 15 ?_;refine rc (jto L sd a.id hs ha) ?_;refine rc (jto L sd b.id hs hb) ?_;refine rc (qsw (scrD sd a.id) (scrD sd b.id)) ?_;exact za
theorem qv9(l:List Fil)(n:Nat):(l.map Fil.cs).take n=(l.take n).map Fil.cs:=by rw[xb4]
theorem qoa(L:LibT T)(sd:Str)(hs:sd.length<=1000000)(l:List Fil)(n:Nat)(hn:n<=l.length)(hl:l.length<20)(hid:∀f∈l,0<=f.id/\f.id<=1073741824):
  Den prog T 289 [.str sd,fils l,vi n] (fils (leaF sd l n)):=by
 refine ab call289 func289 16 ?_;refine run ?_;refine pu (jg9 l omq) (fun hz=>?_) (fun hz=>?_)
 .have hz':l=[]:=by simpa using hz
  subst hz';have hn0:n=0:=by simpa using hn
  subst hn0;refine rc (qny _ _) ?_;exact za
 have hz':l≠[]:=fun e=>hz (by rw[e];rfl);have hlen:(l.map Fil.cs).length=l.length:=by simp
 rw[show (l.map Fil.cs).flatten=ar l from rfl];refine runW hlen ?_;have hcmp:CmpF T 343 [.row [.str sd]] (scrB sd) l:=fun a ha b hb=>⟨_,qsq L sd hs a b (hid a ha) (hid b hb),qxu _ _⟩;have hD:=qpc (T:=T) none l 343 [.row [.str sd]] (scrB sd) hl hz' hcmp;refine gh [(999000,9)] hD (.cons (.s rfl) (.cons (.v _) .nil)) ?_ ?_
 .intro x hx;simp only[xn] at hx;subst hx;exact⟨9,_,rfl,rfl,rfl,.inl rfl,rfl⟩
 have hSl:=jmt (scrB sd) l;unfold leaF;generalize srtS (scrB sd) l=S at hSl;by_cases hn0:n=0
 .subst hn0;exact za
 have hn1:(0=n)=False:=vf omq;have hcl:=ko S
 have hcc:be 0 n 8 (ar S)=(S.take n).map Fil.cs:=by
  have h1:=jbd S;rw[<- qv9,<- h1];unfold be;rw[<- xb4,List.take_range,xaw omq]
 generalize ar S=C at hcl hcc;refine runW hn1 ?_;refine qed (Wk.of ?_) ?_
 .rw[show fils (S.take n)=.slice 8 ((S.take n).map Fil.cs) from rfl,<- hcc,Nat.sub_zero]
 rw[hcl];omega
theorem jxm(s:Smp)(g:FuncId)(p:Fil->Bool)(l:List Fil)(hl:l.length<=1048576)(hp:∀f∈l,Den prog T g [.agg s.cs,.agg f.cs] (vb (p f))):
  Den prog T 283 [.agg s.cs,fils l,.row [.func g []]] (fils (l.filter p)):=by
 have hfil:(l.filter fun e=> !(!p e))=l.filter p:=by
  congr 1
  funext e
  rw[Bool.not_not]
 refine ab call283 func283 10 ?_;refine run ?_;refine pu (jg9 l hl) (fun hz=>?_) (fun hz=>?_)
 .have hz':l=[]:=by simpa using hz
  subst hz';refine rc (jts _ _) ?_;exact za
 have hz':l≠[]:=fun e=>hz (by rw[e];rfl);have hlen:(l.map Fil.cs).length=l.length:=by simp
 rw[show (l.map Fil.cs).flatten=ar l from rfl];refine runW hlen ?_;have hD:=ju1 (T:=T) l 284 [.row [.func g []],.row s.cs] (fun f=> !p f) hl hz' fun f hf=>qkf s f g (p f) (hp f hf);rw[hfil] at hD;refine dx 7 hD ?_;by_cases hne:l.filter p=[]
 .rw[ve hne,hne];exact za
 rw[vd hne];have hcl:=ko (l.filter p);have hcc:=jbd (l.filter p);generalize ar (l.filter p)=C at hcl hcc;refine run ?_;refine qed (Wk.of ?_) ?_
 .rw[show fils (l.filter p)=.slice 8 ((l.filter p).map Fil.cs) from rfl,<- hcc]
 rw[hcl];omega
theorem qo7(s:Smp)(l:List Fil)(n:Nat)(hs:s.n=n)(L:LibT T)(hsd:s.seed.length<=1000000)(hl:l.length<20)(hid:∀f∈l,0<=f.id/\f.id<=1073741824):
  Den prog T 288 [.agg s.cs,fils l] (fils (leaF s.seed l (min n l.length))):=by
 obtain⟨i,m,n',k,c,sd⟩:=s;simp only at hs hsd;subst hs;have hL:=fun h=>qoa L sd hsd l (min n l.length) h hl hid;refine ab call288 func288 14 ?_;by_cases h:n<=l.length
 .have e1:min n l.length=n:=xaw h;have e2:((l.length:Int)<(n:Int))=False:=vf omq;rw[e1] at hL ⊢;refine rcW e2 (hL h) ?_;exact za
 have e1:min n l.length=l.length:=xd5 omq;have e2:((l.length:Int)<(n:Int))=True:=vg omq;rw[e1] at hL ⊢;refine rcW e2 (hL (vo _)) ?_;exact za
theorem qpw(r:Rgs)(cls:Str)(d:Int):(cl r cls d).length<=r.fls.length:=xcc _ _
theorem qct(h:smpE s≠0):slcE r s d=smpE s:=ve h
theorem qyv(h:smpE s=0):slcE r s d=jb r s.cls d:=vd (fun e=>e h)
theorem qcs(h:slcE r s d≠0):slcR r s d=[]:=vd h
theorem qr1(h:smpE s=0):(1<=s.mth/\s.mth<=4)/\numB s=true/\uo s=true:=by
 unfold smpE at h;split at h
 .cases h
 rename_i h1;split at h
 .cases h
 split at h
 .cases h
 rename_i h3;simp only[not_or,yt,Bool.not_eq_false] at h1;exact⟨h1.2.1,h1.2.2,by simpa using h3⟩
theorem qzu(h:OkG r){f:Fil}(hf:f∈r.fls):0<=f.id/\f.id<=1073741824:=by
 obtain⟨i,hi⟩:=xci.1 hf;have hb:=(jgh hi (jx8 h hi)).1;unfold badF at hb;omega
theorem qkv(L:LibT T)(r:Rgs)(h:r.Fit)(s:Smp)(hc:s.cls.length<=1048576)(hsd:s.seed.length<=1000000)(d:Int)(hfew:s.mth=2->slcE r s d=0->(cl r s.cls d).length<20):
  Den prog T 170 [.agg r.cs,.agg s.cs,vi d] (.tup [ints (slcR r s d),vi (slcE r s d)]):=by
 have hfl:=h.fls.1;have hcl:=qpw r s.cls d;refine ab call170 func170 36 ?_;refine rc (qgs (libC L) s hc omq) ?_;by_cases h1:smpE s=0
 case neg=>
  rw[qcs (by rw[qct h1];exact h1),qct h1];refine runW h1 ?_;exact finW (jar (.nil 1))
 refine rcW h1 (qf0 (libC L) r h s.cls hc d) ?_;have hE:=qyv (r:=r) (d:=d) h1;by_cases h2:jb r s.cls d=0
 case neg=>
  rw[qcs (by rw[hE];exact h2),hE];refine runW h2 ?_;exact finW (jar (.nil 1))
 have hk:=qu3 h2;have hE0:slcE r s d=0:=hE.trans h2;have hR:slcR r s d=lu (idsF (chsF s (cl r s.cls d))):=by unfold slcR;rw[ve hE0]
 obtain⟨hm,hnum,hseed⟩:=qr1 h1;rw[hE0,hR,qc8 h2];have hcm:∀f∈cl r s.cls d,f∈r.fls:=fun f hf=>(qa4 hf).1;have hlen:=qc6 s (cl r s.cls d);have hids:=qxa (T:=T) (chsF s (cl r s.cls d)) omq;have hlt:=fun hf=>jxm (T:=T) s 292 (jfq s) (cl r s.cls d) omq hf;have hpt:=jxm (T:=T) s 295 (pntB s) (cl r s.cls d) omq fun f _=>qx8 s f;have hlt:=hlt fun f hf=>qso s f (qjc (qqp hk (hcm f hf))).1;obtain⟨N,hN⟩:∃N,cl r s.cls d=N:=⟨_,rfl⟩;have hNid:∀f∈N,0<=f.id/\f.id<=1073741824:=fun f hf=>qzu hk (hcm f (by rw[hN];exact hf));rw[hN] at hcl hids hlt hpt hlen hfew ⊢;obtain⟨i,m,n,k,c,sd⟩:=s;simp only at hc hsd h1 h2 hm hfew hcl;have hm4:m=1\/m=2\/m=3\/m=4:=omq;obtain⟨C,hC⟩:∃C,chsF ⟨i,m,n,k,c,sd⟩ N=C:=⟨_,rfl⟩;rw[hC] at hids hlen ⊢;have hNl:N.length<=1048576:=omq;rcases hm4 with rfl|rfl|rfl|rfl
 .have hnum':(decide (1<=n/\n<=256) && decide (0<=k/\k<=n-1))=true:=hnum;rw[vn,vq,vq] at hnum';obtain⟨n',rfl⟩:∃x:Nat,n=x:=⟨n.toNat,omq⟩;obtain⟨k',rfl⟩:∃x:Nat,k=x:=⟨k.toNat,omq⟩;have hK:=qos (T:=T) i 1 c sd n' k' N omq omq omq hNl;rw[show evL n' k' N=C from hC] at hK;refine rcW h2 ti ?_;refine rc hK ?_;refine rc hids ?_;exact za
 .have hnum':(decide (k=0) && decide (0<=n/\n<=256))=true:=hnum;rw[vn,vq,vq] at hnum';obtain⟨n',rfl⟩:∃x:Nat,n=x:=⟨n.toNat,omq⟩;have hK:=qo7 (T:=T) ⟨i,2,n',k,c,sd⟩ N n' rfl L hsd (hfew rfl hE0) hNid;rw[show leaF sd N (min n' N.length)=C from hC] at hK;refine rcW h2 ti ?_;refine rc hK ?_;refine rc hids ?_;exact za
 .rw[show N.filter (jfq ⟨i,3,n,k,c,sd⟩)=C from hC] at hlt;refine rcW h2 ti ?_;refine rc hlt ?_;refine rc hids ?_;exact za
 rw[show N.filter (pntB ⟨i,4,n,k,c,sd⟩)=C from hC] at hpt;refine rcW h2 ti ?_;refine rc hpt ?_;refine rc hids ?_;exact za
end Go.Arc
