/- A part of this claim. -/
import Derived.Test.YtfbbflhnhmphiaaGreatDoorW197
import Derived.Test.YtfbbflhnhmphiaaGreatDoorW198
import Derived.Test.YtfbbflhnhmphiaaGreatDoorBaP
set_option maxHeartbeats 16000000
set_option maxRecDepth 100000
namespace Go.Arc
open Go.Ab Go.RowKit Go.Proofs Tryz
variable {T : Lay}
variable {e:Evt}{r:Rgs}{l:List V}{j:Nat}{k:Int}{x:Knd}{E:Int}{X:Rgs}
theorem gDD {p q r:Prop} {g:FuncId} {vs:List V} {v:V} (hr:r) (hD:Den prog T g vs v) (h:q) (e:r->Den prog T g vs v->Hide q->p:=by
  intro hr hD z;apply viaA
  .repeat' (first|with_reducible apply yh|(intro hk;exact call hD hk))
  refine gRD hr ?_
  exact z):p:=e hr hD h
theorem qbc(h:knd k=some x): -1<=x.day/\x.day<x.nums:=by
 unfold knd at h;obtain⟨y,hy,rfl⟩:=msi.1 h;have hm:=xb0 hy;have:∀y∈kndT,-1<=y.2.day/\y.2.day<y.2.nums:=by decide
 exact this y hm
theorem jbq(h:br e=true):∃x,knd e.kind=some x/\x.nums<=e.num.length/\dayG e.day=true/\(x.more=true\/e.num.length<=x.nums)/\(e.kind≠3->e.txt.length=x.txts)/\
  (e.kind=3->0<=nth e 2/\0<=nth e 3/\(e.txt.length:Int)=2*nth e 2+2*nth e 3):=by
 unfold br at h;cases hk:knd e.kind with
 |none=>rw[hk] at h;cases h
 |some x=>
  rw[hk] at h;simp only[vn,xbx,vq] at h;obtain⟨⟨⟨⟨-,h2⟩,h3⟩,h4⟩,h5⟩:=h;refine⟨x,rfl,h3,h2,h4,fun h=>?_,fun h=>?_⟩
  .rw[vd h] at h5;simp only[vn,vq] at h5;exact h5.2
  rw[ve h] at h5;simp only[vn,vq] at h5;exact⟨h5.1.1.1.1,h5.1.1.1.2,h5.2⟩
theorem qq6(h:br e=false):appl r e=(aj,1):=by unfold appl;rw[ve h]
theorem qq4(h:br e=true)(hl:e.day<r.chg\/bt e=true):appl r e=(aj,5):=by unfold appl;rw[vd zey,ve hl]
theorem qut(h:br e=true)(hl:¬(e.day<r.chg\/bt e=true))(hE:(actK r e).2=E)(h0:E≠0):appl r e=(aj,E):=by
 unfold appl;rw[vd zey,vd hl,ve (by rw[hE];exact h0),hE]
theorem qur(h:br e=true)(hl:¬(e.day<r.chg\/bt e=true))(hE:(actK r e).2=0)(hX:(actK r e).1=X)(h0:da (di X e.day)≠0):appl r e=(aj,da (di X e.day)):=by
 unfold appl;rw[vd zey,vd hl,vd (by rw[hE];decide),hX,ve h0]
theorem qq5(h:br e=true)(hl:¬(e.day<r.chg\/bt e=true))(hE:(actK r e).2=0)(hX:(actK r e).1=X)(h0:da (di X e.day)=0):appl r e=(di X e.day,0):=by
 unfold appl;rw[vd zey,vd hl,vd (by rw[hE];decide),hX,vd (fun g=>g h0)]
abbrev qd7:List Gent:=gd 6 [[0,1,0],[2,0,0,2,2,4,1],[3,2,2,4,4],[18,0,3,2,2],[6,0,0,4,1],[7,3,2,4,3],[22,0,2,0,0,0],[19,2,1,0,0,0],[15,4,1,0,0,0],[23,3,0,0,0,0],[31,5,0,0,0,0],[63]]
abbrev qd6:List Gent:=gd 21 [[0,0,0],[1,2,0],[5,1,1,3,0],[13,1,1,0,0,0],[7,3,0,0,0,0],[15,4,0,0,0,0],[31,5,0],[63,6,0,0,0,0],[127,7,0,0,0,0],[255,8,0,0,0,0],[511,9,0,0,0,0],[1023,10,1,12,0,16,2],[5119,10,2,13,4,16,6],[2047,11,2,12,1,16,4],[66559,10,3,12,4,17,5],[6143,11,6,13,5,16,9],[4095,12,5,16,7],[13311,10,3,16,8],[67583,11,5,12,6,17,4],[70655,10,5,13,6,17,7],[197631,10,2,12,6],[14335,11,6,16,7],[8191,13,5,16,7],[198655,11,7,12,8],[69631,12,5,17,6],[71679,11,4,13,3,17,6],[78847,10,2,17,6],[201727,10,4,13,5],[16383,14,5,16,7],[79871,11,6,17,7],[73727,13,5,17,4],[200703,12,3,0,0,0],[202751,11,2,13,4],[209919,10,3,0,0,0],[32767,15,4,16,5],[204799,13,2,0,0,0],[81919,14,3,17,1],[210943,11,0,0,0,0],[212991,14,3,0,0,0],[65535,16,1,0,0,0],[98303,15,0,17,1],[131071,17,1,0,0,0],[229375,15,0,0,0,0],[262143,18,0,0,0,0],[524287,19,0,0,0,0],[1048575,20,0,0,0,0],[2097151]]
abbrev cz(r:Rgs)(e:Evt):V:=.tup [.agg (appl r e).1.cs,vi (appl r e).2]
theorem qkr(r:Rgs)(e:Evt)(ht:e.txt.length<=60)(hb:br e=false\/e.day<r.chg\/bt e=true):Den prog T 24 [.agg r.cs,.agg e.cs] (cz r e):=by
 have hf:=jvd (T:=T) e ht;cases hform:br e
 .unfold cz;rw[qq6 hform];rw[hform] at hf;refine ab call24 func24 67 ?_;refine rc hf ?_;refine run ?_;exact zbw
 have hb:e.day<r.chg\/bt e=true:=by
  rcases hb with hb|hb
  .rw[hform] at hb;cases hb
  exact hb
 unfold cz;rw[qq4 hform hb];rw[hform] at hf;obtain⟨x,hk,h3,-⟩:=jbq hform;have hfs:=jkq e.kind;rw[hk] at hfs;refine ab call24 func24 67 ?_;refine rc hf ?_;refine runD trivial ?_;refine aq qd7 ?_;refine gRD hfs ?_;refine gDD hfs jhk ?_;refine aq qd6 ?_;by_cases a1:e.day<r.chg
 .refine gR (vg a1) ?_;exact zbw
 have hl:bt e=true:=hb.resolve_left a1;unfold bt at hl;rw[hk] at hl;simp only[vn,vq] at hl;have hd:=qbc hk;have hn:=jel (e:=e) (i:=x.day.toNat) omq;refine gR (ai (ai (vf a1) (ai (vg hl.1) (vg hl.2))) hn) ?_;exact zbw
def ActD(T:Lay)(f:FuncId)(e:Evt)(X:Rgs)(E:Int)(cs:List V)(ro:Option Blk):Prop:=
 (∃c0,(E=0->c0=X.cs)/\DenS prog T f ([(999000,.var cs),(999001,.var (rdC e.num e.txt e.day))]++rowL 999050 ro) [] rgA ([(999000,.var c0),(999001,.var (rdC [] [] e.day))]++rowL 999050 (ro.map fun _=>.con [])) [] (.v (vi E)))\/
 DenV prog T f [(999000,.var cs),(999001,.var (rdC e.num e.txt e.day))] 999050 ro rgA (jjk X e.day E)
theorem jjj {p:Prop} (h:p:=by
  by_cases hz:E=0
  .obtain rfl:=hc0 hz;refine runW (ai (vg hz) FC) ?_;refine rc hck ?_;by_cases h0:da (di X e.day)=0
   .rw[qq5 hform hl (hA.trans hz) (hAX hz) h0];refine runW (ai (vg h0) FC) ?_;exact fin rfl
   rw[qur hform hl (hA.trans hz) (hAX hz) h0];refine runW (ai (vf h0) FC) ?_;exact zbw
  .rw[qut hform hl hA hz];refine runW (ai (vf hz) FC) ?_
   exact finW (fi _)):p:=h
theorem qdu {p:Prop} (h:p:=by
  refine fg (jda 41 hC ?_ ?_)
  .intro rr hP;obtain⟨g,rfl,hg,-,hD⟩:=hV none rr hP;rcases hD with⟨c0,hc0,hD⟩|hD
   .simp only[rowL,Option.map_none,xd] at hD;refine runW (ai hg FC) ?_;refine gh [(999000,7),(999001,51)] hD (.cons (.p rfl) (.cons (.p rfl) .nil)) ?_ ?_
    .intro y hy;simp only[vt,yl,xx] at hy;rcases hy with rfl|rfl
     .exact zcu
     exact zcq
    exact jjj
   refine runW (ai hg FC) ?_;refine jd9 ⟨[(999000,7),(999001,51)],999050,41,_,_,_,_,hD,.cons (.p rfl) (.cons (.p rfl) .nil),rfl,rfl,?_,(fun _=>rfl),(by show (41:Nat)<67;decide),?_⟩
   .intro y hy;simp only[rowL,xd,vt,yl,xx] at hy;rcases hy with rfl|rfl
    .exact zcu
    exact zcq
   rintro ks b v ⟨c0,rfl,rfl,hc0⟩;refine⟨rfl,fun _=>?_⟩;simp only[bg,setb,lk,ay,jr,sg,sx,sy,sf,Nat.reduceEqDiff,↓reduceIte,Blk.wn,Blk.nm,remK,dh,sc,cond_false];exact jjj
  .intro b rr hP hnm;obtain⟨g,rfl,hg,hb,hD⟩:=hV _ rr hP;obtain⟨hcon,p,hp⟩:=hb b rfl;rcases hD with⟨c0,hc0,hD⟩|hD
   .simp only[rowL,Option.map_some,List.cons_append,List.nil_append] at hD;refine runW (ai hg FC) ?_;refine gh [(999000,7),(999001,51),(999050,41)] hD (.cons (.p rfl) (.cons (.p rfl) .nil)) ?_ ?_
    .intro y hy;simp only[vt,yl,xx] at hy;rcases hy with rfl|rfl|rfl
     .exact zcu
     .exact zcq
     exact⟨41,b,rfl,rfl,rfl,.inr rfl,hcon⟩
    exact jjj
   .refine runW (ai hg FC) ?_;refine jd9 ⟨[(999000,7),(999001,51)],999050,41,_,some b,_,_,hD,.cons (.p rfl) (.cons (.p rfl) .nil),rfl,rfl,?_,(fun h=>nomatch h),(by show (41:Nat)<67;decide),?_⟩
    .intro y hy;simp only[rowL,List.cons_append,List.nil_append,vt,yl,xx] at hy;rcases hy with rfl|rfl|rfl
     .exact zcu
     .exact zcq
     exact⟨41,b,rfl,rfl,rfl,.inr rfl,hcon⟩
    rintro ks b2 v ⟨c0,rfl,rfl,hc0⟩;refine⟨rfl,fun _=>?_⟩;simp only[bg,setb,lk,ay,jr,sg,sx,sy,sf,Nat.reduceEqDiff,↓reduceIte,Blk.wn,Blk.nm,remK,dh,sc,cond_false]
    exact jjj):p:=h
theorem jky(L:LibT T)(r X:Rgs)(e:Evt)(hX:(di X e.day).Fit)(ht:e.txt.length<=60)(E:Int)(hform:br e=true)(hl:¬(e.day<r.chg\/bt e=true))(hA:(actK r e).2=E)(hAX:E=0->(actK r e).1=X) 
  (PC:Option Blk->V->Prop) (hC:DenU prog T 47 [.agg r.cs] PC)
  (hV:∀ro v,PC ro v->∃g:Nat->V,v=.agg [g 0,g 1,g 2,g 3,g 4,g 5,g 6,g 7,g 8,g 9,g 10,vi r.chg]/\(∀i,(g i).one=true)/\(∀b,ro=some b->b.isCon=false/\∃p,b.nm=some p)/\
   ActD T (fnK e.kind) e X E [g 0,g 1,g 2,g 3,g 4,g 5,g 6,g 7,g 8,g 9,g 10,vi r.chg] ro):
  Den prog T 24 [.agg r.cs,.agg e.cs] (cz r e):=by
 have hf:=jvd (T:=T) e ht;have hck:=jgk L (di X e.day) hX;have FC:=ai am (ai ao ac);rw[hform] at hf;obtain⟨x,hk,h3,-⟩:=jbq hform;have hfs:=jkq e.kind;rw[hk] at hfs;have a1:¬e.day<r.chg:=fun h=>hl (.inl h)
 have a2:bt e=false:=by
  cases h:bt e
  .rfl
  exact absurd (.inr h) hl
 unfold bt at a2;rw[hk] at a2;simp only[Bool.and_eq_false_iff,xbl] at a2;have hd:=qbc hk;unfold cz;refine ab call24 func24 67 ?_;refine rc hf ?_;refine runD trivial ?_;refine aq qd7 ?_;refine gRD hfs ?_;refine gDD hfs jhk ?_;refine aq qd6 ?_;by_cases a0:0<=x.day
 .have hn:=jel (e:=e) (i:=x.day.toNat) omq;have a3:=a2.resolve_left (fun h=>h a0);refine gR (ai (ai (vf a1) (ai (vg a0) (vf a3))) hn) ?_;exact qdu
 refine gR (ai (vf a1) (vf a0)) ?_;exact qdu
theorem jwd(hj:j<l.length)(a b:V):ba (ba l j [a]) j [b]=ba l j [b]:=by
 have h1:j+[a].length<=l.length:=by simp;omega
 have h2:j+[b].length<=l.length:=by simp;omega
 have h3:j+[b].length<=(ba l j [a]).length:=by rw[rj h1];exact h2
 refine xc6 fun i=>?_;rw[dy h3,dy h2,dy h1];simp only[List.length_singleton];by_cases hi:j<=i/\i<j+1
 .rw[ve hi,ve hi]
 rw[vd hi,vd hi,vd hi]
theorem jui{a:V}(h:l[j]?=some a):ba l j [a]=l:=by
 have hj:=(gsi.1 h).1;have h1:j+[a].length<=l.length:=by simp;omega
 refine xc6 fun i=>?_;rw[dy h1];simp only[List.length_singleton];by_cases hi:j<=i/\i<j+1
 .rw[ve hi];have:i=j:=omq;subst this;simp[h]
 rw[vd hi]
theorem xaf{X0:Rgs}{f:FuncId}{ty:TypeId}{z n:Nat}{es:List (List V)}{row:List V}(hD:DenS prog T f (rgB r e.num e.txt e.day) [(ty,[plc 999000 j])] rgA (rgB X0 [] [] e.day) [] (.v (vi E)))(hX:E=0->X0.cs=X.cs) 
  (hcell:r.cs[j]?=some (.slice z es)) (hlen:es.length=n) (hch:be 0 n z row=es) (hrow:row.length=n*z) (hz:prog.cellsOf ty=z) (s:Option (Nat×Nat)) (hs:okB n s):
  ActD T f e X E (ba r.cs j [sOpt n s]) (s.map fun x=>.var row (some x.1) (some (ty,z,x.2))):=by
 have hj:j<r.cs.length:=(gsi.1 hcell).1;have hj12:j<12:=hj
 have hcs:∀a:V,(ba r.cs j [a])[j]?=some a:=fun a=>by
  have h1:j+[a].length<=r.cs.length:=by simp only[List.length_singleton];omega
  rw[dy h1,ve ⟨vo _,smq⟩];simp
 refine .inl ⟨X0.cs,hX,?_⟩;cases s with
 |none=>
  have hn:n=0:=hs;have hes:es=[]:=yg (hlen.trans hn);subst hes;refine DenS.own0 (id:=999000) (j:=j) (z:=z) (cs:=ba r.cs j [sOpt n none]) (e:=ty) hD (fun i=>?_) ?_ (hcs _) omq
  .show Ab.look i [(999000,Blk.var (ba r.cs j [sOpt n none])),(999001,Blk.var (rdC e.num e.txt e.day))]=_
   rw[ae,ae];by_cases hi:i=999000
   .rw[ve hi,ve hi]
   rw[vd hi,vd hi,ae,vd hi,ae]
  rw[jwd hj,jui hcell];rfl
 |some x=>
  obtain⟨b,c⟩:=x;obtain⟨hc1,hc2⟩:n<=c/\c<=maxLen:=hs;refine DenS.own (id:=999000) (R:=999050) (j:=j) (n:=n) (cap:=c) (z:=z) (b:=b) (cs:=ba r.cs j [sOpt n (some (b,c))]) (ds:=row) (e:=ty) hD ⟨fun i=>?_,fun i=>?_,?_,rfl,dcq,fun i h=>?_⟩ (hcs _) hc1 hrow hz omq
  .show Ab.look i [(999000,Blk.var (ba r.cs j [sOpt n (some (b,c))])),(999001,Blk.var (rdC e.num e.txt e.day)),(999050,Blk.var row (some b) (some (ty,z,c)))]=_
   simp only[ae,dk];by_cases h1:i=999050
   .subst h1;rfl
   rw[vd h1];by_cases h2:i=999000
   .rw[ve h2,vd h1,ve h2]
   rw[vd h2,vd h1,vd h2,vd h2]
  .show Ab.look i [(999000,Blk.var X0.cs),(999001,Blk.var (rdC [] [] e.day)),(999050,Blk.con [])]=_
   simp only[ae,dk];by_cases h1:i=999050
   .subst h1;rfl
   rw[vd h1,vd h1]
  .rw[jwd hj,hch,jui hcell];rfl
  have hk:Ab.look i [(999000,Blk.var X0.cs),(999001,Blk.var (rdC [] [] e.day))]≠none:=h;simp only[ae,dk] at hk;by_cases h1:i=999000
  .subst h1;exact⟨(fun h=>nomatch h),dcq⟩
  rw[vd h1] at hk;by_cases h2:i=999001
  .subst h2;exact⟨(fun h=>nomatch h),dcq⟩
  rw[vd h2] at hk;exact absurd rfl hk
theorem jn5(l:List V)(h:∀c∈l,c.one=true)(i:Nat):(l.getD i (vi 0)).one=true:=by
 rw[xcy];cases hx:l[i]? with
 |none=>rfl
 |some c=>exact h c (vp hx)
theorem jwk(h:∀c∈l,c.one=true)(hj:j<l.length){v:V}(hv:v.one=true):∀c∈ba l j [v],c.one=true:=fun c hc=>by
 have h1:j+[v].length<=l.length:=by simp only[List.length_singleton];omega
 obtain⟨i,hi⟩:=xm hc;rw[dy h1] at hi;split at hi
 .have:=vp hi;simp at this;subst this;exact hv
 exact h c (vp hi)
theorem jyr(n:Nat)(s:Option (Nat×Nat)):(sOpt n s).one=true:=by cases s<;>rfl
theorem num1(h:e.num.length=1):e.num=[nth e 0]:=by
 unfold nth;match h2:e.num,h with|[a],_=>rfl
theorem num2(h:e.num.length=2):e.num=[nth e 0,nth e 1]:=by
 unfold nth;match h2:e.num,h with|[a,b],_=>rfl
theorem num3(h:e.num.length=3):e.num=[nth e 0,nth e 1,nth e 2]:=by
 unfold nth;match h2:e.num,h with|[a,b,c],_=>rfl
theorem num4(h:e.num.length=4):e.num=[nth e 0,nth e 1,nth e 2,nth e 3]:=by
 unfold nth;match h2:e.num,h with|[a,b,c,d],_=>rfl
theorem num5(h:e.num.length=5):e.num=[nth e 0,nth e 1,nth e 2,nth e 3,nth e 4]:=by
 unfold nth;match h2:e.num,h with|[a,b,c,d,f],_=>rfl
theorem num6(h:e.num.length=6):e.num=[nth e 0,nth e 1,nth e 2,nth e 3,nth e 4,nth e 5]:=by
 unfold nth;match h2:e.num,h with|[a,b,c,d,f,g],_=>rfl
theorem numR(h:2<=e.num.length):e.num=nth e 0::nth e 1::e.num.drop 2:=by
 unfold nth;match h2:e.num,h with|a::b::l,_=>rfl
theorem txt0(h:e.txt.length=0):e.txt=[]:=yg h
theorem txt1(h:e.txt.length=1):e.txt=[tth e 0]:=by
 unfold tth;match h2:e.txt,h with|[a],_=>rfl
theorem txt2(h:e.txt.length=2):e.txt=[tth e 0,tth e 1]:=by
 unfold tth;match h2:e.txt,h with|[a,b],_=>rfl
theorem ir(h:br e=true)(hk:e.kind=k)(hx:knd k=some x)(h3:k≠3):(x.more=false->e.num.length=x.nums)/\x.nums<=e.num.length/\e.txt.length=x.txts:=by
 obtain⟨y,h1,h2,-,h4,h5,-⟩:=jbq h;rw[hk,hx] at h1;cases h1;refine⟨fun hm=>?_,h2,h5 (by rw[hk];exact h3)⟩;rcases h4 with h4|h4
 .rw[hm] at h4;cases h4
 omega
end Go.Arc
