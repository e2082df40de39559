/- A part of this claim. -/
import Derived.Test.YtfbbflhnhmphiaaGreatDoorBaN
set_option maxRecDepth 100000
namespace Go.Arc
open Go.Ab Go.RowKit Go.Proofs Tryz
variable {T : Lay}
variable {l:List Plan}{d:Int}{f:Fil}{s:Str}{x:Note}
theorem jvc(l:List Note)(f:FuncId)(cap:List V)(p:Note->Bool)(hl:l.length<=1048576)(hp:∀e∈l,Den prog T f (.agg e.cs::cap) (vb (p e))):
   Den prog T 208 [ntss l,.func f cap] (vi (ix p l)):=by
  refine ab call208 func208 19 ?_;exact ixPf
theorem jtw(l:List Note)(f:FuncId)(cap:List V)(p:Note->Bool)(hl:l.length<=1048576)(hp:∀e∈l,Den prog T f (.agg e.cs::cap) (vb (p e))):
   Den prog T 352 [ntss l,.func f cap] (vb (l.any p)):=by
  refine ab call352 func352 9 ?_;refine rc (jvc l f cap p hl hp) ?_;exact zbr
theorem flatN:∀(l:List Note),∀e∈l.map Note.cs,∀c∈e,c.flat=true:=by
 intro l e he c hc;obtain⟨n,-,rfl⟩:=ya.1 he;simp only[Note.cs,vt,xbh,xx] at hc;rcases hc with rfl|rfl|rfl|rfl<;>rfl
theorem jdf(l:List Note)(hl:l.length<=1048576):DenO prog T 104 [ntss l] 162 (ntss l):=by
 refine pz call104 func104 8 ?_;cases l with
 |nil=>
  refine run ?_;intro b;cases b
  .exact zu
  refine run ?_;exact finO (.nil 4)
 |cons x r=>
  have h:r.length+1<=1048576:=hl;have e:ntss (x::r)=.slice 4 (x.cs::r.map Note.cs):=rfl;rw[e];exact zu
theorem qf5(l:List Note)(hl:l.length<=1048576):DenN prog T 104 [ntss l] 4 (l.map Note.cs):=
 (jdf l hl).new krq dcq (flatN l)
def ca(l:List Note):List V:=(l.map Note.cs).flatten
theorem jk5(x:Note)(l:List Note):ca (x::l)=.str x.name::vi x.fst::vi x.lst::vi x.rcd::ca l:=rfl
theorem jvr:∀(l:List Note),(ca l).length=l.length*4
 |[]=>rfl
 |x::l=>by rw[jk5];simp only[List.length_cons,jvr l];omega
theorem qli(l m:List Note):ca (l++m)=ca l++ca m:=by simp[ca]
theorem jgl:∀(l:List Note) (k:Nat),(ca l).drop (k*4)=ca (l.drop k)
 |_,0=>rfl
 |[],k+1=>by simp[ca]
 |x::l,k+1=>by
  rw[jk5,show (k+1)*4=k*4+4 by omega];simp only[xbz];exact jgl l k
theorem ju3:∀(l:List Note) (k:Nat),(ca l).take (k*4)=ca (l.take k)
 |_,0=>by simp[ca]
 |[],k+1=>by simp[ca]
 |x::l,k+1=>by
  rw[jk5,show (k+1)*4=k*4+4 by omega];simp only[List.take_succ_cons];rw[ju3 l k];rfl
theorem qig(l:List Note)(f:FuncId)(cap:List V)(p:Note->Bool)(hl:l.length<=1048576)(hp:∀e∈l,Den prog T f (.agg e.cs::cap) (vb (p e))):
   DenM prog T 208 (ca l) [.s 999999 0 l.length 4,.v (.func f cap)] (ca l) (.v (vi (ix p l))):=by
  refine rl follows (fun args w=>call208 args w) func208 rfl 19 rfl rfl ?_;refine run ?_;refine dq ⟨[8,0,1,7],[999999],[],[]⟩ l.length (fun k=>∀e∈l.take k,p e=false) smq ?_;rintro k ⟨hk,hall⟩;by_cases hlt:k<l.length
  . obtain⟨x,hx,hd,hm⟩:=af hlt;have hd':(ca l).drop (k*4)=.str x.name::vi x.fst::vi x.lst::vi x.rcd::ca (l.drop (k+1)):=by rw[jgl,hd];rfl
    refine rcW hd' (hp x hm) ?_;cases hpc:p x
    . exact zbj
    refine run ?_;exact ja (.v (.of (bc (uu hall hx hpc))))
  refine run ?_;exact ja (.v (.of (bc (jan hall hlt))))
theorem jta(l:List Note)(f:FuncId)(cap:List V)(p:Note->Bool)(hl:l.length<=1048576)(h0:l≠[])(hp:∀e∈l,Den prog T f (.agg e.cs::cap) (vb (p e))):
   DenM prog T 142 (ca l) [.s 999999 0 l.length 4,.v (.func f cap)] (ca (l.filter fun e=> !p e))
     (if l.filter (fun e=> !p e)=[] then .v (.slice 4 []) else .s 999999 0 (l.filter fun e=> !p e).length 4):=by
  have hlen:0<l.length:=yn.2 h0;refine rl follows (fun args w=>call142 args w) func142 rfl 42 rfl rfl ?_;refine run ?_;refine dx 999999 (qig l f cap p hl hp) ?_;rcases hix:l.findIdx? p with _|i
  . have hi:ix p l= -1:=by simp[ix,hix]
    have hf:l.filter (fun e=> !p e)=l:=by
      exact zd2
    rw[hi,hf,vd h0];exact zdz
  obtain⟨hlt,hpi,hbef⟩:=xbb.1 hix;have hi:ix p l=i:=by simp[ix,hix]
  rw[hi];refine run ?_
  have hfi:((l.take (i+1)).filter fun e=> !p e)=l.take i:=by
    exact zbg
  have hkl:((l.take (i+1)).filter fun e=> !p e).length=i:=by rw[hfi];simp;omega
  refine loop ⟨[0,1,5,6],[999999],[],[]⟩ (fun y:Nat×List V=>i+1<=y.1/\y.1<=l.length/\y.2.length=l.length*4/\((l.take y.1).filter fun e=> !p e).length<y.1/\
      y.2.take (((l.take y.1).filter fun e=> !p e).length*4)=ca ((l.take y.1).filter fun e=> !p e)/\y.2.drop (y.1*4)=ca (l.drop y.1)) (fun y=>l.length-y.1)
    (fun y=>⟨42,[(0,.s 999999 0 l.length 4),(1,.v (.func f cap)),(5,.v (vi ((l.take y.1).filter fun e=> !p e).length)),(6,.v (vi y.1))],[(999999,.var y.2)],[]⟩) (i+1,ca l) ?_ ?_ ?_
  . refine⟨smq,by simp;omega,jvr l,?_,?_,jgl l _⟩
    . simp only;rw[hfi];simp;omega
    simp only;rw[hfi];simp only[xq,xaw (Nat.le_of_lt hlt),ju3]
  . rintro⟨j,cs⟩ ⟨h1,h2,h3,h4,h5,h6⟩;simp only at h1 h2 h3 h4 h5 h6;by_cases hj:j<l.length
    . obtain⟨x,hx,hd,hm⟩:=af hj;have hd':cs.drop (j*4)=.str x.name::vi x.fst::vi x.lst::vi x.rcd::ca (l.drop (j+1)):=by rw[h6,hd];rfl
      refine rcW hd' (hp x hm) ?_
      have hdn:cs.drop (j*4+4)=ca (l.drop (j+1)):=by
        rw[<- xc0,hd'];rfl
      cases hpc:p x
      . have hf:=jbf (q:=fun e=> !p e) hx;simp only[hpc,xcw,xf] at hf;refine run ?_;have hl1:(cs.take (((l.take j).filter fun e=> !p e).length*4)).length=((l.take j).filter fun e=> !p e).length*4:=by rw[xq];omega
        refine round (j+1,cs.take (((l.take j).filter fun e=> !p e).length*4)++[.str x.name,vi x.fst,vi x.lst,vi x.rcd]++cs.drop (((l.take j).filter fun e=> !p e).length*4+4)) ⟨by simp only;omega,by simp only;omega,?_,?_,?_,?_⟩ zeo ?_
        . exact zdg
        . exact zdj
        . simp only;rw[hf];rw[xd9 zeq,ye zeq,h5,qli];rfl
        . simp only;rw[List.drop_append,xbc zeq,List.nil_append,xc0,<- hdn];congr 1;exact zek
        simp only[hf,vr,List.length_cons,List.length_nil];rfl
      have hf:=jbf (q:=fun e=> !p e) hx;simp only[hpc,xbs,yw,xy] at hf;refine run ?_;refine round (j+1,cs) ⟨omq,omq,h3,?_,?_,?_⟩ zeo ?_
      . simp only;rw[hf];omega
      . simp only;rw[hf];exact h5
      . simp only;rw[show (j+1)*4=j*4+4 by omega];exact hdn
      simp only[hf];rfl
    have hj':j=l.length:=omq;subst hj';simp only[yk] at h4 h5;have htl:l.take l.length=l:=yk;refine runW htl ?_;by_cases hz:l.filter (fun e=> !p e)=[]
    . rw[ve hz];have hz':(l.filter (fun e=> !p e)).length=0:=by rw[hz];rfl
      refine runW hz' ?_;rw[hz];exact ja (.refl _)
    exact zcd
  simp only[hkl];rfl
theorem jt7(f:FuncId)(cap:List V):Den prog T 142 [ntss [],.func f cap] (ntss []):=by
 refine ab call142 func142 42 ?_;refine rc (jvc [] f cap (fun _=>false) smq smq) ?_;have hi:ix (fun _:Note=>false) []= -1:=rfl;rw[hi];exact za
theorem jma(f:Fil)(d:Int):Den prog T 67 [.agg f.cs,vi d] (vi (state f d)):=by
 refine ab call67 func67 15 ?_;by_cases h1:d<f.opn
 .refine run ?_;refine fin (bc ?_);rw[state,ve h1]
 by_cases h2:d<f.cld
 .refine run ?_;refine fin (bc ?_);rw[state,vd h1,ve h2]
 refine run ?_;refine fin (bc ?_);rw[state,vd h1,vd h2]
theorem qc1(d day:Int):Den prog T 141 [vi d,.row [vi day]] (jsi (onD d day)):=by
 refine ab call141 func141 12 ?_;by_cases h1:day<d
 .have e:onD d day=none:=by rw[onD,ve h1]
  rw[e];exact zbn
 have e:onD d day=some (d,d):=by rw[onD,vd h1]
 rw[e];exact zbn
theorem qky(n:Note)(d:Int):Den prog T 209 [.agg n.cs,.row [vi d]] (vb (!qm d n)):=by
 refine ab call209 func209 8 ?_;by_cases h:n.rcd<=d
 .have e:qm d n=true:=by simp[qm,h]
  rw[e];exact za
 have e:qm d n=false:=by simp[qm,h]
 rw[e];exact za
theorem qo4(n:Note)(s:Str):Den prog T 144 [.agg n.cs,.row [.str s]] (vb (!named s n)):=by
 refine ab call144 func144 8 ?_;exact za
theorem qxl(a b:Int):Den prog T 147 [.slice 1 [[vi a],[vi b]]] (vi (if a=0 then b else a)):=by
 refine ab call147 func147 18 ?_;refine run ?_;refine dl ⟨[8,3,6,7],[],[],[]⟩ (fun k:Nat=>k=0\/(k=1/\a=0)\/(k=2/\a=0/\b=0)) (fun k=>2-k) (fun k=>[(8,.v (vi k))]) 0 (.inl rfl) ?_;rintro k (rfl|⟨rfl,h⟩|⟨rfl,h,h'⟩)
 .by_cases h:a=0
  .refine run ?_;exact round 1 (.inr (.inl ⟨rfl,h⟩)) dcq
  refine run ?_;refine fin (bc ?_);rw[vd h]
 .by_cases h':b=0
  .refine run ?_;exact round 2 (.inr (.inr ⟨rfl,h,h'⟩)) dcq
  refine run ?_;refine fin (bc ?_);rw[ve h]
 refine run ?_;refine fin (bc ?_);rw[ve h,h']
def cN(a b:Note):Int:=if cmpI a.lst b.lst=0 then cmpI a.fst b.fst else cmpI a.lst b.lst
theorem cN_gt(a b:Note):decide (0<cN a b)=gtN a b:=by
 simp only[cN,cmpI,gtN];by_cases h1:a.lst<b.lst
 .have:¬b.lst<a.lst:=omq;have:¬a.lst=b.lst:=omq;simp[*]
 by_cases h2:b.lst<a.lst
 .simp[*]
 have h3:a.lst=b.lst:=omq;by_cases h4:a.fst<b.fst
 .have:¬b.fst<a.fst:=omq;simp[*]
 by_cases h5:b.fst<a.fst
 .simp[*]
 simp[*]
theorem qzy(a b:Note):Den prog T 146 [.agg a.cs,.agg b.cs] (vi (cN a b)):=by
 refine ab call146 func146 21 ?_;refine rc (jh0 a.lst b.lst) ?_;refine rc (jh0 a.fst b.fst) ?_;refine rc (qxl (cmpI a.lst b.lst) (cmpI a.fst b.fst)) ?_;exact za
def maxN:Note->List Note->Note
 |m,[]=>m
 |m,n::l=>maxN (if gtN n m=true then n else m) l
theorem jy1:∀(l:List Note) (m:Note),jg2 (some m) l=some (maxN m l)
 |[],_=>rfl
 |n::l,m=>by simp only[jg2,maxN];exact jy1 l _
theorem qh4(x:Note)(r:List Note)(f:FuncId)(hl:(x::r).length<=1048576)(hp:∀a b:Note,Den prog T f [.agg a.cs,.agg b.cs] (vi (cN a b))):
   DenM prog T 145 (ca (x::r)) [.s 999999 0 (x::r).length 4,.v (.func f [])] (ca (x::r)) (.v (.agg (maxN x r).cs)):=by
  have hl1:0<(x::r).length:=by simp
  have hd0:ca (x::r)=.str x.name::vi x.fst::vi x.lst::vi x.rcd::ca r:=rfl;have hmx:maxN x r=maxN x ((x::r).drop 1):=rfl;rw[hmx];generalize hL:x::r=l at *;refine rl follows (fun args w=>call145 args w) func145 rfl 33 rfl rfl ?_;have hd1:(ca l).drop (0*4)=.str x.name::vi x.fst::vi x.lst::vi x.rcd::ca r:=hd0;refine runW hd1 ?_
  refine loop ⟨[0,1,4,5,6],[999999,4,5],[],[]⟩ (fun y:Nat×Note=>1<=y.1/\y.1<=l.length/\maxN x (l.drop 1)=maxN y.2 (l.drop y.1)) (fun y=>l.length-y.1)
    (fun y=>⟨33,[(0,.s 999999 0 l.length 4),(1,.v (.func f [])),(4,.p 4 0),(5,.p 5 0),(6,.v (vi y.1))],[(999999,.var (ca l)),(4,.var [.str [],vi 0,vi 0,vi 0]),(5,.var y.2.cs)],[]⟩) (1,x) ⟨smq,by simp;omega,rfl⟩ ?_
  rintro⟨k,m⟩ ⟨h1,hk,hm⟩;simp only at h1 hk hm;by_cases hlt:k<l.length
  . obtain⟨n,hx,hd,hmem⟩:=af hlt;have hd':(ca l).drop (k*4)=.str n.name::vi n.fst::vi n.lst::vi n.rcd::ca (l.drop (k+1)):=by rw[jgl,hd];rfl
    have hc:=cN_gt n m;refine rcW hd' (hp n m) ?_;cases hg:gtN n m
    . rw[hg] at hc;have hc':=of_decide_eq_false hc;refine runW hd' ?_;refine round (k+1,m) ⟨by simp only;omega,by simp only;omega,?_⟩ zeo;simp only;rw[hm,hd];simp[maxN,hg]
    rw[hg] at hc;have hc':=xj hc;refine runW hd' ?_;refine round (k+1,n) ⟨by simp only;omega,by simp only;omega,?_⟩ zeo;simp only;rw[hm,hd];simp[maxN,hg]
  rw[xbc (show l.length<=k by omega)] at hm;refine run ?_;refine finMC (.of ?_);rw[hm];rfl
theorem jwm{l:List Note}(h:l.map Note.cs=[]):l=[]:=by simpa using h
theorem jv1(l:List Note):(l.map Note.cs).flatten=ca l:=rfl
theorem qd0(p:Note->Bool):(fun e=> !!p e)=p:=by funext e;simp
theorem qla(f:Fil)(d:Int)(hf:f.Fit):DenN prog T 143 [.agg f.cs,vi d] 4 ((jj f d).map Note.cs):=by
 have hl:=hf.2.2.1;refine jjs follows (fun args w=>call143 args w) func143 rfl 10 rfl ?_;refine run ?_;refine pu (qf5 f.nts hl) ?_ ?_
 .intro hz;have hz':=jwm hz;refine rc (jt7 _ _) ?_;have hk:jj f d=[]:=by rw[jj,hz'];rfl
  rw[hk];exact zda
 intro hz;have hz':f.nts≠[]:=fun e=>hz (by rw[e];rfl);rw[jv1];refine run ?_;refine dx 7 (jta f.nts _ _ (fun n=> !qm d n) hl hz' fun n _=>qky n d) ?_;rw[qd0];have hk:f.nts.filter (qm d)=jj f d:=rfl;rw[hk];by_cases hne:jj f d=[]
 .rw[ve hne,hne];exact zda
 rw[vd hne];refine run ?_;refine finN (id:=7) [] ?_ ?_
 .simp only[σ_mk,ay,↓reduceIte,vm]
 rw[xd];rfl
theorem qw2{y:Note}(h:x≠y):(x.name == y.name && (decide (x.fst=y.fst) && (decide (x.lst=y.lst) && decide (x.rcd=y.rcd))))=false:=by
 cases e:(x.name == y.name && (decide (x.fst=y.fst) && (decide (x.lst=y.lst) && decide (x.rcd=y.rcd))))
 .rfl
 simp only[vn,vq,xax] at e;obtain⟨e1,e2,e3,e4⟩:=e;cases x;cases y;exact absurd (by simp_all) h
theorem qfl(a b:List Note)(ha:a.length<=1048576)(_hb:b.length<=1048576):Den prog T 79 [ntss a,ntss b] (vb (decide (a=b))):=by
 refine ab call79 func79 26 ?_;by_cases hlen:a.length=b.length
 .refine run ?_;refine dq ⟨[5,0,1],[],[],[]⟩ a.length (fun k=>(a=b↔a.drop k=b.drop k)) smq ?_;rintro k ⟨hk,hall⟩;by_cases hlt:k<a.length
  .obtain⟨x,hx,hd,-⟩:=af hlt;obtain⟨y,hy,he,-⟩:=af (l:=b) (k:=k) omq;have hed:=jao hd he;by_cases hxy:x=y
   .subst hxy;refine runW (ai hx hy) ?_;refine round (k+1) ⟨omq,?_⟩ omq;rw[hall,hed];simp
   have hne:=qw2 hxy;refine runW (ai hx (ai hy hne)) ?_;refine fin (ah ?_);have:¬a=b:=fun h=>hxy (hed.1 (hall.1 h)).1;simp[this]
  refine run ?_;refine fin (ah ?_);have:a=b:=by rw[hall,je hlt,je (show ¬k<b.length by omega)]
  simp[this]
 refine run ?_;refine fin (ah ?_);have:¬a=b:=fun h=>hlen (by rw[h]);simp[this]
theorem qhc(f:Fil)(d:Int):trig f [111,112,101,110,101,100] d=onD f.opn d:=by unfold trig;exact ve rfl
theorem qhd(f:Fil)(d:Int):trig f [99,108,111,115,101,100] d=onD f.cld d:=by
 unfold trig;rw[vd dcq];exact ve rfl
theorem qm5(h1:(s == [111,112,101,110,101,100])=false)(h2:(s == [99,108,111,115,101,100])=false):trig f s d=(best f s d).map fun n=>(n.fst,n.lst):=
 qqo (fun e=>by rw[e] at h1;exact absurd h1 dcq) (fun e=>by rw[e] at h2;exact absurd h2 dcq)
theorem jwl(a b:Int):∃x y z,jsi (onD a b)=.tup [datg x y,vb z]:=by
 unfold onD;split
 .exact⟨_,_,_,rfl⟩
 exact⟨_,_,_,rfl⟩
theorem qz3{r:List Note}(h:own f s d=x::r):best f s d=some (maxN x r):=by
 unfold best;rw[h];exact jy1 r x
theorem jtx(f:Fil)(s:Str)(d:Int)(hf:f.Fit):Den prog T 57 [.agg f.cs,.str s,vi d] (qy f s d):=by
 refine ab call57 func57 42 ?_;cases h1:s == [111,112,101,110,101,100]
 .cases h2:s == [99,108,111,115,101,100]
  .have ht:=qm5 (f:=f) (d:=d) h1 h2;have hkl:(jj f d).length<=1048576:=xc (xcc _ _) hf.2.2.1;refine runW (ai h1 h2) ?_;refine pu (qla f d hf) ?_ ?_
   .intro hz;have hk:=jwm hz;refine rc (jt7 _ _) ?_;have hb:best f s d=none:=by unfold best own;rw[hk];rfl
    rw[qy,ht,hb];exact zbn
   intro hz;have hz':jj f d≠[]:=fun e=>hz (by rw[e];rfl);rw[jv1];refine run ?_;refine dx 31 (jta (jj f d) _ _ (fun n=> !named s n) hkl hz' fun n _=>qo4 n s) ?_;rw[qd0];have hk:(jj f d).filter (named s)=own f s d:=rfl;rw[hk];have hol:(own f s d).length<=1048576:=xc (xcc _ _) hkl;cases ho:own f s d with
   |nil=>
    have hb:best f s d=none:=by unfold best;rw[ho];rfl
    rw[ve rfl,qy,ht,hb];exact zbn
   |cons x r=>
    rw[ho] at hol;have hl1:0<(x::r).length:=by simp
    have hmx:=qh4 (T:=T) x r 146 hol qzy;rw[vd smq,qy,ht,qz3 ho];generalize x::r=l at hol hl1 hmx;refine run ?_;refine dx 31 hmx ?_;exact zbn
  have hs:s=[99,108,111,115,101,100]:=eq_of_beq h2;have ht:trig f s d=onD f.cld d:=by rw[hs];exact qhd f d
  rw[qy,ht];obtain⟨x,y,z,e⟩:=jwl f.cld d;refine rcW (ai h1 h2) (qc1 f.cld d) ?_;rw[e];exact zbn
 have hs:s=[111,112,101,110,101,100]:=eq_of_beq h1;have ht:trig f s d=onD f.opn d:=by rw[hs];exact qhc f d
 rw[qy,ht];obtain⟨x,y,z,e⟩:=jwl f.opn d;refine rcW h1 (qc1 f.opn d) ?_;rw[e];exact zbn
theorem qty(h:goodL l=false):bd l f d=([],1):=by simp[bd,h]
theorem jxw(h:goodL l=true)(h':idx l f.opn<0\/idx l d<idx l f.opn):bd l f d=([],24):=by simp[bd,h,h']
theorem qtx(h:goodL l=true)(h':has (pl l (idx l f.opn).toNat) f.cls=false):bd l f d=([],24):=by
 unfold bd;rw[vd zey];split
 .rfl
 first|rfl|rw[ve h']
theorem qtz(h:goodL l=true)(h1:¬(idx l f.opn<0\/idx l d<idx l f.opn))(h':has (pl l (idx l f.opn).toNat) f.cls=true):bd l f d=(jay l (idx l f.opn+1) (idx l d+1) f.cls,0):=by
 unfold bd;rw[vd zey,vd h1,vd (by simp[h'])]
theorem jnm(h:¬idx l d<0):∃i:Nat,idx l d=i/\i<l.length:=by
 rcases qn9 l d with⟨h1,-⟩|⟨i,h1,h2,-⟩
 .omega
 exact⟨i,h1,h2⟩
theorem jmc(L:LibC T)(l:List Plan)(f:Fil)(d:Int)(hl:Fits l)(hf:f.Fit):Den prog T 54 [bh l,.agg f.cs,vi d] (jcm l f d):=by
 have hl0:=hl.1;refine ab call54 func54 49 ?_;refine rc (jdx L l hl) ?_;by_cases hc:(check l).2=0
 .have hg:=(jlz l).2 hc;refine rc (jpp L l f.opn hl) ?_;refine rc (jpp L l d hl) ?_;rw[jod hg,jod hg];by_cases h1:idx l f.opn<0
  .rw[jcm,jxw hg (.inl h1)];exact za
  by_cases h2:idx l d<idx l f.opn
  .rw[jcm,jxw hg (.inr h2)];exact za
  obtain⟨i,hi,hil⟩:=jnm h1;obtain⟨j,hj,hjl⟩:=jnm (l:=l) (d:=d) omq;rw[hi] at h1 h2 ⊢;rw[hj] at h2 ⊢;have hv:gv l ((i:Int)+1) ((j:Int)+1)=0:=jw2 hg omq;have ei:((i:Int)+1-1).toNat=i:=omq;refine rc (qia L l ((i:Int)+1) ((j:Int)+1) f.cls hl hf.1) ?_;cases hh:has (pl l i) f.cls
  .have e:ud l ((i:Int)+1) ((j:Int)+1) f.cls=.tup [.str [],vi 7]:=by simp only[ud,jx0 hv (by rw[ei];exact hh)]
   rw[e,jcm,qtx hg (by rw[hi,Int.toNat_natCast];exact hh)];exact za
  have e:ud l ((i:Int)+1) ((j:Int)+1) f.cls=.tup [.str (jay l ((i:Int)+1) ((j:Int)+1) f.cls),vi 0]:=by simp only[ud,jx1 hv (by rw[ei];exact hh)]
  rw[e,jcm,qtz hg omq (by rw[hi,Int.toNat_natCast];exact hh),hi,hj];exact za
 have hg:goodL l=false:=by simp[goodL,hc]
 rw[jcm,qty hg];exact za
end Go.Arc
