/- A part of this claim. -/
import Derived.Test.YtfbbflhnhmphiaaGreatDoorBaI
import Derived.Test.YtfbbflhnhmphiaaGreatDoorBaS
set_option maxHeartbeats 2000000
set_option maxRecDepth 100000
namespace Go.Arc
open Go.Ab Go.RowKit Go.Proofs Tryz
variable {T : Lay}
variable {l:List Fil}{ps:List Plan}{f:Fil}{i:Nat}{os:List Ofc}{n:Note}{e:Int}{d:Int}
theorem qhy(l:List Int)(x:Int)(hl:l.length<=1048576):Den prog T 80 [ints l,vi x] (vi (ix (fun y=>decide (x=y)) l)):=by
 refine ab call80 func80 19 ?_;refine run ?_;refine dq ⟨[8,0,1,7],[],[],[]⟩ l.length (fun k=>∀n∈l.take k,decide (x=n)=false) smq ?_;rintro k ⟨hk,hall⟩;by_cases hlt:k<l.length
 .obtain⟨y,hy,-,-⟩:=af hlt;by_cases hxy:x=y
  .exact zdo
  exact zck
 refine run ?_;exact fin (bc (jan (p:=fun n=>decide (x=n)) hall hlt))
theorem jbk(l:List Int)(x:Int)(hl:l.length<=1048576):Den prog T 43 [ints l,vi x] (vb (l.any fun y=>decide (x=y))):=by
 refine ab call43 func43 9 ?_;refine rc (qhy l x hl) ?_;exact zbs
theorem qoh(l:List Int)(f:FuncId)(cap:List V)(p:Int->Bool)(hl:l.length<=1048576)(hp:∀e∈l,Den prog T f (vi e::cap) (vb (p e))):
   Den prog T 193 [ints l,.func f cap] (vi (ix p l)):=by
  refine ab call193 func193 19 ?_;exact ixPf
theorem jdu(l:List Int)(f:FuncId)(cap:List V)(p:Int->Bool)(hl:l.length<=1048576)(hp:∀e∈l,Den prog T f (vi e::cap) (vb (p e))):
   Den prog T 125 [ints l,.func f cap] (vb (l.any p)):=by
  refine ab call125 func125 9 ?_;refine rc (qoh l f cap p hl hp) ?_;exact zbr
theorem qof(l:List Ofc)(f:FuncId)(cap:List V)(p:Ofc->Bool)(hl:l.length<=1048576)(hp:∀e∈l,Den prog T f (.agg e.cs::cap) (vb (p e))):
   Den prog T 274 [ofcs l,.func f cap] (vi (ix p l)):=by
  refine ab call274 func274 19 ?_;exact ixPf
theorem qkz(o:Ofc)(n:Int):Den prog T 275 [.agg o.cs,.row [vi n]] (vb (isId n o)):=by
 refine ab call275 func275 8 ?_;exact za
theorem jmb(l:List Ofc)(n:Int)(hl:l.length<=1048576):Den prog T 223 [ofcs l,vi n] (vi (ii l n)):=by
 refine ab call223 func223 8 ?_;refine rc (qof l _ _ (isId n) hl fun o _=>qkz o n) ?_;exact za
theorem qjv(f u:Int):Den prog T 245 [span f u] (vb (cd f u)):=by
 refine ab call245 func245 18 ?_;unfold cd;by_cases h1:0<=f<;>by_cases h2:f<u<;>by_cases h3:u<=1048576<;>(refine run ?_;refine fin (ah ?_);simp;try omega)
instance:TZV prog 136 (.agg #[.int .i64 0,.string ⟨#[]⟩,.int .i64 0,.int .i64 0,.slice none 0 0]):=⟨krq⟩
instance:TMap prog 299 3 136 (.agg #[.int .i64 0,.string ⟨#[]⟩,.int .i64 0,.int .i64 0,.slice none 0 0]):=⟨krq,krq,krq⟩
theorem jak:pi (.agg #[.int .i64 0,.string ⟨#[]⟩,.int .i64 0,.int .i64 0,.slice none 0 0])=true:=rfl
theorem jal:nf (.agg #[.int .i64 0,.string ⟨#[]⟩,.int .i64 0,.int .i64 0,.slice none 0 0])=.agg [vi 0,.str [],vi 0,vi 0,.val (.slice none 0 0)]:=rfl
theorem jyq(σ:Sto):opv σ (.const (.map none))=some (.v (.val (.map none))):=rfl
theorem jxq(l:List Ofc)(hl:l.length<=1048576):Den prog T 244 [ofcs l] (mapO (idxO l)):=by
 refine ab call244 func244 30 ?_;refine runW jyq ?_
 refine loop ⟨[3,9,10,11],[8],[],[]⟩ (fun k:Nat=>k<=l.length) (fun k=>l.length-k)
  (fun k=>⟨30,[(3,.m 8),(9,.v (ofcs l)),(10,.v (vi l.length)),(11,.v (vi k))],[(8,.map (mb (idxO (l.take k))))],[]⟩) 0 omq ?_
 intro k hk;by_cases hlt:k<l.length
 .obtain⟨x,hx,-,-⟩:=af hlt
  have hstep:idxO (l.take (k+1))=addO (idxO (l.take k)) x:=by
   obtain⟨hlt',rfl⟩:=gsi.1 hx
   show (l.take (k+1)).foldl addO []=_
   rw[xap hlt',xbk];rfl
  have hf:=jbj x.id (idxO (l.take k));cases hlk:av (idxO (l.take k)) x.id with
  |some y=>
   rw[hlk] at hf;have ha:addO (idxO (l.take k)) x=idxO (l.take k):=by unfold addO;rw[hlk];rfl
   rw[ha] at hstep;refine runW (ai hx (ai hf (ai jak jal))) ?_;refine round (k+1) omq omq ?_;rw[hstep];rfl
  |none=>
   rw[hlk] at hf;have hu:=jt0 hlk;have ha:addO (idxO (l.take k)) x=idxO (l.take k)++[x]:=by unfold addO;rw[hlk];rfl
   rw[ha] at hstep;refine runW (ai hx (ai hf (ai hu (ai jak jal)))) ?_;refine round (k+1) omq omq ?_;rw[hstep];rfl
 have he:l.take k=l:=ye omq;rw[he];refine run ?_;exact qec (.refl _)
theorem qo3(es:List Ofc)(o:Ofc)(n:Int)(h:(av es n).isSome=true):Den prog T 299 [vi n,.row [mapO es],.row o.cs] (vb (!decide (frmO es n=o.til))):=by
 have hz:=jdi (mb es);have hf:=jbj n es;cases e:av es n with
 |none=>rw[e] at h;cases h
 |some x=>
  rw[e] at hf;have hfr:frmO es n=x.frm:=by unfold frmO;rw[e]
  rw[hfr];refine ab call299 func299 14 ?_;refine runW (ai hz (ai hf (ai jak jal))) ?_;exact fin rfl
theorem jzn(es:List Ofc)(o:Ofc)(ho:o.Fit):Den prog T 246 [mapO es,.agg o.cs] (vi (iq es o)):=by
 have hn:=ho.2;have hz:=jdi (mb es);refine ab call246 func246 46 ?_;refine run ?_;refine dq ⟨[14,2,3,12,13],[2,3],[],[]⟩ o.nxt.length (fun k=>∀i,i<k->jd5 o.nxt i=false) omq ?_;rintro k ⟨hk,hall⟩;by_cases hlt:k<o.nxt.length
 .obtain⟨x,hx,-,-⟩:=af hlt;have htk:((o.nxt.map Cint).take k).drop 0=(o.nxt.take k).map Cint:=by simp
  refine rcW (ai hx htk) (jbk (o.nxt.take k) x zep) ?_;cases hd:(o.nxt.take k).any fun y=>decide (x=y)
  .refine run ?_;refine round (k+1) ⟨omq,fun i hi=>?_⟩ omq;by_cases e:i=k
   .rw[e];exact qx4 hx hd
   exact hall i omq
  have hs:iq es o=6:=by unfold iq;rw[ve (qx3 hx hd)]
  rw[hs];exact za
 have hd:dups o.nxt=false:=qse fun i hi=>hall i omq;refine run ?_;refine dq ⟨[29,2,3,27,28],[2,3],[],[]⟩ o.nxt.length (fun k=>∀n∈o.nxt.take k,(av es n).isNone=false) smq ?_;rintro k ⟨hk,hall⟩;by_cases hlt:k<o.nxt.length
 .obtain⟨x,hx,-,-⟩:=af hlt;have hf:=jbj x es;cases e:av es x with
  |none=>
   rw[e] at hf
   have hs:iq es o=7:=by
    unfold iq;rw[vd (by simp[hd]),ve (jrq hx (by simp[e]))]
   rw[hs];refine runW (ai hx (ai hz (ai hf (ai jak jal)))) ?_;exact fin rfl
  |some y=>
   rw[e] at hf;refine runW (ai hx (ai hz (ai hf (ai jak jal)))) ?_;exact round (k+1) ⟨omq,jc (q:=fun n:Int=>(av es n).isNone=false) hall hx (by simp[e])⟩ omq
 have h7:(o.nxt.any fun n=>(av es n).isNone)=false:=qck hall hlt;refine rc (jdu o.nxt _ _ (fun n=> !decide (frmO es n=o.til)) hn fun n hm=>qo3 es o n ?_) ?_
 .have:=yf.1 h7 n hm;cases e:av es n<;>simp[e] at this ⊢
 have hs:iq es o=if(o.nxt.any fun n=> !decide (frmO es n=o.til))=true then 10 else 0:=by
  unfold iq;rw[vd (by simp[hd]),vd (by simp only[h7];exact Bool.noConfusion)]
 rw[hs];cases o.nxt.any fun n=> !decide (frmO es n=o.til)
 .exact za
 exact za
theorem jdw(L:LibC T)(l:List Ofc)(hl:nw l):Den prog T 176 [ofcs l] (chkV (fm l)):=by
 have hl0:=hl.1;refine ab call176 func176 71 ?_;by_cases h16:32<l.length
 .refine run ?_;refine fin ?_;simp only[chkV,fm,ub h16]
 refine rc (jxq l hl0) ?_;refine run ?_;refine dq ⟨[15,0,4,13,14],[],[],[]⟩ l.length (fun k=>∀i,i<k->gz l i=0) omq ?_;rintro k ⟨hk,hall⟩;by_cases hlt:k<l.length
 .obtain⟨o,ho,-,hm⟩:=af hlt;have hof:=hl.2 o hm;obtain⟨h1,h2⟩:=id hof
  have out:∀e:Int,gz l k=e->e≠0->chkV (fm l)=.tup [vi k,vi e]:=fun e he hne=>by
   rw[fm,jf9 h16 hlt hall (by rw[he];exact hne),he]
  by_cases b1:o.id<1
  .rw[out 2 (jeq ho (.inl b1)) dcq];refine runW ho ?_;exact fin rfl
  by_cases b2:1073741824<o.id
  .rw[out 2 (jeq ho (.inr (.inl b2))) dcq];refine runW ho ?_;exact fin rfl
  refine rcW ho (qjv o.frm o.til) ?_;cases hg:cd o.frm o.til
  .rw[out 2 (jeq ho (.inr (.inr (.inl hg)))) dcq];exact za
  by_cases b4:8<o.nxt.length
  .rw[out 2 (jeq ho (.inr (.inr (.inr b4)))) dcq];exact za
  have hb:¬badO o:=fun h=>by
   rcases h with h|h|h|h
   .exact b1 h
   .exact b2 h
   .rw[hg] at h;cases h
   exact b4 h
  refine rc (ua L o.name h1) ?_;cases hn:name o.name
  .rw[out 4 (jzf ho hb hn) dcq];exact za
  have hsi:=qqs l o;by_cases h0:k=0
  .subst h0;have hs:=jx9 ho hb hn;refine rc (jzn (idxO l) o hof) ?_;rw[hsi,<- hs];by_cases hz:gz l 0=0
   .refine run ?_;refine round 1 ⟨omq,fun i hi=>?_⟩ omq;rw[show i=0 by omega];exact hz
   rw[out _ rfl hz];exact za
  obtain⟨q,hq,-,-⟩:=af (l:=l) (k:=k-1) omq;by_cases hle:o.id<=q.id
  .rw[out 5 (jze ho hb hn h0 hq hle) dcq];refine runW hq ?_;exact fin rfl
  have hs:=jzd ho hb hn h0 hq hle;refine rcW hq (jzn (idxO l) o hof) ?_;rw[hsi,<- hs];by_cases hz:gz l k=0
  .refine run ?_;refine round (k+1) ⟨omq,fun i hi=>?_⟩ omq;by_cases e:i=k
   .rw[e];exact hz
   exact hall i omq
  rw[out _ rfl hz];exact za
 refine run ?_;refine fin ?_;simp only[chkV,fm,jav h16 fun i hi=>hall i omq]
theorem jgz(d f:Int):Den prog T 227 [vi d,vi f] (vb (dayB d f)):=by
 refine ab call227 func227 12 ?_;unfold dayB;by_cases h1:f<=d<;>by_cases h2:d<=1048575<;>(refine run ?_;refine fin (ah ?_);simp;try omega)
theorem jzp(L:LibC T)(s:Str)(hs:s.length<=1048576):Den prog T 224 [.str s] (vb (lz s)):=by
 refine ab call224 func224 13 ?_;refine rc (ua L s hs) ?_;cases hn:name s
 .refine run ?_;refine fin (ah ?_);simp[lz,hn]
 cases h1:s == [111,112,101,110,101,100]
 .refine runW h1 ?_;refine fin (ah ?_);simp[lz,hn,h1]
 refine runW h1 ?_;refine fin (ah ?_);simp[lz,hn,h1]
theorem jt8(a b:Int):Den prog T 150 [datg a b] (vi (if jl a b=true then 0 else 1)):=by
 refine ab call150 func150 18 ?_;by_cases h1:a<0
 .have hg:jl a b=false:=by simp[jl];omega
  rw[hg];exact za
 by_cases h2:b<a
 .have hg:jl a b=false:=by simp[jl];omega
  rw[hg];exact za
 by_cases h3:1048575<b
 .have hg:jl a b=false:=by simp[jl];omega
  rw[hg];exact za
 have hg:jl a b=true:=by simp[jl];omega
 rw[hg];exact za
theorem jxl(f:Fil)(n:Note):Den prog T 225 [.agg f.cs,.agg n.cs] (vb (qq f n)):=by
 refine ab call225 func225 16 ?_;refine rc (jt8 n.fst n.lst) ?_;unfold qq;cases jl n.fst n.lst
 .exact za
 refine rc (jgz n.rcd f.opn) ?_;exact za
theorem qk5(L:LibC T)(n:Note)(hn:n.Fit):Den prog T 353 [.agg n.cs] (vb (!lz n.name)):=by
 refine ab call353 func353 7 ?_;refine rc (jzp L n.name hn) ?_;exact za
theorem qk4(f:Fil)(n:Note):Den prog T 354 [.agg n.cs,.row f.cs] (vb (!qq f n)):=by
 refine ab call354 func354 8 ?_;refine rc (jxl f n) ?_;exact za
theorem qk3(a b:Note):Den prog T 356 [.agg a.cs,.agg b.cs] (vi (cmpI a.rcd b.rcd)):=by
 refine ab call356 func356 10 ?_;refine rc (jh0 a.rcd b.rcd) ?_;exact za
theorem qc5(a b:Int):cmpI a b<0↔a<b:=by
 unfold cmpI;split
 .constructor<;>intro<;>omega
 split<;>(constructor<;>intro<;>omega)
theorem qev(l:List Note)(f:FuncId)(hl:l.length<=1048576)(hp:∀a b:Note,Den prog T f [.agg a.cs,.agg b.cs] (vi (cmpI a.rcd b.rcd))):
   Den prog T 355 [ntss l,.func f []] (vb (!tw l)):=by
  refine ab call355 func355 25 ?_;refine run ?_;refine dl ⟨[5,0,1],[],[],[]⟩ (fun i:Int=> -1<=i/\i+1<=l.length/\∀j:Nat,i<j->j<l.length->uy l j=false) (fun i=>(i+1).toNat) (fun i=>[(5,.v (vi i))]) ((l.length:Int)-1) ⟨omq,omq,fun j h1 h2=>by omega⟩ ?_;rintro i ⟨h1,h2,hall⟩;by_cases hpos:0<i
  . obtain⟨k,rfl⟩:∃k:Nat,i=k:=⟨i.toNat,omq⟩;obtain⟨y,hy,-,-⟩:=af (l:=l) (k:=k) omq;obtain⟨x,hx,-,-⟩:=af (l:=l) (k:=k-1) omq;have he:=qx1 (show k≠0 by omega) hx hy;refine rcW (ai hx hy) (hp y x) ?_;by_cases hlt:y.rcd<x.rcd
    . have hc:=(qc5 y.rcd x.rcd).2 hlt;rw[qha (show k<l.length by omega) (by rw[he];simp[hlt])];exact za
    have hc:¬cmpI y.rcd x.rcd<0:=fun h=>hlt ((qc5 _ _).1 h);refine run ?_;refine round ((k:Int)-1) ⟨omq,omq,fun j g1 g2=>?_⟩ omq;by_cases e:j=k
    . rw[e,he];simp[hlt]
    exact hall j omq g2
  rw[qg8 fun j hj=>by
    by_cases h0:j=0
    . rw[h0];exact qx2 l
    exact hall j omq hj]
  exact za
theorem qo2(L:LibC T)(f:Fil)(hf:f.Fit):Den prog T 301 [.agg f.cs] (vi (ku f)):=by
 have hn:=hf.2.2.1;refine ab call301 func301 22 ?_;by_cases h16:16<f.nts.length
 .rw[qj9 h16];exact za
 refine rc (jtw f.nts _ _ (fun n=> !lz n.name) hn fun n hm=>qk5 L n (hf.2.2.2 n hm)) ?_;cases h4:f.nts.any fun n=> !lz n.name
 .refine rc (jtw f.nts _ _ (fun n=> !qq f n) hn fun n _=>qk4 f n) ?_;cases h2:f.nts.any fun n=> !qq f n
  .rw[qj8 h16 h4 h2];refine rc (qev f.nts _ hn fun a b=>qk3 a b) ?_;cases tw f.nts
   .exact za
   exact za
  rw[qjb h16 h4 h2];exact za
 rw[qja h16 h4];exact za
theorem jxo(l:List Fil)(f:FuncId)(cap:List V)(p:Fil->Bool)(hl:l.length<=1048576)(hp:∀e∈l,Den prog T f (.agg e.cs::cap) (vb (p e))):
   Den prog T 28 [fils l,.func f cap] (vi (ix p l)):=by
  refine ab call28 func28 19 ?_;exact ixPf
theorem ql0(f:Fil)(n:Int):Den prog T 29 [.agg f.cs,.row [vi n]] (vb (ci n f)):=by
 refine ab call29 func29 8 ?_;exact za
theorem tq(l:List Fil)(n:Int)(hl:l.length<=1048576):Den prog T 13 [fils l,vi n] (vi (az l n)):=by
 refine ab call13 func13 8 ?_;refine rc (jxo l _ _ (ci n) hl fun o _=>ql0 o n) ?_;exact za
theorem qwi(f u d:Int):inS f u d=(decide (f<=d) && decide (d<u)):=by simp[inS]
theorem qnw(os:List Ofc)(id d:Int)(hl:os.length<=1048576):Den prog T 300 [ofcs os,vi id,vi d] (vb (mr os id d)):=by
 refine ab call300 func300 33 ?_;refine rc (jmb os id hl) ?_;rcases jv2 os id with⟨h1,h2⟩|⟨i,o,h1,h2,h3⟩
 .rw[qqr h2];exact za
 rw[h1,qqq h3,qwi];by_cases g1:o.frm<=d
 .by_cases g2:d<o.til
  .refine runW h2 ?_;exact fin rfl
  refine runW h2 ?_;exact fin rfl
 refine runW h2 ?_;exact z6
theorem jc5(f:Fil):badF f↔(f.id<1\/1073741824<f.id\/dayB f.opn 0=false\/(dayB f.cld f.opn=false/\f.cld≠1048576)\/f.pts<0\/100<f.pts):=Iff.rfl
theorem qmu(h:idx ps f.opn<0):sj ps f=true:=by simp[sj,h]
theorem qmt{v:Nat}{p:Plan}(h:idx ps f.opn=v)(hp:ps[v]?=some p):sj ps f= !has p f.cls:=by
 unfold sj;have:decide ((v:Int)<0)=false:=vw omq;rw[h,Int.toNat_natCast,jb0 hp,this];rfl
theorem qkq(L:LibC T)(os:List Ofc)(ps:List Plan)(l:List Fil)(i:Nat)(ho:nw os)(hp:Fits ps)(hg:goodL ps=true)(hl:ri l)(hi:i<l.length):
  Den prog T 247 [ofcs os,bh ps,fils l,vi i] (vi (lh os ps l i)):=by
 obtain⟨hl0,hf⟩:=hl;obtain⟨f,hfi,-,hm⟩:=af hi;have hff:=hf f hm;have hp0:=hp.1;have ho0:=ho.1;refine ab call247 func247 99 ?_;refine rcW hfi (jpp L ps f.opn hp) ?_;rw[jod hg];by_cases b1:f.id<1
 .rw[jc4 hfi ((jc5 f).2 (.inl b1))];exact za
 by_cases b2:1073741824<f.id
 .rw[jc4 hfi ((jc5 f).2 (.inr (.inl b2)))];exact za
 refine rc (jgz f.opn 0) ?_;cases b3:dayB f.opn 0
 .rw[jc4 hfi ((jc5 f).2 (.inr (.inr (.inl b3))))];exact za
 refine rc (jgz f.cld f.opn) ?_
 have next:∀ {Q:Prop},((dayB f.cld f.opn=false/\f.cld≠1048576)->Q)->((dayB f.cld f.opn=true)->Q)->(dayB f.cld f.opn=false->f.cld=1048576->Q)->Q:=fun {Q} a b c=>by
  cases e:dayB f.cld f.opn
  .by_cases h:f.cld=1048576
   .exact c e h
   exact a ⟨e,h⟩
  exact b e
 have tail:∀(h4:¬(dayB f.cld f.opn=false/\f.cld≠1048576)) (h5:¬f.pts<0) (h6:¬ 100<f.pts),
   lh os ps l i=if pg l i f=true then 5 else if name f.title=false then 4 else if mr os f.ofc f.opn=false then 7 else if sj ps f=true then 24 else ku f:=fun h4 h5 h6=>
  jzg hfi fun h=>by
   rcases (jc5 f).1 h with h|h|h|h|h|h
   .exact b1 h
   .exact b2 h
   .rw[b3] at h;cases h
   .exact h4 h
   .exact h5 h
   exact h6 h
 have two:f.pts<0\/100<f.pts->lh os ps l i=2:=fun h=>jc4 hfi ((jc5 f).2 (by rcases h with h|h<;>simp[h]));refine next (fun h4=>?_) (fun h4=>?_) (fun h4 h4'=>?_)
 .rw[jc4 hfi ((jc5 f).2 (.inr (.inr (.inr (.inl h4))))),h4.1];have:=h4.2;exact za
 all_goals rw[h4]
 all_goals by_cases b5:f.pts<0
 .rw[two (.inl b5)];exact za
 rotate_left
 .rw[two (.inl b5)];exact za
 rotate_left
 all_goals by_cases b6:100<f.pts
 .rw[two (.inr b6)];exact za
 rotate_left
 .rw[two (.inr b6)];exact za
 rotate_left
 all_goals
  rw[tail (by simp[*]) b5 b6]
  have hprev:(pg l i f=true/\∃q,i≠0/\l[i-1]?=some q/\f.id<=q.id)\/(pg l i f=false/\(i=0\/∃q,i≠0/\l[i-1]?=some q/\¬f.id<=q.id)):=by
   by_cases h0:i=0
   .right;rw[h0];exact⟨qvk l f,.inl rfl⟩
   obtain⟨q,hq,-,-⟩:=af (l:=l) (k:=i-1) omq;by_cases hle:f.id<=q.id
   .left;exact⟨by rw[qaz h0 hq];simp[hle],q,h0,hq,hle⟩
   right;exact⟨by rw[qaz h0 hq];simp[hle],.inr ⟨q,h0,hq,hle⟩⟩
  have rest:∀ {st:St} {Q:AX->St->Prop},True:=fun {_ _} => trivial;rcases hprev with⟨hpv,q,h0,hq,hle⟩|⟨hpv,h0|⟨q,h0,hq,hle⟩⟩
  .exact zcb
  all_goals
   rw[vd ze2]
   first
    |(subst h0;refine run ?_)
    |refine runW hq ?_
   refine call (ua L f.title hff.2.1) ?_;cases hn:name f.title
   .rw[ve rfl];exact za
   rw[vd (by exact Bool.noConfusion)];refine rc (qnw os f.ofc f.opn ho0) ?_;cases ht:mr os f.ofc f.opn
   .rw[ve rfl];exact za
   rw[vd (by exact Bool.noConfusion)];by_cases hv:idx ps f.opn<0
   .rw[qmu hv,ve rfl];exact za
   obtain⟨v,hv',hvl⟩:=jnm hv;obtain⟨p,hpv',-,hpm⟩:=af hvl;rw[qmt hv' hpv'];rw[hv'] at hv ⊢;refine rcW hpv' (jap p f.cls (hp.2 p hpm).1) ?_;cases has p f.cls
   .exact za
   refine rc (qo2 L f hff) ?_;exact za
theorem qa2(h:goodO os=false\/goodL ps=false):jv os ps l=(-1,1):=by unfold jv;rw[ve h]
theorem qu1(h:goodO os=true)(h':goodL ps=true):jv os ps l=chk 256 l.length (lh os ps l):=by unfold jv;rw[vd (by simp[h,h'])]
theorem ql4(L:LibC T)(os:List Ofc)(ps:List Plan)(l:List Fil)(ho:nw os)(hp:Fits ps)(hl:ri l):
  Den prog T 179 [ofcs os,bh ps,fils l] (chkV (jv os ps l)):=by
 have hl0:=hl.1;refine ab call179 func179 48 ?_;refine rc (jdw L os ho) ?_;refine rc (jdx L ps hp) ?_;by_cases g1:(fm os).2=0
 .have go:goodO os=true:=by simp[goodO,g1]
  by_cases g2:(check ps).2=0
  .have gp:goodL ps=true:=(jlz ps).2 g2;rw[qu1 go gp];by_cases h16:256<l.length
   .refine run ?_;refine fin ?_;simp only[chkV,ub h16]
   refine run ?_;refine dq ⟨[35,0,1,2,34],[],[],[]⟩ l.length (fun k=>∀i,i<k->lh os ps l i=0) omq ?_;rintro k ⟨hk,hall⟩;by_cases hlt:k<l.length
   .refine rc (qkq L os ps l k ho hp gp hl hlt) ?_;by_cases hz:lh os ps l k=0
    .refine run ?_;refine round (k+1) ⟨omq,fun i hi=>?_⟩ omq;by_cases e:i=k
     .rw[e];exact hz
     exact hall i omq
    refine run ?_;refine fin ?_;simp only[chkV,jf9 h16 hlt hall hz]
   refine run ?_;refine fin ?_;simp only[chkV,jav h16 fun i hi=>hall i omq]
  have gp:goodL ps=false:=by simp[goodL,g2]
  rw[qa2 (.inr gp)];exact za
 have go:goodO os=false:=by simp[goodO,g1]
 rw[qa2 (.inl go)];exact za
def ar(l:List Fil):List V:=(l.map Fil.cs).flatten
theorem qa(x:Fil)(l:List Fil):ar (x::l)=x.cs++ar l:=rfl
theorem ko:∀(l:List Fil),(ar l).length=l.length*8
 |[]=>rfl
 |x::l=>by rw[qa,vr,ko l,List.length_cons];simp only[List.length_cons,List.length_nil];omega
theorem jee:∀(l:List Fil) (i j:Nat) (x:Fil),l[i]?=some x->j<=8->(ar l).drop (i*8+j)=x.cs.drop j++ar (l.drop (i+1))
 |[],i,j,x,h,_=>by simp at h
 |y::r,0,j,x,h,hj=>by
  simp only[List.getElem?_cons_zero,vk] at h;subst h;rw[qa,xcs,xl,xd4 zep];rfl
 |y::r,i+1,j,x,h,hj=>by
  simp only[List.getElem?_cons_succ] at h;have e:(i+1)*8+j=y.cs.length+(i*8+j):=by simp only[List.length_cons,List.length_nil];omega
  rw[qa,e,xbv,jee r i j x h hj];rfl
theorem je0:∀(l:List Fil) (i j:Nat) (x y:Fil) (v:V),l[i]?=some x->j<8->x.cs.take j++[v]++x.cs.drop (j+1)=y.cs->(ar l).take (i*8+j)++[v]++(ar l).drop (i*8+j+1)=ar (l.set i y)
 |[],i,j,x,y,v,h,_,_=>by simp at h
 |z::r,0,j,x,y,v,h,hj,he=>by
  simp only[List.getElem?_cons_zero,vk] at h;subst h;rw[List.set_cons_zero,qa,qa,xcs,xl,<- he];rw[xd9 zep,xd4 zep];simp only[xb]
 |z::r,i+1,j,x,y,v,h,hj,he=>by
  simp only[List.getElem?_cons_succ] at h;have ih:=je0 r i j x y v h hj he;have e1:(i+1)*8+j=z.cs.length+(i*8+j):=by simp only[List.length_cons,List.length_nil];omega
  have e2:(i+1)*8+j+1=z.cs.length+(i*8+j+1):=by simp only[List.length_cons,List.length_nil];omega
  rw[List.set_cons_succ,qa,qa,<- ih,e2,e1,xd2,xbv];simp only[xb]
theorem qr4{α:Type}{l:List α}{x:α}(h:l[i]?=some x):l.set i x=l:=by
 obtain⟨hlt,rfl⟩:=gsi.1 h;exact List.set_getElem_self hlt
theorem jbd(l:List Fil):be 0 l.length 8 (ar l)=l.map Fil.cs:=by
 refine xc6 fun i=>?_;simp only[be,xe];by_cases h:i<l.length
 .rw[List.getElem?_range h,gge h];simp only[Option.map_some,xl,vk];have:=jee l i 0 _ (gge h) omq;rw[Nat.add_zero,xas] at this;rw[this];simp
 rw[xay (l:=List.range l.length) zep,xay (l:=l) omq];rfl
theorem jg9(l:List Fil)(hl:l.length<=1048576):DenN prog T 100 [fils l] 8 (l.map Fil.cs):=by
 refine jjs follows (fun args w=>call100 args w) func100 rfl 8 rfl ?_;cases l with
 |nil=>
  refine run ?_;intro b;cases b
  .exact zda
  refine run ?_;exact jd3 rfl (.nil 8)
 |cons x r=>
  have h:r.length+1<=1048576:=hl;have e:fils (x::r)=.slice 8 (x.cs::r.map Fil.cs):=rfl;rw[e];refine runB trivial ?_;refine qdt ?_;refine run ?_;refine finN (id:=7) [] ?_ ?_
  .simp only[σ_mk,ay,↓reduceIte,vm,List.length_cons,vy]
  rw[xd];rfl
theorem jkx(l:List Fil)(hl:ri l)(i:Nat)(hi:i<l.length):jdc prog T 226 [fils l] (l.map Fil.cs) 162 (i*8+7):=by
 have hl0:=hl.1;refine qg5 follows (fun args w=>call226 args w) func226 rfl 24 rfl ?_;refine run ?_;refine pu (jg9 l hl0) ?_ ?_
 .intro h;have:l=[]:=by simpa using h
  subst this;exact absurd hi (xba _)
 intro _;have hcl:=ko l;have hat:=jee l;have hput:=je0 l;rw[show (l.map Fil.cs).flatten=ar l from rfl];obtain⟨C,hC⟩:∃C,ar l=C:=⟨_,rfl⟩;rw[hC] at hcl;simp only[hC] at hat hput;rw[hC];obtain⟨p,hp⟩:∃p,7000000000+(i*8+7)=p:=⟨_,rfl⟩;have hplc:plc 6 (i*8+7)=p:=by rw[<- hp];rfl
 have hpid:pid p=6:=by rw[<- hplc];exact gl omq
 have hge:1000000000<=p:=omq;have hpn:∀d,d<1000000000->(p=d)=False:=fun d hd=>vf omq;have hpb:∀d,d<1000000000->(d == p)=false:=fun d hd=>by simp;omega
 have hpe:∀d,d<1000000000->(d=p)=False:=fun d hd=>vf omq;refine run ?_
 refine qe7 (fun y:Nat×Bool=>⟨[3,8,9],[6],if y.2=true then [p] else [],[]⟩) (fun y=>y.1<=l.length/\(y.2=true↔i<y.1)) (fun y=>l.length-y.1)
  (fun y=>⟨24,[(3,.s 6 0 l.length 8),(8,.v (vi l.length)),(9,.v (vi y.1))],[(6,.var C)],if y.2=true then [(162,[p])] else []⟩) (0,false) ⟨smq,smq⟩ ?_ ?_
 .simp only;rfl
 rintro⟨k,b⟩ ⟨hk,hb⟩;simp only at hk hb;by_cases hlt:k<l.length
 .obtain⟨f,hf,-,hm⟩:=af hlt;have hfit:=hl.2 f hm;have hof:k*8+7<1000000000:=omq;have hd:=hat k 7 f hf omq;have hs:=hput k 7 f f (ntss f.nts) hf omq rfl;rw[qr4 hf,hC] at hs;have hd':C.drop (k*8+7)=ntss f.nts::ar (l.drop (k+1)):=hd;cases b with
  |false=>
   have hki:¬i<k:=fun h=>by have:=hb.2 h;cases this
   simp only[yw,xy];by_cases hik:k=i
   .subst hik;refine runW hd' ?_;refine jsj (jdf f.nts hfit.2.2.1) ?_;refine runW (ai hp (ai hof (ai hs (ai (fun d hd=>hpb d hd) (ai (fun d hd=>hpe d hd) (fun d hd=>hpn d hd)))))) ?_;refine jfb (k+1,true) ⟨by simp only;omega,smq⟩ zeo ?_;simp only[xf];refine jz2 ?_ ?_ (ht:= ?_) (hh:= ?_)
    .simp
    .simp[hpid]
    .rfl
    rfl
   refine rcW hd' (jdf f.nts hfit.2.2.1).den ?_;refine runW (ai hof hs) ?_;refine jfb (k+1,false) ⟨by simp only;omega,by simp only;constructor;(intro h;cases h);(intro h;omega)⟩ zeo ?_;rfl
  |true=>
   have hki:i<k:=hb.1 rfl;simp only[xf];have hq:(7000000000+(k*8+7) == p)=false:=by simp;omega
   have hr:remC 6 (k*8+7) 1 [(162,[p])]=[(162,[p])]:=by
    unfold remC;simp only[vy,xcb,List.cons.injEq,xo,true_and,and_true];rw[xck];intro a ha;simp only[xn] at ha;subst ha
    have:Nat.blt a (plc 6 (k*8+7)+1)=false\/Nat.ble (plc 6 (k*8+7)) a=false:=by
     right;cases hbb:Nat.ble (plc 6 (k*8+7)) a
     .rfl
     have:=xb9 hbb;unfold plc at this;omega
    rcases this with h|h<;>simp[h]
   have hq':(7000000000+(k*8+7)=p)=False:=vf omq;refine rcW (ai hd' (ai hge (ai hof (ai hq (ai hq' (fun d hd=>hpn d hd)))))) (jdf f.nts hfit.2.2.1).den ?_;refine runW (ai hge (ai hof (ai hq (ai hq' (ai hr (ai hs (ai (fun d hd=>hpb d hd) (ai (fun d hd=>hpe d hd) (fun d hd=>hpn d hd))))))))) ?_;refine jfb (k+1,true) ⟨by simp only;omega,by simp;omega⟩ zeo ?_;simp only[xf];refine jz2 ?_ ?_ (ht:= ?_) (hh:= ?_)
   .simp
   .simp[hpid]
   .rfl
   rfl
 have hb':b=true:=hb.2 omq;subst hb';simp only[xf];refine runW (ai (fun d hd=>hpb d hd) (ai (fun d hd=>hpe d hd) (fun d hd=>hpn d hd))) ?_;refine finNO (id:=6) (size:=8) [] ?_ ?_ ?_ omq
 .simp only[σ_mk,ay,↓reduceIte,vm]
 .rw[xd]
  show _=some (Blk.var (ar l))
  rw[hC];rfl
 rw[hplc];simp[cv]
theorem jtm(l:List Fil)(n:Int):az l n<0\/∃(i:Nat) (f:Fil),az l n=i/\i<l.length/\l[i]?=some f/\f∈l:=by
 unfold az ix;cases h:l.findIdx? (ci n) with
 |none=>exact .inl smq
 |some i=>
  obtain⟨hlt,-⟩:=xbb.1 h;exact .inr ⟨i,l[i],rfl,hlt,gge hlt,xbo hlt⟩
abbrev jg4(l:List Fil)(i:Nat)(f:Fil)(n:Note):V:=if addE f n=0 then .tup [fils (l.set i (cn f n)),vi 0] else .tup [fils [],vi (addE f n)]
abbrev jfn(l:List Fil)(i:Nat)(f:Fil)(d:Int):V:=if lw f d=0 then .tup [fils (l.set i (pe f d)),vi 0] else .tup [fils [],vi (lw f d)]
theorem jiv(h:addE f n=e)(he:e≠0):jg4 l i f n=.tup [fils [],vi e]:=by
 unfold jg4;rw[vd (by rw[h];exact he),h]
theorem qcn(h:addE f n=0):jg4 l i f n=.tup [fils (l.set i (cn f n)),vi 0]:=ve h
theorem qar(h:lw f d=e)(he:e≠0):jfn l i f d=.tup [fils [],vi e]:=by
 unfold jfn;rw[vd (by rw[h];exact he),h]
theorem qvd(h:lw f d=0):jfn l i f d=.tup [fils (l.set i (pe f d)),vi 0]:=ve h
theorem uc{a b c:V}(h:Wk a b):Wk (.tup [a,c]) (.tup [b,c]):=.t2 h (.refl _)
theorem qid(l:List Fil)(id d:Int)(hl:ri l)(h:az l id<0):Den prog T 167 [fils l,vi id,vi d] (.tup [fils [],vi 7]):=by
 refine ab call167 func167 40 ?_;refine rc (tq l id hl.1) ?_;exact zb5
theorem qpb(l:List Fil)(id:Int)(n:Note)(hl:ri l)(h:az l id<0):Den prog T 166 [fils l,vi id,.agg n.cs] (.tup [fils [],vi 7]):=by
 refine ab call166 func166 67 ?_;refine rc (tq l id hl.1) ?_;exact zb5
theorem qp8(l:List Fil)(id d:Int)(hl:ri l)(hi:az l id=i)(hf:l[i]?=some f):Den prog T 167 [fils l,vi id,vi d] (jfn l i f d):=by
 have hil:=(gsi.1 hf).1;have hl0:=hl.1;refine ab call167 func167 40 ?_;refine rc (tq l id hl.1) ?_;rw[hi];by_cases h1:f.cld=1048576
 .refine rcW (ai hf h1) (jgz d f.opn) ?_;cases h2:dayB d f.opn
  .rw[qar (e:=2) (by unfold lw;rw[vd (by simp[h1]),ve h2]) dcq];exact zb5
  have h0:lw f d=0:=by unfold lw;rw[vd (by simp[h1]),vd (by simp[h2])]
  rw[qvd h0];refine run ?_;refine pu ((jkx l hl i hil).toN 8) ?_ ?_
  .intro hz;have:l=[]:=by simpa using hz
   subst this;simp at hil
  intro _;have hcl:=ko l;have hput:=je0 l i 3 f (pe f d) (vi d) hf dcq rfl;have hcc:=jbd (l.set i (pe f d));rw[yc] at hcc;rw[show (l.map Fil.cs).flatten=ar l from rfl];generalize ar l=C at hcl hput;refine run ?_;refine jd4 (Wk.of ?_) ?_
  .rw[show fils (l.set i (pe f d))=.slice 8 ((l.set i (pe f d)).map Fil.cs) from rfl,<- hcc,<- hput]
  rw[hput,ko,yc];omega
 rw[qar (e:=11) (by unfold lw;rw[ve h1]) dcq];refine runW (ai hf (vf h1)) ?_;exact finW (uc (.nil 8))
theorem qxp(L:LibC T)(l:List Fil)(id:Int)(n:Note)(hl:ri l)(hn:n.Fit)(hi:az l id=i)(hf:l[i]?=some f):Den prog T 166 [fils l,vi id,.agg n.cs] (jg4 l i f n):=by
 have hil:=(gsi.1 hf).1;have hl0:=hl.1;have hfit:=hl.2 f (vp hf);refine ab call166 func166 67 ?_;refine rc (tq l id hl.1) ?_;rw[hi];by_cases h1:16<=f.nts.length
 .rw[jiv (e:=12) (by unfold addE;rw[ve h1]) dcq];refine runW hf ?_;exact finW (uc (.nil 8))
 refine rcW hf (jzp L n.name hn) ?_;cases h2:lz n.name
 .rw[jiv (e:=4) (by unfold addE;rw[vd h1,ve h2]) dcq];exact zb5
 refine rc (jxl f n) ?_;cases h3:qq f n
 .rw[jiv (e:=2) (by unfold addE;rw[vd h1,vd (by simp[h2]),ve h3]) dcq];exact zb5
 have tail:jb2 f n=false->addE f n=0:=fun h4=>by unfold addE;rw[vd h1,vd (by simp[h2]),vd (by simp[h3]),vd (by simp[h4])]
 by_cases h0:f.nts.length=0
 .have hla:jb2 f n=false:=by unfold jb2;rw[ve h0]
  rw[qcn (tail hla)];refine runW (vf (show ¬(0:Int)<(f.nts.length:Int) by omega)) ?_;refine fg (qdl 53 8 (jkx l hl i hil) omq ?_);have hcl:=ko l;have hat:=jee l i 7 f hf dcq;have hput:=je0 l i 7 f (cn f n) (ntss (f.nts++[n])) hf dcq rfl;have hcc:=jbd (l.set i (cn f n));rw[yc] at hcc;rw[show (l.map Fil.cs).flatten=ar l from rfl];generalize ar l=C at hcl hat hput;have hd':C.drop (i*8+7)=ntss f.nts::ar (l.drop (i+1)):=hat;obtain⟨p,hp⟩:∃p,54000000000+(i*8+7)=p:=⟨_,rfl⟩;have hge:1000000000<=p:=omq;have hof:i*8+7<1000000000:=omq;have hpn:∀d,d<1000000000->(p=d)=False:=fun d hd=>vf omq;have hpb:∀d,d<1000000000->(d == p)=false:=fun d hd=>by simp;omega
  have hpc:∀d,d<1000000000->(p == d)=false:=fun d hd=>by simp;omega
  have hap:f.nts.map Note.cs++[[.str n.name,vi n.fst,vi n.lst,vi n.rcd]]=(f.nts++[n]).map Note.cs:=by simp
  refine runD hp ?_;refine jfa (.one 0 (.one 1 (.one 2 (.one 3 (.alt 4 (.one 5 (.alt 6 (.alt 7 (.alt 8 (.sort (.alt 9 (.alt 10 (.one 11 (.alt 12 .done .nil)) .nil) .nil)) .nil) .nil) (.alt 7 (.alt 6 (.alt 8 (.sort (.alt 9 (.alt 10 (.one 11 (.alt 12 .done .nil)) .nil) .nil)) .nil) (.alt 8 (.alt 6 (.sort (.alt 9 (.alt 10 (.one 11 (.alt 12 .done .nil)) .nil) .nil)) .nil) .nil)) .nil))) (.alt 7 (.alt 4 (.one 5 (.alt 6 (.alt 8 (.sort (.alt 9 (.alt 10 (.one 11 (.alt 12 .done .nil)) .nil) .nil)) .nil) (.alt 8 (.alt 6 (.sort (.alt 9 (.alt 10 (.one 11 (.alt 12 .done .nil)) .nil) .nil)) .nil) .nil))) (.alt 8 (.alt 4 (.one 5 (.alt 6 (.sort (.alt 9 (.alt 10 (.one 11 (.alt 12 .done .nil)) .nil) .nil)) .nil)) .nil) .nil)) .nil)))))) ?_;refine jf0 (ai hp (ai hge (ai hof (ai hd' (ai hap (ai hput (ai (fun d hd=>hpn d hd) (ai (fun d hd=>hpb d hd) (fun d hd=>hpc d hd))))))))) ?_;refine jd4 (Wk.of ?_) ?_
  .rw[show fils (l.set i (cn f n))=.slice 8 ((l.set i (cn f n)).map Fil.cs) from rfl,<- hcc]
  rw[ko,yc];omega
 obtain⟨x,hx,-,-⟩:=af (l:=f.nts) (k:=f.nts.length-1) omq;have hlx:jb2 f n=decide (n.rcd<x.rcd):=by unfold jb2;rw[vd h0,hx]
 by_cases hr:n.rcd<x.rcd
 .rw[jiv (e:=5) (by unfold addE;rw[vd h1,vd (by simp[h2]),vd (by simp[h3]),ve (by rw[hlx];simp[hr])]) dcq];refine runW (ai hx (vg (show (0:Int)<(f.nts.length:Int) by omega))) ?_;exact finW (uc (.nil 8))
 have hla:jb2 f n=false:=by rw[hlx];simp[hr]
 rw[qcn (tail hla)];refine runW (ai hx (vg (show (0:Int)<(f.nts.length:Int) by omega))) ?_;refine fg (qdl 53 8 (jkx l hl i hil) omq ?_);have hcl:=ko l;have hat:=jee l i 7 f hf dcq;have hput:=je0 l i 7 f (cn f n) (ntss (f.nts++[n])) hf dcq rfl;have hcc:=jbd (l.set i (cn f n));rw[yc] at hcc;rw[show (l.map Fil.cs).flatten=ar l from rfl];generalize ar l=C at hcl hat hput;have hd':C.drop (i*8+7)=ntss f.nts::ar (l.drop (i+1)):=hat;obtain⟨p,hp⟩:∃p,54000000000+(i*8+7)=p:=⟨_,rfl⟩;have hge:1000000000<=p:=omq;have hof:i*8+7<1000000000:=omq;have hpn:∀d,d<1000000000->(p=d)=False:=fun d hd=>vf omq;have hpb:∀d,d<1000000000->(d == p)=false:=fun d hd=>by simp;omega
 have hpc:∀d,d<1000000000->(p == d)=false:=fun d hd=>by simp;omega
 have hap:f.nts.map Note.cs++[[.str n.name,vi n.fst,vi n.lst,vi n.rcd]]=(f.nts++[n]).map Note.cs:=by simp
 refine runD hp ?_;refine jfa (.one 0 (.one 1 (.one 2 (.one 3 (.alt 4 (.one 5 (.alt 6 (.alt 7 (.alt 8 (.sort (.alt 9 (.alt 10 (.one 11 (.alt 12 .done .nil)) .nil) .nil)) .nil) .nil) (.alt 7 (.alt 6 (.alt 8 (.sort (.alt 9 (.alt 10 (.one 11 (.alt 12 .done .nil)) .nil) .nil)) .nil) (.alt 8 (.alt 6 (.sort (.alt 9 (.alt 10 (.one 11 (.alt 12 .done .nil)) .nil) .nil)) .nil) .nil)) .nil))) (.alt 7 (.alt 4 (.one 5 (.alt 6 (.alt 8 (.sort (.alt 9 (.alt 10 (.one 11 (.alt 12 .done .nil)) .nil) .nil)) .nil) (.alt 8 (.alt 6 (.sort (.alt 9 (.alt 10 (.one 11 (.alt 12 .done .nil)) .nil) .nil)) .nil) .nil))) (.alt 8 (.alt 4 (.one 5 (.alt 6 (.sort (.alt 9 (.alt 10 (.one 11 (.alt 12 .done .nil)) .nil) .nil)) .nil)) .nil) .nil)) .nil)))))) ?_;refine jf0 (ai hp (ai hge (ai hof (ai hd' (ai hap (ai hput (ai (fun d hd=>hpn d hd) (ai (fun d hd=>hpb d hd) (fun d hd=>hpc d hd))))))))) ?_;refine jd4 (Wk.of ?_) ?_
 .rw[show fils (l.set i (cn f n))=.slice 8 ((l.set i (cn f n)).map Fil.cs) from rfl,<- hcc]
 rw[ko,yc];omega
end Go.Arc
