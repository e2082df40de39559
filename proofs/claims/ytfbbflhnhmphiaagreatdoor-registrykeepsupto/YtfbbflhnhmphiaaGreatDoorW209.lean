/- A part of this claim. -/
import Derived.Test.YtfbbflhnhmphiaaGreatDoorBcA
set_option maxHeartbeats 16000000
set_option maxRecDepth 100000
namespace Go.Arc
open Go.Ab Go.RowKit Go.Proofs Tryz
variable {T : Lay}
variable {r:Rgs}{f:Fil}{d:Int}{e:Evt}
theorem okL(h:da r=0):checkG r=0:=by
 unfold da at h;split at h
 .exact zc4
 rename_i h1;exact(jc0.1 (yt.1 h1)).g
theorem vdt9(h:(vdt r f d).kind=9):¬d<f.opn/\gone1 r f d=false:=by
 rcases jhr (r:=r) (f:=f) (d:=d) with⟨-,e⟩|⟨-,-,e⟩|⟨-,-,-,e⟩|⟨h0,h1,h2,-⟩
 .rw[e] at h;cases h
 .rw[e] at h;cases h
 .rw[e] at h;cases h
 exact⟨h0,h1⟩
theorem vdt2(h0:¬d<f.opn)(h1:gone1 r f d=false)(h2:gone2 r f d=true):(vdt r f d).kind=2:=by
 rcases jhr (r:=r) (f:=f) (d:=d) with⟨e,-⟩|⟨-,e,-⟩|⟨-,-,-,e⟩|⟨-,-,e,-⟩
 .exact absurd e h0
 .rw[h1] at e;cases e
 .exact e
 rw[h2] at e;cases e
theorem qnf{x:Rgs}(h1:x.crs=r.crs)(h2:x.dps=r.dps)(id:Int):gonR x id=gonR r id:=by unfold gonR;rw[h1,h2]
theorem quy(h:(actK r e).2=0):((actK r e).1.crs=r.crs/\(actK r e).1.dps=r.dps)\/
  ((actK r e).1=morC r (newD r (nth e 0) e.day (flsP r (nth e 0)))/\desE r (nth e 0) e.day=0)\/
  ((actK r e).1= { r with dps:=r.dps++[⟨nth e 0,e.day⟩] } /\ onE r (nth e 0) e.day=0/\(onV r (nth e 0) e.day).kind=9):=by
 unfold actK at h ⊢;by_cases h1:e.kind=1
 .rw[ve h1];exact zn
 rw[vd h1] at h ⊢;by_cases h2:e.kind=2
 .rw[ve h2];exact zn
 rw[vd h2] at h ⊢;by_cases h3:e.kind=3
 .rw[ve h3];by_cases g:gapP r.pls (nth e 0)=true
  .rw[ve g];exact zn
  rw[vd g];exact zn
 rw[vd h3] at h ⊢;by_cases h4:e.kind=4
 .rw[ve h4];exact zn
 rw[vd h4] at h ⊢;by_cases h5:e.kind=5
 .rw[ve h5];exact zn
 rw[vd h5] at h ⊢;by_cases h6:e.kind=6
 .rw[ve h6];exact zn
 rw[vd h6] at h ⊢;by_cases h7:e.kind=7
 .rw[ve h7];exact zn
 rw[vd h7] at h ⊢;by_cases h8:e.kind=8
 .rw[ve h8];exact zn
 rw[vd h8] at h ⊢;by_cases h9:e.kind=9
 .rw[ve h9];exact zn
 rw[vd h9] at h ⊢;by_cases h10:e.kind=10
 .rw[ve h10];exact zn
 rw[vd h10] at h ⊢;by_cases h11:e.kind=11
 .rw[ve h11];exact zn
 rw[vd h11] at h ⊢;by_cases h12:e.kind=12
 .rw[ve h12];exact zn
 rw[vd h12] at h ⊢;by_cases h13:e.kind=13
 .rw[ve h13] at h ⊢;rw[jmy h];exact zn
 rw[vd h13] at h ⊢;by_cases h14:e.kind=14
 .rw[ve h14] at h ⊢;rw[joe h];exact zn
 rw[vd h14] at h ⊢;by_cases h15:e.kind=15
 .rw[ve h15] at h ⊢;rw[jmo h];exact zn
 rw[vd h15] at h ⊢;by_cases h16:e.kind=16
 .rw[ve h16] at h ⊢;have hd:=jpo h;refine .inr (.inl ⟨hd,?_⟩);have h:(desP r (nth e 0) e.day).2.2=0:=h;unfold desP at h;split at h
  .rename_i c;exact absurd h c
  rename_i c;exact yt.1 c
 rw[vd h16] at h ⊢;refine .inr (.inr ⟨rfl,?_⟩);have h:(if onE r (nth e 0) e.day≠0 then onE r (nth e 0) e.day else if(onV r (nth e 0) e.day).kind≠9 then 21 else 0)=0:=h;split at h
 .rename_i c;exact absurd h c
 rename_i c;split at h
 .cases h
 rename_i c2;exact⟨yt.1 c,yt.1 c2⟩
abbrev inC(id:Int)(c:Crt):Bool:=c.fls.any fun y=>decide (id=y)
abbrev isD(id:Int)(x:Dep):Bool:=decide (x.fil=id)
theorem jno(r:Rgs)(id:Int):gonR r id=match r.crs.find? (inC id) with
 |some c=>(c.day,true)
 |none=>match r.dps.find? (isD id) with
  |some x=>(x.day,true)
  |none=>(0,false):=rfl
theorem qbh{id:Int}(h:(gonR r id).2=false):r.crs.find? (inC id)=none/\r.dps.find? (isD id)=none:=by
 rw[jno] at h;cases h1:r.crs.find? (inC id) with
 |some c=>rw[h1] at h;cases h
 |none=>
  rw[h1] at h;simp only at h;cases h2:r.dps.find? (isD id) with
  |some c=>rw[h2] at h;cases h
  |none=>exact⟨rfl,rfl⟩
theorem qjj{id:Int}(_:da r=0)(h:(appl r e).2=0):
  ((gonR r id).2=true->(gonR (appl r e).1 id).2=true)/\
  ((gonR r id).2=false->(gonR (appl r e).1 id).2=true->(gonR (appl r e).1 id).1=e.day/\onE r id e.day=0/\onE (appl r e).1 id e.day=0/\
   ((onV r id e.day).kind=8/\(onV (appl r e).1 id e.day).kind=1\/(onV r id e.day).kind=9/\(onV (appl r e).1 id e.day).kind=2)):=by
 obtain⟨-,-,-,h4,h5,h6⟩:=jaq h;have hz:=okL h5;rw[h6];rcases quy h4 with⟨g1,g2⟩|⟨g1,g2⟩|⟨g1,g2,g3⟩
 .have hs:gonR (di (actK r e).1 e.day) id=gonR r id:=qnf g1 g2 id;rw[hs];exact⟨fun a=>a,fun a b=>by rw[a] at b;cases b⟩
 .rw[g1] at hz ⊢;obtain⟨c,hcD⟩:∃c,newD r (nth e 0) e.day (flsP r (nth e 0))=c:=⟨_,rfl⟩;have hday:c.day=e.day:=by rw[<- hcD];rfl
  have hfls:c.fls=flsP r (nth e 0):=by rw[<- hcD];rfl
  rw[hcD] at hz ⊢
  have hx:(gonR (di (morC r c) e.day) id)=match (r.crs++[c]).find? (inC id) with
   |some c=>(c.day,true)
   |none=>match r.dps.find? (isD id) with
    |some x=>(x.day,true)
    |none=>(0,false):=rfl
  rw[xcq] at hx;constructor
  .intro a;rw[hx];rw[jno] at a;cases h1:r.crs.find? (inC id) with
   |some q=>rfl
   |none=>
    rw[h1] at a;simp only[Option.none_or];cases h2:[c].find? (inC id) with
    |some q=>rfl
    |none=>exact a
  intro a b;obtain⟨a1,a2⟩:=qbh a;rw[a1,a2,Option.none_or] at hx
  have hm:inC id c=true:=by
   cases hi:inC id c
   .rw[List.find?_cons,hi] at hx;rw[hx] at b;cases b
   rfl
  rw[List.find?_cons,hm] at hx;have hx:gonR (di (morC r c) e.day) id=(c.day,true):=hx
  have hidm:id∈c.fls:=by
   obtain⟨y,hy1,hy2⟩:=yd.1 hm;rw[xj hy2];exact hy1
  obtain⟨p,hD⟩:=qsh.1 g2;have hk:=hD.rdy.fls id (by rw[<- jx3 hD.rdy.fp,<- hfls];exact hidm);obtain⟨k1,k2,k3⟩:=jz3 hk;obtain⟨o1,o2,o3⟩:=jqw k1;obtain⟨kk,-,-,-,-,hidf⟩:=jeo o2;obtain⟨v1,-,-⟩:=vdt8 k3;have hxe:onE (di (morC r c) e.day) id e.day=0:=jj0 hz o2 o3;refine⟨by rw[hx];exact hday,k1,hxe,.inl ⟨k2,?_⟩⟩;unfold onV;rw[ve hxe];exact qqm (r:=r) (c:=c) (f:=filA r id) omq (by rw[hidf];exact hidm) omq
 rw[g1] at hz ⊢
 have hx:(gonR (di { r with dps:=r.dps++[⟨nth e 0,e.day⟩] } e.day) id)=match r.crs.find? (inC id) with
  |some c=>(c.day,true)
  |none=>match (r.dps++[(⟨nth e 0,e.day⟩:Dep)]).find? (isD id) with
   |some x=>(x.day,true)
   |none=>(0,false):=rfl
 rw[xcq] at hx;constructor
 .intro a;rw[hx];rw[jno] at a;cases h1:r.crs.find? (inC id) with
  |some q=>rfl
  |none=>
   rw[h1] at a;simp only at a ⊢;cases h2:r.dps.find? (isD id) with
   |some q=>rfl
   |none=>rw[h2] at a;cases a
 intro a b;obtain⟨a1,a2⟩:=qbh a;rw[a1,a2,Option.none_or] at hx
 have hm:isD id ⟨nth e 0,e.day⟩=true:=by
  cases hi:isD id ⟨nth e 0,e.day⟩
  .rw[List.find?_cons,hi] at hx;rw[hx] at b;cases b
  rfl
 rw[List.find?_cons,hm] at hx;have hx:gonR (di { r with dps:=r.dps++[⟨nth e 0,e.day⟩] } e.day) id=(e.day,true):=hx;have hidn:nth e 0=id:=xj hm;rw[hidn] at g2 g3 hz hx ⊢;obtain⟨o1,o2,o3⟩:=jqw g2;obtain⟨kk,-,-,-,-,hidf⟩:=jeo o2;have hxe:onE (di { r with dps:=r.dps++[⟨id,e.day⟩] } e.day) id e.day=0:=jj0 hz o2 o3;refine⟨by rw[hx],g2,hxe,.inr ⟨g3,?_⟩⟩;unfold onV at g3 ⊢;rw[ve g2] at g3;rw[ve hxe];obtain⟨w1,w2⟩:=vdt9 g3;refine vdt2 w1 w2 ?_
 show (r.dps++[(⟨id,e.day⟩:Dep)]).any (fun c:Dep=>cu e.day (filA r id) c.day [c.fil])=true
 rw[xcf]
 have:cu e.day (filA r id) e.day [id]=true:=by
  unfold cu;rw[hidf];simp
 simp[this]
theorem qel(L:LibT T)(l:List Evt)(hl:l.length<=1048576):Den prog T 6 [evts l] (vb true):=by
 have LC:=libC L;refine ab call6 func6 128 ?_;refine rc (jgj L) ?_;by_cases h30:30<l.length
 .exact zcl
 have hfw:=jhn (T:=T) l omq;refine rcW (vf h30) hfw ?_;cases hf:pr l
 .exact za
 have hs:=jep hf;refine rc jeb ?_;refine run ?_;refine loop ⟨[31,29,30,3],[3],[],[]⟩ (fun s:Nat×Rgs=>s.1<=l.length/\Low s.2 s.1/\da s.2=0) (fun s=>l.length-s.1) (fun s=>⟨128,[(31,.v (vi s.1)),(29,.v (evts l)),(30,.v (vi l.length)),(3,.p 3 0)],[(3,.var s.2.cs)],[]⟩) (0,aj) ⟨vj _,gj 0,jdz⟩ ?_;rintro⟨k,r⟩ ⟨hk,hlow,hc⟩
 show aw _ _ _ ⟨128,[(31,.v (vi k)),(29,.v (evts l)),(30,.v (vi l.length)),(3,.p 3 0)],[(3,.var r.cs)],[]⟩ _
 dsimp only at hk hlow hc
 by_cases hlt:k<l.length
 .obtain⟨e,he,-,hm⟩:=af hlt;have hap:=jdp L hlow omq (hs e hm);rw[jog hc] at hap;have hgood:=jrf (e:=e) hlow (hs e hm);have hlaw:=fun id=>qjj (r:=r) (e:=e) (id:=id) hc;have hfit:=cg hlow omq;obtain⟨x,hx⟩:∃x,(appl r e).1=x:=⟨_,rfl⟩;obtain⟨y,hy⟩:∃y,(appl r e).2=y:=⟨_,rfl⟩;rw[hx,hy] at hap;rw[hx,hy] at hgood;simp only[hx,hy] at hlaw;clear hx hy;refine rcW he hap ?_;by_cases h0:y=0
  case neg=>
   clear hap hgood hlaw;refine runW (vf h0) ?_;exact zbv
  have hE:=hgood h0;have hlaw:=fun id=>hlaw id h0;have hfx:=cg hE.low omq;have g2:=hfit.fls.1;clear hap hgood;refine runW h0 ?_;refine dl ⟨[46,44,45,31,29,30,3,5,6],[3,5,6],[],[]⟩ (fun i:Nat=>i<=r.fls.length) (fun i=>r.fls.length-i) (fun i=>[(46,.v (vi i))]) 0 (vj _) ?_;intro i hi;by_cases hlt2:i<r.fls.length
  .obtain⟨o,ho,-,-⟩:=af hlt2;have q1:=jvg (T:=T) r hfit o.id;have q2:=jvg (T:=T) x hfx o.id;have o1:=jau LC r hfit o.id e.day;have o2:=jau LC x hfx o.id e.day;obtain⟨law1,law2⟩:=hlaw o.id;obtain⟨⟨u1,u2⟩,hu⟩:∃u,gonR r o.id=u:=⟨_,rfl⟩;obtain⟨⟨w1,w2⟩,hw⟩:∃u,gonR x o.id=u:=⟨_,rfl⟩;obtain⟨va,hva⟩:∃u,onV r o.id e.day=u:=⟨_,rfl⟩;obtain⟨vx,hvx⟩:∃u,onV x o.id e.day=u:=⟨_,rfl⟩;obtain⟨ea,hea⟩:∃u,onE r o.id e.day=u:=⟨_,rfl⟩;obtain⟨ex,hex⟩:∃u,onE x o.id e.day=u:=⟨_,rfl⟩;rw[hu] at q1 law1 law2;rw[hw] at q2 law1 law2;rw[hva,hea] at o1;rw[hvx,hex] at o2;rw[hva,hvx,hea,hex] at law2;have q1:Den prog T 21 [.agg r.cs,vi o.id] (.tup [vi u1,vb u2]):=q1;have q2:Den prog T 21 [.agg x.cs,vi o.id] (.tup [vi w1,vb w2]):=q2;have law1:u2=true->w2=true:=law1;have law2:u2=false->w2=true->w1=e.day/\ea=0/\ex=0/\(va.kind=8/\vx.kind=1\/va.kind=9/\vx.kind=2):=law2;clear hu hw hva hvx hea hex;refine rcW ho q1 ?_;refine rc q2 ?_;cases u2
   case true=>
    obtain rfl:=law1 rfl;refine run ?_;exact zcn
   cases w2
   case false=>
    refine run ?_;exact zcn
   obtain⟨rfl,rfl,rfl,hkk⟩:=law2 rfl rfl;refine rc o1 ?_;refine rc o2 ?_;rcases hkk with⟨k1,k2⟩|⟨k1,k2⟩
   .refine runW (ai k1 k2) ?_;exact zcn
   refine runW (ai k1 k2) ?_;exact zcn
  refine run ?_;exact zq
 exact za
end Go.Arc
