/- A part of this claim. -/
import Derived.Test.YtnmclbgpndpedaaGreatDoorBaO
set_option maxRecDepth 100000
namespace Go.Arc
open Go.Ab Go.RowKit Go.Proofs Tryz
variable {T : Lay}
theorem propR_ok {r:Rgs} {p:Prp} (h:(propR r p).2=0):(propR r p).1=morP r p/\bh (morP r p)=0:=by
 unfold propR at h ⊢;by_cases h1:bh r≠0
 ·rw[if_pos h1] at h; cases h
 rw[if_neg h1] at h ⊢;by_cases h2:p.wdr≠1048576
 ·rw[if_pos h2] at h; cases h
 rw[if_neg h2] at h ⊢;unfold chgd at h ⊢;by_cases h3:bh (morP r p)≠0
 ·rw[if_pos h3] at h; exact absurd h h3
 ·rw[if_neg h3]; exact ⟨rfl,Decidable.not_not.1 h3⟩
theorem apprR_ok {r:Rgs} {a:Apv} (h:(apprR r a).2=0):(apprR r a).1=morA r a/\bh (morA r a)=0:=by
 unfold apprR at h ⊢;by_cases h1:bh r≠0
 ·rw[if_pos h1] at h; cases h
 rw[if_neg h1] at h ⊢;unfold chgd at h ⊢;by_cases h3:bh (morA r a)≠0
 ·rw[if_pos h3] at h; exact absurd h h3
 ·rw[if_neg h3]; exact ⟨rfl,Decidable.not_not.1 h3⟩
theorem wdrR_ok {r:Rgs} {n d:Int} (h:(wdrR r n d).2=0):(wdrR r n d).1=wdrG r (jbf r.pps n).toNat d/\bh (wdrG r (jbf r.pps n).toNat d)=0:=by
 unfold wdrR at h ⊢;by_cases h1:wdrE r n d≠0
 ·rw[if_pos h1] at h; exact absurd h h1
 ·rw[if_neg h1]; exact ⟨rfl,jj2.2 (wdr_ok (Decidable.not_not.1 h1))⟩
theorem day_of {o:Int} (h1:¬o<0) (h2:¬ 1048575<o):dayG o=true:=by unfold dayG; rw[decide_eq_true (by omega),decide_eq_true (by omega)]; rfl
structure Aft (r x:Rgs) (d f:Int):Prop where
 now:onE x f d=0/\(onV x f d).kind=1
 at_:∀o,dayG o=true->onE r f o=0/\onE x f o=0/\(o<d->(onV x f o).kind=(onV r f o).kind)/\(d<=o->(onV x f o).kind=1)
theorem des_aft {r:Rgs} {n d:Int} {p:Prp} (h:Des r n d p) (hl:r.crs.length<1024) (hp:p.fls.length<=256) {f:Int} (hf:f∈p.fls):Aft r (morC r (newD r n d p.fls)) d f:=by
 obtain ⟨-,hok⟩:=h.ok hl hp;obtain ⟨h1,-,h3⟩:=keepF_no (h.rdy.fls f hf);obtain ⟨g1,g2,g3⟩:=onE_0' h1;obtain ⟨k,-,-,-,-,hid⟩:=jo7 g2;obtain ⟨e1,-,-⟩:=vdt8 h3;have hx:∀o,dayG o=true->onE (morC r (newD r n d p.fls)) f o=0:=fun o ho=>onE_of hok.g g2 ho
 have hv:∀o,dayG o=true->onV (morC r (newD r n d p.fls)) f o=vdt (morC r (newD r n d p.fls)) (filA r f) o:=fun o ho=>by
  unfold onV;rw[if_pos (hx o ho)];rfl
 have hg:∀o,dayG o=true->d<=o->(onV (morC r (newD r n d p.fls)) f o).kind=1:=fun o ho hdo=>by
  rw[hv o ho];exact vdt_gone hdo (by rw[hid]; exact hf) (by omega)
 refine ⟨⟨hx d g3,hg d g3 (Int.le_refl _)⟩,fun o ho=>⟨onE_of g1 g2 ho,hx o ho,fun hlt=> ?_,hg o ho⟩⟩;rw[hv o ho,vdt_morC (show o<(newD r n d p.fls).day from hlt)];unfold onV;rw[if_pos (onE_of g1 g2 ho)]
set_option maxHeartbeats 16000000 in
theorem jrv (L:LibT T) (r:Rgs) (p:Prp) (a:Apv) (n d o:Int) (h:r.Fit) (hp:p.fls.length<=1048576):Den prog T 5 [.agg r.cs,.agg p.cs,.agg a.cs,vi n,vi d,vi o] (vb true):=by
 have LC:=libC L;have hfw:=den_Few14 (T:=T) r h;have hck:=jd3 L r h;refine ae follows (fun args w=>call5 args w) func5 rfl 194 rfl ?_;refine run ?_;refine call (den_awake14 L) ?_;refine run ?_;refine call hfw ?_;cases hf:few14 r
 ·refine run ?_;exact fin rfl
 have hF:=few14_of hf;have hpl:r.pps.length<1048576:=by have:=hF.pps; show _<1048576; omega
 have hal:r.aps.length<1048576:=by have:=hF.aps; show _<1048576; omega
 have hcl:r.crs.length<1048576:=by have:=hF.crs; show _<1048576; omega
 by_cases h12:12<p.fls.length
 ·refine runW (eq_true h12) ?_;exact fin rfl
 refine runW (eq_false h12) ?_;refine call hck ?_;by_cases hz:bh r=0
 case neg=>
  refine runW (eq_false hz) ?_;exact fin rfl
 refine runW hz ?_;refine call (den_Propose L r h p hp hpl) ?_;refine runW trivial ?_;refine call (den_Approve L r h a hal) ?_;refine runW trivial ?_;refine call (den_Withdraw L r h n d) ?_
 have cx:(propR r p).2=0->Den prog T 11 [.agg (propR r p).1.cs] (vi 0):=fun e=>by
  obtain ⟨e1,e2⟩:=propR_ok e;have:=jd3 L (morP r p) (fit_morP h hp hpl);rw[e2] at this;rw[e1];exact this
 have cy:(apprR r a).2=0->Den prog T 11 [.agg (apprR r a).1.cs] (vi 0):=fun e=>by
  obtain ⟨e1,e2⟩:=apprR_ok e;have:=jd3 L (morA r a) (fit_morA h hal);rw[e2] at this;rw[e1];exact this
 have cz:(wdrR r n d).2=0->Den prog T 11 [.agg (wdrR r n d).1.cs] (vi 0):=fun e=>by
  obtain ⟨e1,e2⟩:=wdrR_ok e;have:=jd3 L (wdrG r (jbf r.pps n).toNat d) (fit_wdrG h _ _);rw[e2] at this;rw[e1];exact this
 obtain ⟨X,hX⟩:∃X,(propR r p).1.cs=X:=⟨_,rfl⟩;obtain ⟨Y,hY⟩:∃X,(apprR r a).1.cs=X:=⟨_,rfl⟩;obtain ⟨Z,hZ⟩:∃X,(wdrR r n d).1.cs=X:=⟨_,rfl⟩;obtain ⟨x,hx⟩:∃X,(propR r p).2=X:=⟨_,rfl⟩;obtain ⟨y,hy⟩:∃X,(apprR r a).2=X:=⟨_,rfl⟩;obtain ⟨z,hz2⟩:∃X,(wdrR r n d).2=X:=⟨_,rfl⟩;have hZl:Z.length=12:=by rw[<- hZ]; rfl
 have tX:bn 12 X=some X:=by rw[<- hX]; rfl
 have tY:bn 12 Y=some Y:=by rw[<- hY]; rfl
 have tZ:bn 12 Z=some Z:=by rw[<- hZ]; rfl
 rw[hX,hx] at cx;rw[hY,hy] at cy;rw[hZ,hz2] at cz;rw[hX,hY,hZ,hx,hy,hz2];clear hX hY hZ hx hy hz2;refine runTo (stopAt 8) hZl ?_;refine jea .nm (fun _:Unit=>True) (fun _=>⟨194,[(3,.v (vi n)),(4,.v (vi d)),(5,.v (vi o)),(6,.p 6 0),(88,.v (vb false))],[(6,.var r.cs)],[]⟩) ?_ ?_
 ·intro E hE;have tail:∀st,Sub prog T ⟨194,[(3,.v (vi n)),(4,.v (vi d)),(5,.v (vi o)),(6,.p 6 0),(88,.v (vb false))],[(6,.var r.cs)],[]⟩ st->E .nm st:=fun st hs=>hE () st trivial hs;clear hE;by_cases e1:x=0 <;> by_cases e2:y=0 <;> by_cases e3:z=0
  ·refine runW (ai (ai tX (ai tY tZ)) (ai e1 (ai e2 e3))) ?_;refine call (cx e1) ?_;refine runW (ai (ai tX (ai tY tZ)) (ai e1 (ai e2 e3))) ?_;refine call (cy e2) ?_;refine runW (ai (ai tX (ai tY tZ)) (ai e1 (ai e2 e3))) ?_;refine call (cz e3) ?_;refine runW (ai (ai tX (ai tY tZ)) (ai e1 (ai e2 e3))) ?_;refine tail _ ?_
   exact be [6] [3,4,5,6,88] rfl rfl rfl (fun i k e=>by
    rw[ah] at e;split at e
    ·rename_i he; subst he; exact e
    ·cases e) rfl
  ·refine runW (ai (ai tX (ai tY tZ)) (ai e1 (ai e2 (eq_false e3)))) ?_;refine call (cx e1) ?_;refine runW (ai (ai tX (ai tY tZ)) (ai e1 (ai e2 (eq_false e3)))) ?_;refine call (cy e2) ?_;refine runW (ai (ai tX (ai tY tZ)) (ai e1 (ai e2 (eq_false e3)))) ?_;refine tail _ ?_
   exact be [6] [3,4,5,6,88] rfl rfl rfl (fun i k e=>by
    rw[ah] at e;split at e
    ·rename_i he; subst he; exact e
    ·cases e) rfl
  ·refine runW (ai (ai tX (ai tY tZ)) (ai e1 (ai (eq_false e2) e3))) ?_;refine call (cx e1) ?_;refine runW (ai (ai tX (ai tY tZ)) (ai e1 (ai (eq_false e2) e3))) ?_;refine call (cz e3) ?_;refine runW (ai (ai tX (ai tY tZ)) (ai e1 (ai (eq_false e2) e3))) ?_;refine tail _ ?_
   exact be [6] [3,4,5,6,88] rfl rfl rfl (fun i k e=>by
    rw[ah] at e;split at e
    ·rename_i he; subst he; exact e
    ·cases e) rfl
  ·refine runW (ai (ai tX (ai tY tZ)) (ai e1 (ai (eq_false e2) (eq_false e3)))) ?_;refine call (cx e1) ?_;refine runW (ai (ai tX (ai tY tZ)) (ai e1 (ai (eq_false e2) (eq_false e3)))) ?_;refine tail _ ?_
   exact be [6] [3,4,5,6,88] rfl rfl rfl (fun i k e=>by
    rw[ah] at e;split at e
    ·rename_i he; subst he; exact e
    ·cases e) rfl
  ·refine runW (ai (ai tX (ai tY tZ)) (ai (eq_false e1) (ai e2 e3))) ?_;refine call (cy e2) ?_;refine runW (ai (ai tX (ai tY tZ)) (ai (eq_false e1) (ai e2 e3))) ?_;refine call (cz e3) ?_;refine runW (ai (ai tX (ai tY tZ)) (ai (eq_false e1) (ai e2 e3))) ?_;refine tail _ ?_
   exact be [6] [3,4,5,6,88] rfl rfl rfl (fun i k e=>by
    rw[ah] at e;split at e
    ·rename_i he; subst he; exact e
    ·cases e) rfl
  ·refine runW (ai (ai tX (ai tY tZ)) (ai (eq_false e1) (ai e2 (eq_false e3)))) ?_;refine call (cy e2) ?_;refine runW (ai (ai tX (ai tY tZ)) (ai (eq_false e1) (ai e2 (eq_false e3)))) ?_;refine tail _ ?_
   exact be [6] [3,4,5,6,88] rfl rfl rfl (fun i k e=>by
    rw[ah] at e;split at e
    ·rename_i he; subst he; exact e
    ·cases e) rfl
  ·refine runW (ai (ai tX (ai tY tZ)) (ai (eq_false e1) (ai (eq_false e2) e3))) ?_;refine call (cz e3) ?_;refine runW (ai (ai tX (ai tY tZ)) (ai (eq_false e1) (ai (eq_false e2) e3))) ?_;refine tail _ ?_
   exact be [6] [3,4,5,6,88] rfl rfl rfl (fun i k e=>by
    rw[ah] at e;split at e
    ·rename_i he; subst he; exact e
    ·cases e) rfl
  ·refine runW (ai (ai tX (ai tY tZ)) (ai (eq_false e1) (ai (eq_false e2) (eq_false e3)))) ?_;refine tail _ ?_
   exact be [6] [3,4,5,6,88] rfl rfl rfl (fun i k e=>by
    rw[ah] at e;split at e
    ·rename_i he; subst he; exact e
    ·cases e) rfl
 intro _ _
 show aw _ _ _ ⟨194,[(3,.v (vi n)),(4,.v (vi d)),(5,.v (vi o)),(6,.p 6 0),(88,.v (vb false))],[(6,.var r.cs)],[]⟩ _
 have hD:=jrm L r h n d hcl;rw[desP_eq n d (by have:=hF.crs; omega) (fun q hq=>by have:=hF.fls q hq; omega)] at hD;refine run ?_;refine call hD ?_;by_cases hE:desE r n d=0
 ·obtain ⟨q,hQ⟩:=des_zero.1 hE;have hq:=hF.fls q (List.mem_of_find?_eq_some hQ.rdy.fp);have hcr:=hF.crs;obtain ⟨-,hok⟩:=hQ.ok (by omega) (by omega);have haft:=fun f hf=>des_aft hQ (by omega) (by omega) (f:=f) hf;have hne:=(hQ.rdy.ok.prp (jl5 hQ.rdy.fp).2.choose_spec).ne;have hne2:¬q.fls.length=0:=fun e=>hne (List.eq_nil_of_length_eq_zero e);have hag:=ready_again (c:=newD r n d q.fls) hQ.rdy rfl hok;have e:desR r n d=(morC r (newD r n d q.fls),newD r n d q.fls,0):=by unfold desR; rw[if_neg (fun e=>e hE),jq4 hQ.rdy.fp]
  have hbl:(befC r.crs r.crs.length).length=32:=befC_len hQ.rdy.ok;have hxf:(morC r (newD r n d q.fls)).Fit:=fit_morC h ⟨by show q.fls.length<=1048576; omega,by show (befC r.crs r.crs.length).length<=1048576; omega,by show (sumD _).length<=1048576; rw[jm5]; decide⟩ hcl;rw[e];have c1:=jd3 L _ hxf;rw[jj2.2 hok] at c1;have c2:=jou L _ hxf n d;rw[hag] at c2;have c3:=fun f o=>den_On (T:=T) LC _ hxf f o;have c4:=fun f o=>den_On (T:=T) LC r h f o;have hcf:(newD r n d q.fls).fls=q.fls:=rfl;obtain ⟨D,hDD⟩:∃D,newD r n d q.fls=D:=⟨_,rfl⟩;rw[hDD] at c1 c2 c3 haft hcf hxf ⊢;obtain ⟨W,hW⟩:∃W,morC r D=W:=⟨_,rfl⟩;rw[hW] at c1 c2 c3 haft hxf ⊢;refine runW trivial ?_;refine call c1 ?_;refine runW trivial ?_;refine call c2 ?_;refine runW (ai hcf hne2) ?_
  refine loop ⟨[4,5,6,19,125,126,127],[6,19],[],[]⟩ (fun j:Nat=>j<=q.fls.length) (fun j=>q.fls.length-j)
   (fun j=>⟨194,[(4,.v (vi d)),(5,.v (vi o)),(6,.p 6 0),(19,.p 19 0),(125,.v (ints q.fls)),(126,.v (vi q.fls.length)),(127,.v (vi j))],[(6,.var r.cs),(19,.var W.cs)],[]⟩) 0 (Nat.zero_le _) ?_
  intro j hj;by_cases hjl:j<q.fls.length
  ·obtain ⟨f,hxj,-,hmf⟩:=aj hjl;obtain ⟨⟨a1,a2⟩,a3⟩:=haft f hmf;have d1:=c3 f d;rw[a1] at d1;refine runW hxj ?_;refine call d1 ?_;by_cases ho1:o<0
   ·refine runW (ai a2 (eq_true ho1)) ?_;exact round (j+1) hjl (by omega)
   by_cases ho2:1048575<o
   ·refine runW (ai a2 (ai (eq_false ho1) (eq_true ho2))) ?_;exact round (j+1) hjl (by omega)
   obtain ⟨b1,b2,b3,b4⟩:=a3 o (day_of ho1 ho2);have d2:=c4 f o;have d3:=c3 f o;rw[b1] at d2;rw[b2] at d3;refine runW (ai a2 (ai (eq_false ho1) (eq_false ho2))) ?_;refine call d2 ?_;refine runW trivial ?_;refine call d3 ?_;by_cases hod:o<d
   ·have b5:=b3 hod;have hnd:¬d<=o:=by omega
    refine runW (ai (eq_true hod) (ai (eq_false hnd) b5)) ?_;exact round (j+1) hjl (by omega)
   ·have hdo:d<=o:=by omega
    have b5:=b4 hdo;refine runW (ai (eq_false hod) (ai (eq_true hdo) b5)) ?_;exact round (j+1) hjl (by omega)
  refine run ?_;exact fin rfl
 ·have e:desR r n d=(c8,crtZ,desE r n d):=by unfold desR; rw[if_pos hE]
  rw[e];have hl0:c8.crs.length=0:=rfl;have hn0:crtZ.num=0:=rfl;refine runW (ai (eq_false hE) (ai hl0 hn0)) ?_;exact fin rfl
end Go.Arc
