/- A part of this claim. -/
import Derived.Test.YtfbbflhnhmphiaaGreatDoorBaJ
set_option maxRecDepth 100000
namespace Go.Arc
open Go.Ab Go.RowKit Go.Proofs Tryz
variable {T : Lay}
variable {r:Rgs}{n:Nat}{e:Evt}{X0:Rgs}{E:Int}
theorem tf(L:LibT T)(h:Low r n)(hn:n<=30)(he:SmE e)(hform:br e=true)(hl:¬(e.day<r.chg\/bt e=true))(f:FuncId)(hf:fnK e.kind=f)(hE:(actK r e).2=E)(hX:E=0->X0=(actK r e).1) 
  (hD:DenS prog T f (rgB r e.num e.txt e.day) [] rgA (rgB X0 [] [] e.day) [] (.v (vi E))):Den prog T 24 [.agg r.cs,.agg e.cs] (cz r e):=by
 have hr:=cg h omq;refine jky L r (actK r e).1 e (cg (jc6 (jc7 h he) _) omq) (by have:=he.txt;omega) E hform hl hE (fun _=>rfl) _ (qtq r hr) ?_;rintro ro v ⟨rfl,rfl⟩;refine⟨fun i=>r.cs.getD i (vi 0),rfl,fun i=>jn5 _ (jqv r) i,(fun b hb=>nomatch hb),.inl ⟨X0.cs,fun h=>by rw[hX h],?_⟩⟩;rw[hf];exact hD
theorem jb8(L:LibT T)(h:Low r n)(hn:n<=30)(he:SmE e)(hform:br e=true)(hl:¬(e.day<r.chg\/bt e=true))(f:FuncId)(hf:fnK e.kind=f)(hE:(actK r e).2=E)(hX:E=0->X0=(actK r e).1) 
  {ty:TypeId} {z m j:Nat} {es:List (List V)} {row:List V} (hC:DenU prog T 47 [.agg r.cs] (clP r j m ty z row)) (hD:DenS prog T f (rgB r e.num e.txt e.day) [(ty,[plc 999000 j])] rgA (rgB X0 [] [] e.day) [] (.v (vi E)))
  (hlen:es.length=m) (hch:be 0 m z row=es) (hrow:row.length=m*z) (hcell:r.cs[j]?=some (.slice z es):=by rfl) (hz:prog.cellsOf ty=z:=by kernel_rfl)
  (hg:∀v:V,∃g:Nat->V,ba r.cs j [v]=[g 0,g 1,g 2,g 3,g 4,g 5,g 6,g 7,g 8,g 9,g 10,vi r.chg]/\∀i,g i=(ba r.cs j [v]).getD i (vi 0):=by exact fun v=>⟨fun i=>(ba _ _ [v]).getD i (vi 0),rfl,fun _=>rfl⟩):Den prog T 24 [.agg r.cs,.agg e.cs] (cz r e):=by
 have hj:j<r.cs.length:=(gsi.1 hcell).1;refine jky L r (actK r e).1 e (cg (jc6 (jc7 h he) _) omq) (by have:=he.txt;omega) E hform hl hE (fun _=>rfl) _ hC ?_;rintro ro v ⟨s,hs,rfl,rfl⟩;obtain⟨g,hg1,hg2⟩:=hg (sOpt m s);refine⟨g,by rw[hg1],fun i=>?_,fun b hb=>?_,?_⟩
 .rw[hg2];exact jn5 _ (jwk (jqv r) hj (jyr m s)) i
 .cases s with
  |none=>cases hb
  |some x=>cases hb;exact⟨rfl,_,rfl⟩
 rw[<- hg1,hf];exact xaf hD (fun h=>by rw[hX h]) hcell hlen hch hrow hz s hs
theorem qxk(L:LibT T)(h:Low r n)(hn:n<=30)(he:SmE e)(hform:br e=true)(hl:¬(e.day<r.chg\/bt e=true))(hk:e.kind=1):Den prog T 24 [.agg r.cs,.agg e.cs] (cz r e):=by
 have hr:=cg h omq;obtain⟨f1,f2,f3⟩:=ir hform hk (x:=⟨3,1,false,1⟩) rfl dcq;have hnum:=num3 (f1 rfl);have htxt:=txt1 f3;have hact:actK r e=({ r with ofs:=r.ofs++[⟨nth e 0,tth e 0,nth e 1,nth e 2,[]⟩] },0):=by unfold actK;rw[hk];rfl
 have hD:=qf4 (T:=T) r hr (nth e 0) (nth e 1) (nth e 2) e.day (tth e 0);rw[<- hnum,<- htxt] at hD;exact jb8 L h hn he hform hl 81 zes (congrArg (·.2) hact) (fun _=>(congrArg (·.1) hact).symm) (qtl r hr) hD (vm _) (il (cs:=Ofc.cs) (z:=5) (fun _=>rfl) r.ofs) (ct (cs:=Ofc.cs) (z:=5) (fun _=>rfl) r.ofs)
theorem qxj(L:LibT T)(h:Low r n)(hn:n<=30)(he:SmE e)(hform:br e=true)(hl:¬(e.day<r.chg\/bt e=true))(hk:e.kind=2):Den prog T 24 [.agg r.cs,.agg e.cs] (cz r e):=by
 have hr:=cg h omq;obtain⟨f1,f2,f3⟩:=ir hform hk (x:=⟨2,0,true,1⟩) rfl dcq;have hnum:=numR f2;have htxt:=txt0 f3;have hact:actK r e=({ r with ofs:=endO r.ofs (nth e 0) (nth e 1) (e.num.drop 2) },kg r.ofs (nth e 0) (nth e 1) (e.num.drop 2)):=by unfold actK;rw[hk];rfl
 refine tf L h hn he hform hl 82 zes (congrArg (·.2) hact) (fun _=>(congrArg (·.1) hact).symm) ?_;rw[hnum,htxt];exact qf1 (libC L) r hr (nth e 0) (nth e 1) (e.num.drop 2) e.day (by rw[xw];have:=he.num;omega)
theorem qxh(L:LibT T)(h:Low r n)(hn:n<=30)(he:SmE e)(hform:br e=true)(hl:¬(e.day<r.chg\/bt e=true))(hk:e.kind=4):Den prog T 24 [.agg r.cs,.agg e.cs] (cz r e):=by
 have hr:=cg h omq;obtain⟨f1,f2,f3⟩:=ir hform hk (x:=⟨3,2,false,-1⟩) rfl dcq;have hnum:=num3 (f1 rfl);have htxt:=txt2 f3;have hact:actK r e=({ r with fls:=r.fls++[⟨nth e 0,nth e 1,e.day,1048576,tth e 0,tth e 1,nth e 2,[]⟩] },0):=by unfold actK;rw[hk];rfl
 have hD:=qg1 (T:=T) r hr (nth e 0) (nth e 1) (nth e 2) e.day (tth e 0) (tth e 1);rw[<- hnum,<- htxt] at hD;exact jb8 L h hn he hform hl 84 zes (congrArg (·.2) hact) (fun _=>(congrArg (·.1) hact).symm) (qtn r hr) hD (vm _) (il (cs:=Fil.cs) (z:=8) (fun _=>rfl) r.fls) (ct (cs:=Fil.cs) (z:=8) (fun _=>rfl) r.fls)
theorem qxg(L:LibT T)(h:Low r n)(hn:n<=30)(he:SmE e)(hform:br e=true)(hl:¬(e.day<r.chg\/bt e=true))(hk:e.kind=5):Den prog T 24 [.agg r.cs,.agg e.cs] (cz r e):=by
 have hr:=cg h omq;obtain⟨f1,f2,f3⟩:=ir hform hk (x:=⟨3,1,false,-1⟩) rfl dcq;have hnum:=num3 (f1 rfl);have htxt:=txt1 f3;have hact:actK r e=({ r with fls:=gq r.fls (nth e 0) ⟨tth e 0,nth e 1,nth e 2,e.day⟩ },nh r.fls (nth e 0) ⟨tth e 0,nth e 1,nth e 2,e.day⟩):=by unfold actK;rw[hk];rfl
 refine tf L h hn he hform hl 85 zes (congrArg (·.2) hact) (fun _=>(congrArg (·.1) hact).symm) ?_;rw[hnum,htxt];exact qh1 (libC L) r hr (nth e 0) (nth e 1) (nth e 2) e.day (tth e 0) (by have:=jib he 0;omega)
theorem qxf(L:LibT T)(h:Low r n)(hn:n<=30)(he:SmE e)(hform:br e=true)(hl:¬(e.day<r.chg\/bt e=true))(hk:e.kind=6):Den prog T 24 [.agg r.cs,.agg e.cs] (cz r e):=by
 have hr:=cg h omq;obtain⟨f1,f2,f3⟩:=ir hform hk (x:=⟨1,0,false,-1⟩) rfl dcq;have hnum:=num1 (f1 rfl);have htxt:=txt0 f3;have hact:actK r e=({ r with fls:=clsL r.fls (nth e 0) e.day },clsE r.fls (nth e 0) e.day):=by unfold actK;rw[hk];rfl
 refine tf L h hn he hform hl 86 zes (congrArg (·.2) hact) (fun _=>(congrArg (·.1) hact).symm) ?_;rw[hnum,htxt];exact qf2 r hr (nth e 0) e.day
theorem qxe(L:LibT T)(h:Low r n)(hn:n<=30)(he:SmE e)(hform:br e=true)(hl:¬(e.day<r.chg\/bt e=true))(hk:e.kind=7):Den prog T 24 [.agg r.cs,.agg e.cs] (cz r e):=by
 have hr:=cg h omq;obtain⟨f1,f2,f3⟩:=ir hform hk (x:=⟨6,2,false,4⟩) rfl dcq;have hnum:=num6 (f1 rfl);have htxt:=txt2 f3;have hact:actK r e=({ r with rls:=r.rls++[⟨nth e 0,tth e 0,tth e 1,nth e 1,decide (nth e 2=1),nth e 3,nth e 4,nth e 5⟩] },0):=by unfold actK;rw[hk];rfl
 have hD:=qh0 (T:=T) r hr (nth e 0) (nth e 1) (nth e 2) (nth e 3) (nth e 4) (nth e 5) e.day (tth e 0) (tth e 1);rw[<- hnum,<- htxt] at hD;exact jb8 L h hn he hform hl 87 zes (congrArg (·.2) hact) (fun _=>(congrArg (·.1) hact).symm) (qti r hr) hD (vm _) (il (cs:=Rul.cs) (z:=8) (fun _=>rfl) r.rls) (ct (cs:=Rul.cs) (z:=8) (fun _=>rfl) r.rls)
theorem qxd(L:LibT T)(h:Low r n)(hn:n<=30)(he:SmE e)(hform:br e=true)(hl:¬(e.day<r.chg\/bt e=true))(hk:e.kind=8):Den prog T 24 [.agg r.cs,.agg e.cs] (cz r e):=by
 have hr:=cg h omq;obtain⟨f1,f2,f3⟩:=ir hform hk (x:=⟨2,0,false,1⟩) rfl dcq;have hnum:=num2 (f1 rfl);have htxt:=txt0 f3;have hact:actK r e=({ r with rls:=nr r.rls (nth e 0) (nth e 1) },iw r.rls (nth e 0) (nth e 1)):=by unfold actK;rw[hk];rfl
 refine tf L h hn he hform hl 88 zes (congrArg (·.2) hact) (fun _=>(congrArg (·.1) hact).symm) ?_;rw[hnum,htxt];exact qgx (libC L) r hr (nth e 0) (nth e 1) e.day
theorem qxc(L:LibT T)(h:Low r n)(hn:n<=30)(he:SmE e)(hform:br e=true)(hl:¬(e.day<r.chg\/bt e=true))(hk:e.kind=9):Den prog T 24 [.agg r.cs,.agg e.cs] (cz r e):=by
 have hr:=cg h omq;obtain⟨f1,f2,f3⟩:=ir hform hk (x:=⟨5,2,false,3⟩) rfl dcq;have hnum:=num5 (f1 rfl);have htxt:=txt2 f3;have hact:actK r e=({ r with hls:=r.hls++[⟨nth e 0,nth e 1,nth e 2,tth e 0,tth e 1,nth e 3,nth e 4⟩] },0):=by unfold actK;rw[hk];rfl
 have hD:=qh2 (T:=T) r hr (nth e 0) (nth e 1) (nth e 2) (nth e 3) (nth e 4) e.day (tth e 0) (tth e 1);rw[<- hnum,<- htxt] at hD;exact jb8 L h hn he hform hl 89 zes (congrArg (·.2) hact) (fun _=>(congrArg (·.1) hact).symm) (qto r hr) hD (vm _) (il (cs:=Hld.cs) (z:=7) (fun _=>rfl) r.hls) (ct (cs:=Hld.cs) (z:=7) (fun _=>rfl) r.hls)
theorem qt8(L:LibT T)(h:Low r n)(hn:n<=30)(he:SmE e)(hform:br e=true)(hl:¬(e.day<r.chg\/bt e=true))(hk:e.kind=10):Den prog T 24 [.agg r.cs,.agg e.cs] (cz r e):=by
 have hr:=cg h omq;obtain⟨f1,f2,f3⟩:=ir hform hk (x:=⟨2,0,false,1⟩) rfl dcq;have hnum:=num2 (f1 rfl);have htxt:=txt0 f3;have hact:actK r e=({ r with hls:=relL r.hls (nth e 0) (nth e 1) },relE r.hls (nth e 0) (nth e 1)):=by unfold actK;rw[hk];rfl
 refine tf L h hn he hform hl 90 zes (congrArg (·.2) hact) (fun _=>(congrArg (·.1) hact).symm) ?_;rw[hnum,htxt];exact qer (libC L) r hr (nth e 0) (nth e 1) e.day
theorem qt7(L:LibT T)(h:Low r n)(hn:n<=30)(he:SmE e)(hform:br e=true)(hl:¬(e.day<r.chg\/bt e=true))(hk:e.kind=11):Den prog T 24 [.agg r.cs,.agg e.cs] (cz r e):=by
 have hr:=cg h omq;obtain⟨f1,f2,f3⟩:=ir hform hk (x:=⟨4,1,false,2⟩) rfl dcq;have hnum:=num4 (f1 rfl);have htxt:=txt1 f3;have hact:actK r e=({ r with cks:=r.cks++[⟨nth e 0,nth e 1,tth e 0,nth e 2,nth e 3⟩] },0):=by unfold actK;rw[hk];rfl
 have hD:=qg3 (T:=T) r hr (nth e 0) (nth e 1) (nth e 2) (nth e 3) e.day (tth e 0);rw[<- hnum,<- htxt] at hD;exact jb8 L h hn he hform hl 91 zes (congrArg (·.2) hact) (fun _=>(congrArg (·.1) hact).symm) (qtp r hr) hD (vm _) (il (cs:=Clk.cs) (z:=5) (fun _=>rfl) r.cks) (ct (cs:=Clk.cs) (z:=5) (fun _=>rfl) r.cks)
theorem qt6(L:LibT T)(h:Low r n)(hn:n<=30)(he:SmE e)(hform:br e=true)(hl:¬(e.day<r.chg\/bt e=true))(hk:e.kind=12):Den prog T 24 [.agg r.cs,.agg e.cs] (cz r e):=by
 have hr:=cg h omq;obtain⟨f1,f2,f3⟩:=ir hform hk (x:=⟨4,2,false,-1⟩) rfl dcq;have hnum:=num4 (f1 rfl);have htxt:=txt2 f3
 have hfew:nth e 1=2->slcE r ⟨nth e 0,nth e 1,nth e 2,nth e 3,tth e 0,tth e 1⟩ e.day=0->(cl r (tth e 0) e.day).length<20:=fun _ _=>by
  obtain⟨-,-,-,hd,-⟩:=jbq hform;unfold dayG at hd;simp only[vn,vq] at hd;have h1:=qlk (r:=r) (cls:=tth e 0) hd.2 fun f hf=>(qa4 hf).2.1;have h2:(cl r (tth e 0) e.day).length<=r.fls.length:=xcc ..;have h3:=h.fls.1;omega
 have hX0:slcE r ⟨nth e 0,nth e 1,nth e 2,nth e 3,tth e 0,tth e 1⟩ e.day=0->chsG r ⟨nth e 0,nth e 1,nth e 2,nth e 3,tth e 0,tth e 1⟩ e.day= { r with sls:=r.sls++[⟨nth e 0,e.day,slcR r ⟨nth e 0,nth e 1,nth e 2,nth e 3,tth e 0,tth e 1⟩ e.day⟩] } := fun h0=>by unfold chsG;rw[ve h0]
 have hact:actK r e=({ r with sls:=r.sls++[⟨nth e 0,e.day,slcR r ⟨nth e 0,nth e 1,nth e 2,nth e 3,tth e 0,tth e 1⟩ e.day⟩] },slcE r ⟨nth e 0,nth e 1,nth e 2,nth e 3,tth e 0,tth e 1⟩ e.day):=by unfold actK;rw[hk];rfl
 have hD:=qif L r hr (nth e 0) (nth e 1) (nth e 2) (nth e 3) e.day (tth e 0) (tth e 1) (by have:=jib he 0;omega) (by have:=jib he 1;omega) hfew;rw[<- hnum,<- htxt] at hD;exact jb8 L h hn he hform hl 92 zes (congrArg (·.2) hact) (fun h0=>(hX0 h0).trans (congrArg (·.1) hact).symm) (qtj r hr) hD (vm _) (il (cs:=Sel.cs) (z:=3) (fun _=>rfl) r.sls) (ct (cs:=Sel.cs) (z:=3) (fun _=>rfl) r.sls)
theorem qt5(L:LibT T)(h:Low r n)(hn:n<=30)(he:SmE e)(hform:br e=true)(hl:¬(e.day<r.chg\/bt e=true))(hk:e.kind=13):Den prog T 24 [.agg r.cs,.agg e.cs] (cz r e):=by
 have hr:=cg h omq;obtain⟨f1,f2,f3⟩:=ir hform hk (x:=⟨2,0,true,-1⟩) rfl dcq;have hnum:=numR f2;have htxt:=txt0 f3;have hact:actK r e=((nc r ⟨nth e 0,e.day,nth e 1,e.num.drop 2,1048576⟩).1,(nc r ⟨nth e 0,e.day,nth e 1,e.num.drop 2,1048576⟩).2):=by unfold actK;rw[hk];rfl
 refine tf L h hn he hform hl 93 zes (congrArg (·.2) hact) (fun _=>(congrArg (·.1) hact).symm) ?_;rw[hnum,htxt];exact qgw L r hr (nth e 0) (nth e 1) (e.num.drop 2) e.day (by rw[xw];have:=he.num;omega) (by have:=h.pps.1;omega)
theorem qt4(L:LibT T)(h:Low r n)(hn:n<=30)(he:SmE e)(hform:br e=true)(hl:¬(e.day<r.chg\/bt e=true))(hk:e.kind=14):Den prog T 24 [.agg r.cs,.agg e.cs] (cz r e):=by
 have hr:=cg h omq;obtain⟨f1,f2,f3⟩:=ir hform hk (x:=⟨2,0,false,-1⟩) rfl dcq;have hnum:=num2 (f1 rfl);have htxt:=txt0 f3;have hact:actK r e=((nv r ⟨nth e 0,e.day,nth e 1⟩).1,(nv r ⟨nth e 0,e.day,nth e 1⟩).2):=by unfold actK;rw[hk];rfl
 refine tf L h hn he hform hl 94 zes (congrArg (·.2) hact) (fun _=>(congrArg (·.1) hact).symm) ?_;rw[hnum,htxt];exact qgz L r hr (nth e 0) (nth e 1) e.day (by have:=h.aps;omega)
theorem qt3(L:LibT T)(h:Low r n)(hn:n<=30)(he:SmE e)(hform:br e=true)(hl:¬(e.day<r.chg\/bt e=true))(hk:e.kind=15):Den prog T 24 [.agg r.cs,.agg e.cs] (cz r e):=by
 have hr:=cg h omq;obtain⟨f1,f2,f3⟩:=ir hform hk (x:=⟨1,0,false,-1⟩) rfl dcq;have hnum:=num1 (f1 rfl);have htxt:=txt0 f3;have hact:actK r e=((wdrR r (nth e 0) e.day).1,(wdrR r (nth e 0) e.day).2):=by unfold actK;rw[hk];rfl
 refine tf L h hn he hform hl 95 zes (congrArg (·.2) hact) (fun _=>(congrArg (·.1) hact).symm) ?_;rw[hnum,htxt];exact qfz L r hr (nth e 0) e.day
theorem qt2(L:LibT T)(h:Low r n)(hn:n<=30)(he:SmE e)(hform:br e=true)(hl:¬(e.day<r.chg\/bt e=true))(hk:e.kind=16):Den prog T 24 [.agg r.cs,.agg e.cs] (cz r e):=by
 have hr:=cg h omq;obtain⟨f1,f2,f3⟩:=ir hform hk (x:=⟨1,0,false,-1⟩) rfl dcq;have hnum:=num1 (f1 rfl);have htxt:=txt0 f3;have hact:actK r e=((desP r (nth e 0) e.day).1,(desP r (nth e 0) e.day).2.2):=by unfold actK;rw[hk];rfl
 refine tf L h hn he hform hl 96 zes (congrArg (·.2) hact) (fun _=>(congrArg (·.1) hact).symm) ?_;rw[hnum,htxt];exact qgy L r hr (nth e 0) e.day (by have:=h.crs.1;omega)
theorem qt1(L:LibT T)(h:Low r n)(hn:n<=30)(he:SmE e)(hform:br e=true)(hl:¬(e.day<r.chg\/bt e=true))(hk:e.kind=17):Den prog T 24 [.agg r.cs,.agg e.cs] (cz r e):=by
 have hr:=cg h omq;obtain⟨f1,f2,f3⟩:=ir hform hk (x:=⟨1,0,false,-1⟩) rfl dcq;have hnum:=num1 (f1 rfl);have htxt:=txt0 f3;have hX0:trnE r (nth e 0) e.day=0->trnG r (nth e 0) e.day= { r with dps:=r.dps++[⟨nth e 0,e.day⟩] } := fun h0=>by unfold trnG;rw[ve h0]
 have hact:actK r e=({ r with dps:=r.dps++[⟨nth e 0,e.day⟩] },trnE r (nth e 0) e.day):=by unfold actK;rw[hk];rfl
 have hD:=qg0 (libC L) r hr (nth e 0) e.day;rw[<- hnum] at hD;exact jb8 L h hn he hform hl 97 zes (congrArg (·.2) hact) (fun h0=>(hX0 h0).trans (congrArg (·.1) hact).symm) (qtm r hr) (by rw[htxt];exact hD) (vm _) (il (cs:=Dep.cs) (z:=2) (fun _=>rfl) r.dps) (ct (cs:=Dep.cs) (z:=2) (fun _=>rfl) r.dps)
theorem qxi(L:LibT T)(h:Low r n)(hn:n<=30)(he:SmE e)(hform:br e=true)(hl:¬(e.day<r.chg\/bt e=true))(hk:e.kind=3):Den prog T 24 [.agg r.cs,.agg e.cs] (cz r e):=by
 have hr:=cg h omq;obtain⟨x,h1,h2,-,h4,-,h6⟩:=jbq hform;obtain⟨p1,p2,p3⟩:=h6 hk;have hx:x=⟨4,0,false,0⟩:=by rw[hk] at h1;cases h1;rfl
 subst hx
 have h4:e.num.length<=4:=by
  rcases h4 with h4|h4
  .cases h4
  exact h4
 have h2:4<=e.num.length:=h2;have hnum:=num4 (e:=e) omq;obtain⟨N,hN⟩:∃N:Nat,nth e 2=N:=⟨(nth e 2).toNat,omq⟩;obtain⟨M,hM⟩:∃M:Nat,nth e 3=M:=⟨(nth e 3).toNat,omq⟩;rw[hN,hM] at hnum p3;have hpl:jjc r.pls e=plnP r (nth e 0) (nth e 1) N M e.txt:=by unfold jjc plnP;rw[hN,hM];rfl
 have hact:actK r e=if gapP r.pls (nth e 0)=true then(r,16) else({ r with pls:=tilP r.pls (nth e 0)++[plnP r (nth e 0) (nth e 1) N M e.txt] },0):=by rw[<- hpl];unfold actK;rw[hk];rfl
 have hE:(actK r e).2=if gapP r.pls (nth e 0)=true then 16 else 0:=by rw[hact];split<;>rfl
 have hX:(actK r e).1=if gapP r.pls (nth e 0)=true then r else { r with pls:=tilP r.pls (nth e 0)++[plnP r (nth e 0) (nth e 1) N M e.txt] } := by rw[hact];split<;>rfl
 have h60:e.txt.length<=60:=by have:=he.txt;omega
 refine jky L r _ e (by have:=cg (jc6 (jc7 h he) e.day) omq;rw[hX] at this;exact this) h60 _ hform hl hE (fun _=>hX) _ (qtk r hr) ?_;rintro ro v ⟨s,hs,rfl,rfl⟩;refine⟨fun i=>(ba r.cs 1 [sOpt r.pls.length s]).getD i (vi 0),rfl,fun i=>jn5 _ (jwk (jqv r) (by show 1<12;decide) (jyr _ s)) i,fun b hb=>?_,.inr ?_⟩
 .cases s with
  |none=>cases hb
  |some x=>cases hb;exact⟨rfl,_,rfl⟩
 rw[show fnK e.kind=83 by rw[hk];rfl,hnum];cases s with
 |none=>exact qfo r hr (nth e 0) (nth e 1) N M e.txt e.day omq h60 (yg hs)
 |some x=>exact qfn r hr (nth e 0) (nth e 1) N M e.txt e.day omq h60 x.1 x.2 hs.1 hs.2
theorem jdo(L:LibT T)(h:Low r n)(hn:n<=30)(he:SmE e):Den prog T 24 [.agg r.cs,.agg e.cs] (cz r e):=by
 have ht:e.txt.length<=60:=by have:=he.txt;omega
 by_cases hb:br e=false\/e.day<r.chg\/bt e=true
 .exact qkr r e ht hb
 have hform:br e=true:=by
  cases hf:br e
  .exact absurd (.inl hf) hb
  rfl
 have hl:¬(e.day<r.chg\/bt e=true):=fun g=>hb (.inr g);obtain⟨x,hx,-⟩:=jbq hform;have hr:=jz1 hx;have hk:e.kind=1\/e.kind=2\/e.kind=3\/e.kind=4\/e.kind=5\/e.kind=6\/e.kind=7\/e.kind=8\/e.kind=9\/e.kind=10\/e.kind=11\/e.kind=12\/e.kind=13\/e.kind=14\/e.kind=15\/e.kind=16\/e.kind=17:=omq;rcases hk with hk|hk|hk|hk|hk|hk|hk|hk|hk|hk|hk|hk|hk|hk|hk|hk|hk
 .exact qxk L h hn he hform hl hk
 .exact qxj L h hn he hform hl hk
 .exact qxi L h hn he hform hl hk
 .exact qxh L h hn he hform hl hk
 .exact qxg L h hn he hform hl hk
 .exact qxf L h hn he hform hl hk
 .exact qxe L h hn he hform hl hk
 .exact qxd L h hn he hform hl hk
 .exact qxc L h hn he hform hl hk
 .exact qt8 L h hn he hform hl hk
 .exact qt7 L h hn he hform hl hk
 .exact qt6 L h hn he hform hl hk
 .exact qt5 L h hn he hform hl hk
 .exact qt4 L h hn he hform hl hk
 .exact qt3 L h hn he hform hl hk
 .exact qt2 L h hn he hform hl hk
 exact qt1 L h hn he hform hl hk
end Go.Arc
