/- A part of this claim. -/
import Derived.Test.YtfbbflhnhmphiaaGreatDoorRows
import Derived.Test.YtfbbflhnhmphiaaGreatDoorBaC
import Derived.WalkKit
import Derived.ProofKit
import Derived.OpenShut
namespace Go.Arc
open Go.Ab Go.RowKit Go.Proofs
def jis(Q:TypeId->List V->Prop):List TypeId->List V->Prop
 |[],vs=>vs=[]
 |t::r,vs=>∃a b,vs=a++b/\Q t a/\jis Q r b
def fa(P:Program):Nat->TypeId->List V->Prop
 |0,_,_=>False
 |n+1,t,vs=>match P.underlying t with
  |some .bool=>∃b,vs=[.val (.bool b)]
  |some (.int k)=>∃i,vs=[.val (.int k i)]/\(Lit.int k i).wf=true
  |some .string=>∃s:List UInt8,vs=[.str s]/\s.length<=1048576
  |some (.slice e)=>∃es:List (List V),vs=[.slice (P.cellsOf e) es]/\es.length<=1048576/\∀x∈es,fa P n e x
  |some (.struct fs)=>jis (fa P n) (fs.toList.map (·.type)) vs
  |_=>False
def jfi(P:Program):Nat->List Field->Option Nat
 |o,[]=>some o
 |o,f::r=>if f.offset=o then jfi P (o+P.cellsOf f.type) r else none
def okT(P:Program):Nat->TypeId->Bool
 |0,_=>false
 |n+1,t=>match P.underlying t with
  |some .bool=>true
  |some (.int _)=>true
  |some .string=>true
  |some (.slice e)=>okT P n e
  |some (.struct fs)=>decide (jfi P 0 fs.toList=some (P.cellsOf t)) && fs.toList.all fun f=>okT P n f.type
  |_=>false
structure RepL (F:Frz) (vs:List V) (cs:List Value):Prop where
 len:vs.length=cs.length
 one:∀c∈vs,c.one=true
 rep:∀(j:Nat) v c,vs[j]?=some v->cs[j]?=some c->Rep F v c
theorem RepL.one1{F:Frz}{v:V}{c:Value}(h:Rep F v c)(ho:v.one=true):RepL F [v] [c]:=by
 refine⟨rfl,by simpa using ho,fun j u d e1 e2=>?_⟩
 match j with
 |0=>simp at e1 e2;subst e1 e2;exact h
 |j+1=>simp at e1
theorem RepL.app{F:Frz}{vs us:List V}{cs ds:List Value}(h:RepL F vs cs)(k:RepL F us ds):RepL F (vs++us) (cs++ds):=by
 refine⟨by simp[h.len,k.len],fun c hc=>?_,fun j v c e1 e2=>?_⟩
 .rcases xbu.1 hc with hc|hc
  .exact h.one c hc
  exact k.one c hc
 by_cases hj:j<vs.length
 .rw[xp hj] at e1;rw[xp (by rw[<- h.len];exact hj)] at e2;exact h.rep j v c e1 e2
 rw[yb omq] at e1;rw[yb (by rw[<- h.len];omega),<- h.len] at e2;exact k.rep _ v c e1 e2
theorem ju2{α:Type}{Q:Nat->α->Prop}: ∀(n:Nat),(∀i,i<n->∃x,Q i x)->∃l:List α,l.length=n/\∀i x,l[i]?=some x->Q i x
 |0,_=>⟨[],rfl,smq⟩
 |n+1,h=>by
  obtain⟨l,hl,hq⟩:=ju2 n fun i hi=>h i omq;obtain⟨x,hx⟩:=h n omq;refine⟨l++[x],by simp[hl],fun i y hy=>?_⟩;by_cases hi:i<l.length
  .rw[xp hi] at hy;exact hq i y hy
  rw[yb omq] at hy
  have:i-l.length=0:=by
   rcases xd8 (i-l.length) with h0|h0
   .exact h0
   obtain⟨k,hk⟩:∃k,i-l.length=k+1:=⟨i-l.length-1,omq⟩;rw[hk] at hy;simp at hy
  rw[this] at hy;simp at hy;subst hy;have:i=n:=omq;rw[this];exact hx
open Go.Proofs.YtfbbflhnhmphiaaGreatDoor.Rows (uptoBulk uptoBulkAll)
theorem qu6{H:Type}(d:DataW H):1<=uptoBulk d:=by
 cases d with
 |lit l=>cases l<;>simp[uptoBulk]
 |nil=>simp[uptoBulk]
 |ptr d=>simp[uptoBulk]
 |slice elems spare=>simp[uptoBulk]
 |agg parts=>simp[uptoBulk]
 |iface t d=>simp[uptoBulk]
 |map entries=>simp[uptoBulk]
 |held h=>simp[uptoBulk]
theorem jy0{H:Type}{d:DataW H}{l:List (DataW H)}(h:d∈l):uptoBulk d<=uptoBulkAll l:=by
 induction l with
 |nil=>cases h
 |cons x r ih=>
  simp only[uptoBulkAll];cases vt.1 h with
  |inl e=>subst e;omega
  |inr e=>have:=ih e;omega
theorem qu7{H:Type}(l:List (DataW H)):l.length<=uptoBulkAll l:=by
 induction l with
 |nil=>simp
 |cons x r ih=>have:=qu6 x;simp only[uptoBulkAll,List.length_cons];omega
variable {H : Type}{enc : TypeId × Value -> H}{P : Program}{w : World}{base : Nat}{spare : Nat -> Bool}{held : Bool}
theorem jt5{n0 m:Nat}(ih:∀(t:TypeId) (cs:List Value) (x:DataW H×List MemPlace),DataW.trod enc P w base spare held n0 t cs=some x->okT P m t=true->uptoBulk x.1<=1048576->∃vs,fa P m t vs/\RepL (fw w) vs cs):
  ∀(fs:List Field) (xs:List (DataW H×List MemPlace)) (cs:List Value) (o:Nat),jfi P o fs=some cs.length->xs.length=fs.length->
   (∀(i:Nat) (f:Field),fs[i]?=some f->DataW.trod enc P w base spare held n0 f.type ((cs.drop f.offset).take (P.cellsOf f.type))=xs[i]?)->
   (∀f∈fs,okT P m f.type=true)->(∀x∈xs,uptoBulk x.1<=1048576)->∃vs,jis (fa P m) (fs.map (·.type)) vs/\RepL (fw w) vs (cs.drop o)
 |[],xs,cs,o,hc,_,_,_,_=>by
  simp only[jfi,vk] at hc;exact⟨[],rfl,by rw[xbc omq];exact⟨rfl,smq,smq⟩⟩
 |f::r,xs,cs,o,hc,hl,hx,hok,hb=>by
  simp only[jfi] at hc;split at hc
  .rename_i hof
   match xs,hl with
   |x::xr,hl=>
    have h0:=hx 0 f rfl;simp only[List.getElem?_cons_zero] at h0;obtain⟨a,ha1,ha2⟩:=ih _ _ x h0 (hok f smq) (hb x smq);obtain⟨b,hb1,hb2⟩:=jt5 ih r xr cs (o+P.cellsOf f.type) hc ze3 (fun i g hg=>by have:=hx (i+1) g (by simpa using hg);simpa using this) (fun g hg=>hok g (by simp[hg])) (fun y hy=>hb y zfd);refine⟨a++b,⟨a,b,rfl,ha1,hb1⟩,?_⟩;rw[hof] at ha2
    have e:cs.drop o=(cs.drop o).take (P.cellsOf f.type)++cs.drop (o+P.cellsOf f.type):=by
     conv=>lhs;rw[<- xc2 (P.cellsOf f.type) (cs.drop o)]
     rw[xc0]
    rw[e];exact ha2.app hb2
  cases hc
theorem jgo:∀(m n:Nat) (t:TypeId) (cs:List Value) (x:DataW H×List MemPlace),DataW.trod enc P w base spare held n t cs=some x->okT P m t=true->uptoBulk x.1<=1048576->
  ∃vs,fa P m t vs/\RepL (fw w) vs cs
 |0,_,_,_,_,_,h,_=>by cases h
 |m+1,n,t,cs,x,h,hok,hb=>by
  simp only[okT] at hok;simp only[fa];cases ht:P.underlying t with
  |none=>rw[ht] at hok;cases hok
  |some u=>
   rw[ht] at hok;cases u<;>try (cases hok;done)
   case bool=>
    obtain⟨b,rfl,rfl⟩:=DataW.trod_bool ht h;exact⟨_,⟨b,rfl⟩,.one1 (.val _) rfl⟩
   case int k=>
    obtain⟨i,rfl,rfl,hw⟩:=DataW.trod_int ht h;exact⟨_,⟨i,rfl,hw⟩,.one1 (.val _) rfl⟩
   case string=>
    obtain⟨s,rfl,rfl,-⟩:=DataW.trod_string ht h;simp only[uptoBulk] at hb;exact⟨_,⟨s.data.toList,rfl,omq⟩,.one1 (.str s.data.toList) rfl⟩
   case slice e=>
    simp only at hok ⊢;rcases DataW.trod_slice ht h with⟨rfl,rfl⟩|⟨a,len,cap,elems,rest,n',rfl,rfl,rfl,hba,hlc,hcm,hel,hea,-,-⟩
    .exact⟨_,⟨[],rfl,smq,smq⟩,.one1 .snil rfl⟩
    simp only[uptoBulk] at hb;have hel2:elems.length<=1048576:=by have:=qu7 (elems.map (·.1));simp at this;omega
    have key:∀i,i<len->∃vs:List V,fa P m e vs/\∃ds,w.cells? base (a.add (i*P.cellsOf e)) (P.cellsOf e)=some ds/\RepL (fw w) vs ds:=by
     intro i hi;have h1:=hea i hi;have hlt:i<elems.length:=omq;rw[gge hlt] at h1;obtain⟨ds,h2,h3⟩:=xaz.1 h1
     obtain⟨vs,h4,h5⟩:=jgo m n' e ds _ h3 hok (by
      have:=jy0 (d:=elems[i].1) (l:=elems.map (·.1)) (ya.2 ⟨_,xbo hlt,rfl⟩)
      omega)
     exact⟨vs,h4,ds,h2,h5⟩
    obtain⟨es,hes,hq⟩:=ju2 len key
    have hcell:∀(i j:Nat) vs c,es[i]?=some vs->vs[j]?=some c->∃y,w.cell? (a.add (i*P.cellsOf e+j))=some y/\Rep (fw w) c y:=by
     intro i j vs c h1 h2;obtain⟨-,ds,h3,h4⟩:=hq i vs h1;obtain⟨-,h5,h6⟩:=World.cells?_some h3;have hj:=(gsi.1 h2).1;have hjd:j<ds.length:=by rw[<- h4.len];exact hj
     have h7:=h6 j omq;rw[Go.Ab.add_add,gge hjd] at h7;exact⟨_,h7,h4.rep j c _ h2 (gge hjd)⟩
    refine⟨_,⟨es,rfl,omq,fun x hx=>?_⟩,.one1 ?_ rfl⟩
    .obtain⟨i,hi⟩:=xci.1 hx;exact(hq i x hi).1
    have hsz:∀x∈es,x.length=P.cellsOf e:=by
     intro x hx;obtain⟨i,hi⟩:=xci.1 hx;obtain⟨-,ds,h3,h4⟩:=hq i x hi;obtain⟨-,h5,-⟩:=World.cells?_some h3;rw[h4.len,h5]
    have hon:∀x∈es,∀c∈x,c.one=true:=by
     intro x hx;obtain⟨i,hi⟩:=xci.1 hx;obtain⟨-,ds,h3,h4⟩:=hq i x hi;exact h4.one
    have:=Rep.slice (F:=fw w) (size:=P.cellsOf e) (es:=es) (a:=a) (cap:=cap) (fun i j=>(w.cell? (a.add (i*P.cellsOf e+j))).getD undef) omq hcm hsz hon
     (fun i j vs c h1 h2=>by obtain⟨y,h3,-⟩:=hcell i j vs c h1 h2;show w.cell? _=_;rw[h3];rfl) (fun i j vs c h1 h2=>by obtain⟨y,h3,h4⟩:=hcell i j vs c h1 h2;rw[h3];exact h4)
    rwa [hes] at this
   case struct fs=>
    simp only[vn,vq] at hok;obtain⟨hc,hall⟩:=hok;obtain⟨xs,n',rfl,rfl,hl,hxl,hx⟩:=DataW.trod_struct ht h;simp only[uptoBulk] at hb;rw[<- hl] at hc
    have:=jt5 (enc:=enc) (P:=P) (w:=w) (base:=base) (spare:=spare) (held:=held) (n0:=n') (m:=m) (fun t cs x h1 h2 h3=>jgo m n' t cs x h1 h2 h3) fs.toList xs cs 0 hc (by simpa using hxl)
     (fun i f hf=>hx i f (by simpa using hf)) (fun f hf=>xi.1 hall f hf)
     (fun x hx=>by
      have:=jy0 (d:=x.1) (l:=xs.map (·.1)) (ya.2 ⟨x,hx,rfl⟩)
      omega)
    exact zb4
   all_goals simp at hok
end Go.Arc
