import Derived.Test.YtnheknbibdgglaaGreatDoorMA21
import Derived.Deep.Matrix
import Derived.ChangeArms
import Derived.WideShapes
set_option linter.all false
namespace Go.Proofs.YtnheknbibdgglaaGreatDoor.Abs
open Go.RowKit Go.ChangeShapes Go.WideShapes
def AK (w:World):GG:=λb o=>w.cell? ⟨b,o,none⟩
theorem OE {w:World}:GB w (AK w):=λ_ _ _ h=>h
theorem Ri {w:World} {a:Addr} {v:Value} (h:w.cell? a=some v):a=⟨a.block,a.off,none⟩:=by
 obtain ⟨b,o,s⟩:=a;cases s with
 | none=>rfl
 | some s=>
   unfold World.cell? at h
   split at h
   ·simp at h
   ·cases h
theorem Jb {w:World} {a:Addr} {es:List Value} (h:∀i u,es[i]? = some u->w.cell? (a.add i)=some u):IN (AK w) (some a) es:=by
 intro h0;have h1:=h 0 es[0] (tS h0);have e:a=⟨a.block,a.off,none⟩:=Ri (v:=es[0]) (by simpa [Addr.add] using h1);refine ⟨a.block,a.off,by rw [←e],λi u hu=>?_⟩;have h2:=h i u hu;rw [e,lT] at h2;exact h2
section
variable {w:World} {c:Conc} (hc:c.G=AK w)
include hc
theorem Jc {k:IntKind} {a:Addr} {len cap:Nat} {zs:List Int} (hl:len<=cap) (hm:cap<=maxLen) (hz:len<=zs.length) (hcell:∀i,i<len->w.cell? (a.add i)=some (.int k (zs.getD i 0))) :
  CR c [.list .none ((zs.take len).map λz=>[.lit (.int k z)])] [.slice (some a) len cap]:=by
 have hlen:(zs.take len).length=len:=by rw [EC];omega
 have hL:IN c.G (some a) ((zs.take len).map (Value.int k)):=by
  rw [hc];refine Jb λi u hu=>?_;have hi:i<len:=by have:=(sG.1 hu).1;rw [wM,hlen] at this;exact this
  rw [hcell i hi];rw [AJ,xeo hi,tS za] at hu;rw [Oq,tS za];exact hu
 have:=IU (c:=c) (k:=k) (a:=some a) (cap:=cap) (zs:=zs.take len) za hm (λh=>by
  obtain ⟨b,off,e,_⟩:=hL (by rw [wM];exact h);exact ⟨b,off,e⟩) hL
 rw [hlen] at this;exact this
theorem OD {k:IntKind} {a:Addr} {len cap:Nat} {A:Nat->Option Addr} {L C:Nat->Nat} {Z:Nat->List Int} (hl:len<=cap) (hm:cap<=maxLen)
  (h:∀r,r<len->w.cell? (a.add r)=some (.slice (A r) (L r) (C r))/\CR c [.list .none (((Z r).take (L r)).map λz=>[.lit (.int k z)])] [.slice (A r) (L r) (C r)]) :
  CR c [.list .none (((List.range len).map λr=>(Z r).take (L r)).map λx=>[.list .none (x.map λz=>[.lit (.int k z)])])] [.slice (some a) len cap]:=by
 have hcr:∀l:List Nat,(∀r ∈ l,r<len)->CR c ((l.map λr=>(Z r).take (L r)).map λx=>[V.list .none (x.map λz=>[.lit (.int k z)])]).flatten (l.map λr=>.slice (A r) (L r) (C r)):=by
  intro l
  induction l with
  | nil=>intro _;exact .nil
  | cons r l ih=>intro hr;exact CR.cons (h r (hr r (Ja ..))).2 (ih λx hx=>hr x (IZ _ hx))
 have hL:IN c.G (some a) ((List.range len).map λr=>.slice (A r) (L r) (C r)):=by
  rw [hc];refine Jb λi u hu=>?_;have hi:i<len:=by have:=(sG.1 hu).1;simpa using this
  rw [AJ,xel hi] at hu;rw [(h i hi).1];exact hu
 have:=CR.list (o:=.none) (a:=some a) (cap:=cap) (c:=c) (rows:=((List.range len).map λr=>(Z r).take (L r)).map λx=>[.list .none (x.map λz=>[.lit (.int k z)])]) (es:=(List.range len).map λr=>.slice (A r) (L r) (C r)) (sz:=1) (vs:=[]) (cs:=[])
  (hcr _ λr hr=>Te.1 hr) (by intro r hr;obtain ⟨y,_,rfl⟩:=Iw.1 hr;rfl) zb (by simpa using hl) hm (λh0=>by
    obtain ⟨b,off,e,_⟩:=hL (by simpa using h0);exact ⟨b,off,e⟩) hL (by intro u hu;obtain ⟨y,_,rfl⟩:=Iw.1 hu;rfl) trivial .nil
 simpa using this
end
section
variable {H:Type} {enc:TypeId × Value->H} {P:Program} {w:World} {held:Bool}
theorem OC {t e fuel:Nat} {k:IntKind} {cs:List Value} {x:DataW H × List MemPlace} (ht:P.underlying t=some (.slice e)) (he:P.underlying e=some (.int k)) (hc:P.cellsOf e=1)
  (h:DataW.trod enc P w 0 (λ_=>true) held fuel t cs=some x) :
  ∃ws:List Int,(∀z ∈ ws,(Lit.int k z).wf=true)/\∀c:Conc,c.G=AK w->∃a len cap,cs=[.slice a len cap]/\CR c [.list .none (ws.map λz=>[.lit (.int k z)])] [.slice a len cap]:=by
 rcases open_ints ht he hc h with ⟨rfl,_⟩ | ⟨a,len,cap,zs,rfl,_,hl,hm,hz,_,hcell,hw⟩
 ·exact ⟨[],zc,λc _=>⟨none,0,0,rfl,IU (zs:=[]) (HI _) (HI _) (λh=>by cases h) (λh=>by cases h)⟩⟩
 ·rw [cG rfl] at hz;exact ⟨zs.take len,λz hz=>hw z (MK hz),λc hc=>⟨some a,len,cap,rfl,Jc hc hl hm za λi hi=>hcell i za⟩⟩
theorem QV {t e q fuel:Nat} {k:IntKind} {cs:List Value} {x:DataW H × List MemPlace} (ht:P.underlying t=some (.slice e)) (he:P.underlying e=some (.slice q)) (hq:P.underlying q=some (.int k)) (ce:P.cellsOf e=1) (cq:P.cellsOf q=1)
  (h:DataW.trod enc P w 0 (λ_=>true) held fuel t cs=some x) :
  ∃as:List (List Int),(∀x ∈ as,∀z ∈ x,(Lit.int k z).wf=true)/\∀c:Conc,c.G=AK w->∃a len cap,cs=[.slice a len cap]/\CR c [.list .none (as.map λx=>[.list .none (x.map λz=>[.lit (.int k z)])])] [.slice a len cap]:=by
 rcases Go.Deep.open_int_rows ht he hq ce cq h with ⟨rfl,_⟩ | ⟨a,len,cap,A,L,C,Z,rfl,_,hl,hm,_,hr⟩
 ·refine ⟨[],zc,λc _=>⟨none,0,0,rfl,?_⟩⟩;exact CR.list (o:=.none) (rows:=[]) (es:=[]) (sz:=1) .nil (λ_ h=>by cases h) zb (HI _) (HI _) (λh=>by cases h) (λh=>by cases h) (λ_ h=>by cases h) trivial .nil
 ·refine ⟨(List.range len).map λr=>(Z r).take (L r),λx hx z hz=>?_,λc hc=>⟨some a,len,cap,rfl,OD (C:=C) (A:=A) hc hl hm λr hrl=>?_⟩⟩
  ·obtain ⟨r,hr',rfl⟩:=Iw.1 hx;exact (hr r (by have:=Te.1 hr';omega)).2.2.2.2.1 z (MK hz)
  ·obtain ⟨h1,h2,h3,h4,h5,h6,h7⟩:=hr r za;refine ⟨h1,?_⟩;cases hA:A r with
   | none=>
     have h8:=h6 hA;have h9:L r=0:=za
     rw [h8,h9,Gp];exact IU (zs:=[]) (HI _) (HI _) (λh=>by cases h) (λh=>by cases h)
   | some a'=>exact Jc hc h2 h3 za λi hi=>(h7 a' hA).2 i za
theorem args_in {t e0 e1 q fuel:Nat} {fs:Array Field} {f0 f1:Field} {k k':IntKind} {cs:Array Value} {x:DataW H × List MemPlace} (ht:P.underlying t=some (.struct fs)) (hf0:fs[0]? = some f0) (hf1:fs[1]? = some f1) (ho0:f0.offset=0) (ho1:f1.offset=1)
  (ct:P.cellsOf t=2) (c0:P.cellsOf f0.type=1) (c1:P.cellsOf f1.type=1) (hu0:P.underlying f0.type=some (.slice e0)) (he0:P.underlying e0=some (.int k)) (ce0:P.cellsOf e0=1)
  (hu1:P.underlying f1.type=some (.slice e1)) (he1:P.underlying e1=some (.slice q)) (hq:P.underlying q=some (.int k')) (ce1:P.cellsOf e1=1) (cq:P.cellsOf q=1)
  (h:DataW.trod enc P w 0 (λ_=>true) held fuel t (Value.agg cs).cells.toList=some x) :
  ∃(ws:List Int) (as:List (List Int)),(∀z ∈ ws,(Lit.int k z).wf=true)/\(∀x ∈ as,∀z ∈ x,(Lit.int k' z).wf=true) ∧
   ∀c:Conc,c.G=AK w->CR c [.agg [.list .none (ws.map λz=>[.lit (.int k z)]),.list .none (as.map λx=>[.list .none (x.map λz=>[.lit (.int k' z)])])]] [.agg cs]:=by
 obtain ⟨xs,n,rfl,_,hl,hx,hel⟩:=DataW.trod_struct ht h;have hsz:cs.toList.length=2:=by rw [ct] at hl;exact hl
 obtain ⟨l⟩:=cs
 match l,hsz with
 | [v0,v1],_=>
   have k0:=hel 0 f0 hf0;have k1:=hel 1 f1 hf1;rw [ho0,c0] at k0;rw [ho1,c1] at k1
   have hn:fs.size ≥ 2:=by
    have:=(Array.getElem?_eq_some_iff.1 hf1).1;omega
   obtain ⟨y0,hy0⟩:∃y,xs[0]? = some y:=⟨xs[0],tS za⟩;obtain ⟨y1,hy1⟩:∃y,xs[1]? = some y:=⟨xs[1],tS za⟩;rw [hy0] at k0;rw [hy1] at k1;obtain ⟨ws,hw,g0⟩:=OC hu0 he0 ce0 k0;obtain ⟨as,ha,g1⟩:=QV hu1 he1 hq ce1 cq k1;refine ⟨ws,as,hw,ha,λc hc=>?_⟩;obtain ⟨a0,l0,cp0,e0,r0⟩:=g0 c hc;obtain ⟨a1,l1,cp1,e1,r1⟩:=g1 c hc
   obtain rfl:v0=.slice a0 l0 cp0:=by
    have e0:[v0]=[.slice a0 l0 cp0]:=e0;simpa using e0
   obtain rfl:v1=.slice a1 l1 cp1:=by
    have e1:[v1]=[.slice a1 l1 cp1]:=e1;simpa using e1
   refine CR.agg (xs:=[.slice a0 l0 cp0,.slice a1 l1 cp1]) (CR.cons r0 r1) (λu hu=>?_) .nil;simp only [Cj,MR,or_false] at hu
   rcases hu with rfl | rfl <;> rfl
end
