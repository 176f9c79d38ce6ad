/-
 Walks: each function does what its model says. Written by a program of mine (gen.py) for this claim.
-/
import Derived.Test.YtncembphlfbgoaaDoorCFS3
import Derived.Test.YtncembphlfbgoaaDoorCFGMm
import Derived.Test.YtncembphlfbgoaaDoorCFFacts
import Derived.Test.YtncembphlfbgoaaDoorCFH1
import Derived.Test.YtncembphlfbgoaaDoorCFH4
namespace Go.Proofs.YtncembphlfbgoaaDoor.Abs
open Go.RowKit
set_option linter.unusedVariables false
set_option maxRecDepth 10000
def Ew (f:Int->Option Bool):Prop:=∀a0 r,f a0=some r->∀(q:Pa) (m:M) (vs:List V),vs.map V.weak1=[.lit (.int .u8 a0)]->SC Tryd.prog 41 vs q m (fun v m'=>v=.lit (.bool r)/\m'=m)
theorem Do:Ew (vY):=by
 intro a0 r h q m vs hv;refine SC.weak ?_;rw [hv];refine eN Tryd.func41 rfl (fun xs w=>Tryd.call41 xs w) Tryd.ntmps41 (by kernel_rfl) Tryd.results41 ?_;unfold vY at h;refine aL fun _ z=>?_;simp only [go_sem];apply z;refine aI ?_;obtain ⟨y1,hy1,h⟩:=aC h;refine cZ 16 [] [] rfl (fun E' m'=>E' 2=.lit (.bool y1)/\m'.gl=m.gl/\m.back q m'=m) ?_ ?_
 ·rcases cY (a0 == (32:Int)) with c2 | c2
  ·replace hy1:=bC c2 hy1;refine aM fun _ z=>?_;simp only [go_sem,seval,c2];apply z;obtain rfl:=aJ hy1;refine ⟨by decide,?_⟩;simp only [go_sem,↓reduceIte,aK]
  ·replace hy1:=bD c2 hy1
   rcases cY (a0 == (9:Int)) with c3 | c3
   ·replace hy1:=bC c3 hy1;refine aM fun _ z=>?_;simp only [go_sem,seval,c2,c3];apply z;obtain rfl:=aJ hy1;refine ⟨by decide,?_⟩;simp only [go_sem,↓reduceIte,aK]
   ·replace hy1:=bD c3 hy1
    rcases cY (a0 == (13:Int)) with c4 | c4
    ·replace hy1:=bC c4 hy1;refine aM fun _ z=>?_;simp only [go_sem,seval,c2,c3,c4];apply z;obtain rfl:=aJ hy1;refine ⟨by decide,?_⟩;simp only [go_sem,↓reduceIte,aK]
    ·replace hy1:=bD c4 hy1;refine aM fun _ z=>?_;simp only [go_sem,seval,c2,c3,c4];apply z;obtain rfl:=aJ hy1;refine ⟨by decide,?_⟩;simp only [go_sem,↓reduceIte,aK]
 ·intro E5 m6 e7 _;simp only [aE];refine aU ?_;obtain rfl:=aJ h;refine ⟨by simp,?_⟩;simp only [go_sem,e7]
def qC (f:cD->cD->Option Bool):Prop:=∀a0 a1 r,f a0 a1=some r->∀(q:Pa) (m:M) (vs:List V),vs.map V.weak1=[.lit (.string (bs a0)),.lit (.string (bs a1))]->SC Tryd.prog 62 vs q m (fun v m'=>v=.lit (.bool r)/\m'=m)
theorem mA:qC (eQ):=by
 intro a0 a1 r h q m vs hv;refine SC.weak ?_;rw [hv];refine eN Tryd.func62 rfl (fun xs w=>Tryd.call62 xs w) Tryd.ntmps62 (by kernel_rfl) Tryd.results62 ?_;unfold eQ at h;refine aL fun _ z=>?_;simp only [go_sem];apply z;refine aI ?_;obtain ⟨y1,hy1,h⟩:=aC h;refine cZ 15 [] [] rfl (fun E' m'=>E' 4=.lit (.bool y1)/\m'.gl=m.gl/\m.back q m'=m) ?_ ?_
 ·rcases cY (decide ((a1.length:Int)<=(a0.length:Int))) with c2 | c2
  ·replace hy1:=bC c2 hy1;obtain ⟨⟨f3,f4⟩,hy1⟩:=cK hy1;refine aM fun _ z=>?_;simp only [go_sem,seval,f3,f4];apply z;obtain rfl:=aJ hy1;refine ⟨by decide,?_⟩;simp only [go_sem,↓reduceIte,aK]
  ·replace hy1:=bD c2 hy1;refine aM fun _ z=>?_;simp only [go_sem,seval,c2];apply z;obtain rfl:=aJ hy1;refine ⟨by decide,?_⟩;simp only [go_sem,↓reduceIte,aK]
 ·intro E5 m6 e7 _;simp only [aE];refine aU ?_;obtain rfl:=aJ h;refine ⟨by simp,?_⟩;simp only [go_sem,e7]
def zN (f:cD->cD->Option Bool):Prop:=∀a0 a1 r,f a0 a1=some r->∀(q:Pa) (m:M) (vs:List V),vs.map V.weak1=[.lit (.string (bs a0)),.lit (.string (bs a1))]->SC Tryd.prog 42 vs q m (fun v m'=>v=.lit (.bool r)/\m'=m)
theorem rH:zN (lE):=by
 intro a0 a1 r h q m vs hv;refine SC.weak ?_;rw [hv];refine eN Tryd.func42 rfl (fun xs w=>Tryd.call42 xs w) Tryd.ntmps42 (by kernel_rfl) Tryd.results42 ?_;unfold lE at h;refine aL fun _ z=>?_;simp only [go_sem];apply z;refine aI ?_;obtain ⟨x1,h2,h⟩:=aC h;refine aM fun _ z=>?_;simp only [go_sem,seval];refine SC.by_ (mA a0 a1 _ h2 _ _ _ (by simp only [go_sem])) ?_;simp only [go_sem,seval];apply z;refine aU ?_;obtain rfl:=aJ h;refine ⟨by simp,?_⟩;simp only [go_sem,↓reduceIte,aK]
def pG (f:cD->Int->Option Int):Prop:=∀a0 a1 r,f a0 a1=some r->∀(q:Pa) (m:M) (vs:List V),vs.map V.weak1=[.lit (.string (bs a0)),.lit (.int .u8 a1)]->SC Tryd.prog 83 vs q m (fun v m'=>v=.lit (.int .i64 r)/\m'=m)
theorem oY:pG mJ:=by
 intro a0 a1 r h q m vs hv;refine SC.weak ?_;rw [hv];obtain rfl:=aJ h;intro c xs w h1 h2 h3;obtain ⟨x,xs,rfl,k1,k2⟩:=h2.uncons;obtain ⟨y,rfl,k3⟩:=k2.inv_one;obtain rfl:=k1.inv_lit;obtain rfl:=k3.inv_lit;refine .inr ⟨.int .i64 (Lib.indexByte a0 a1.toNat.toUInt8),w,?_,_,c,_,m,rfl,⟨rfl,rfl⟩,h1,.refl q c m w,.lit .nil⟩;rw [run_callFunc_extern (fn:=Tryd.f83) (e:=Extern.BytealgIndexByte.indexByte) Tryd.func83 (by kernel_rfl) (by kernel_rfl) (by kernel_rfl) (by rfl)];have:=Lib.run_indexByteString (P:=Tryd.prog) (bs a0) a1 w;rw [this];rfl
def qB (f:cD->Int->Option Int):Prop:=∀a0 a1 r,f a0 a1=some r->∀(q:Pa) (m:M) (vs:List V),vs.map V.weak1=[.lit (.string (bs a0)),.lit (.int .u8 a1)]->SC Tryd.prog 63 vs q m (fun v m'=>v=.lit (.int .i64 r)/\m'=m)
theorem pV:qB (kN):=by
 intro a0 a1 r h q m vs hv;refine SC.weak ?_;rw [hv];refine eN Tryd.func63 rfl (fun xs w=>Tryd.call63 xs w) Tryd.ntmps63 (by kernel_rfl) Tryd.results63 ?_;unfold kN at h;refine aL fun _ z=>?_;simp only [go_sem];apply z;refine aI ?_;obtain ⟨x1,h2,h⟩:=aC h;refine aM fun _ z=>?_;simp only [go_sem,seval];refine SC.by_ (oY a0 a1 _ h2 _ _ _ (by simp only [go_sem])) ?_;simp only [go_sem,seval];apply z;refine aU ?_;obtain rfl:=aJ h;refine ⟨by simp,?_⟩;simp only [go_sem,↓reduceIte,aK]
def zM (f:cD->Int->Option Int):Prop:=∀a0 a1 r,f a0 a1=some r->∀(q:Pa) (m:M) (vs:List V),vs.map V.weak1=[.lit (.string (bs a0)),.lit (.int .u8 a1)]->SC Tryd.prog 43 vs q m (fun v m'=>v=.lit (.int .i64 r)/\m'=m)
theorem oC:zM (lD):=by
 intro a0 a1 r h q m vs hv;refine SC.weak ?_;rw [hv];refine eN Tryd.func43 rfl (fun xs w=>Tryd.call43 xs w) Tryd.ntmps43 (by kernel_rfl) Tryd.results43 ?_;unfold lD at h;refine aL fun _ z=>?_;simp only [go_sem];apply z;refine aI ?_;obtain ⟨x1,h2,h⟩:=aC h;refine aM fun _ z=>?_;simp only [go_sem,seval];refine SC.by_ (pV a0 a1 _ h2 _ _ _ (by simp only [go_sem])) ?_;simp only [go_sem,seval];apply z;refine aU ?_;obtain rfl:=aJ h;refine ⟨by simp,?_⟩;simp only [go_sem,↓reduceIte,aK]
def Fs (f:cD->Int->Option Int):Prop:=∀a0 a1 r,f a0 a1=some r->∀(q:Pa) (m:M) (vs:List V),vs.map V.weak1=[.lit (.string (bs a0)),.lit (.int .i64 a1)]->SC Tryd.prog 29 vs q m (fun v m'=>v=.lit (.int .i64 r)/\m'=m)
theorem Be (n:Nat):Fs (vX n):=by
 intro a0 a1 r h q m vs hv;refine SC.weak ?_;rw [hv];refine eN Tryd.func29 rfl (fun xs w=>Tryd.call29 xs w) Tryd.ntmps29 (by kernel_rfl) Tryd.results29 ?_;unfold vX at h;refine aL fun _ z=>?_;simp only [go_sem];apply z;refine aI ?_;refine bK ?_;obtain ⟨y3,hy3,h⟩:=aC h;refine dE [] [] rfl (fun c E' m'=>∃v2,nA a0 c v2=some y3/\E' 0=.lit (.string (bs a0))/\E' 1=.lit (.int .i64 v2)/\m'.gl=m.gl/\m.back q m'=m) n ⟨a1,hy3,?_⟩ ?_
 ·simp only [go_sem,seval,aK]
 rintro i1 c4 E5 m6 ⟨v2,hy3,e7⟩ _
 rcases c4 with _ | c4
 ·exact absurd hy3 (by rw [nA];exact fun e=>nomatch e)
 rw [nA] at hy3;refine aI ?_;refine aL fun _ z=>?_;simp only [go_sem,seval,e7];apply z;refine eK (decide (v2<(a0.length:Int))) (by simp only [go_sem,↓reduceIte]) (fun c8=>?_) (fun c8=>?_)
 ·replace hy3:=bC c8 hy3;refine bB ?_
  try simp only [aE]
  refine bK ?_;refine bK ?_;refine aI ?_;obtain ⟨x9,h14,hy3⟩:=aC hy3;obtain ⟨f11,f12,f13⟩:=bF h14;obtain ⟨x10,h15,hy3⟩:=aC hy3;refine aM fun _ z=>?_;simp only [go_sem,seval,f11,f12,f13,e7];refine SC.by_ (Do (x9.toNat:Int) _ h15 _ _ _ (by simp only [go_sem])) ?_;simp only [go_sem,seval];apply z;refine dA x10 (fun c16=>?_) (fun c16=>?_)
  ·replace hy3:=bC c16 hy3;refine gF fun _ z=>?_;simp only [go_sem,seval,c16,e7];apply z;simp only [aE,aT];refine ⟨c4,Nat.lt_succ_self _,(IntKind.i64.wrap (v2+(1:Int))),hy3,?_⟩;simp only [go_sem,seval,e7]
  ·replace hy3:=bD c16 hy3;refine aI ?_;obtain ⟨⟨f18,f19⟩,hy3⟩:=cK hy3;obtain ⟨x17,h20,hy3⟩:=aC hy3;refine aM fun _ z=>?_;simp only [go_sem,seval,f11,c16,f19,e7];refine SC.by_ (rH (a0.drop v2.toNat) ([47,47]:cD) _ h20 _ _ _ (by simp only [go_sem])) ?_;simp only [go_sem,seval];apply z;refine dA x17 (fun c21=>?_) (fun c21=>?_)
   ·replace hy3:=bC c21 hy3;refine aI ?_;obtain ⟨⟨f23,f24⟩,hy3⟩:=cK hy3;obtain ⟨x22,h25,hy3⟩:=aC hy3;refine aM fun _ z=>?_;simp only [go_sem,seval,f11,f19,c21,e7];refine SC.by_ (oC (a0.drop v2.toNat) (10:Int) _ h25 _ _ _ (by simp only [go_sem])) ?_;simp only [go_sem,seval];apply z;refine aI ?_;refine aL fun _ z=>?_;simp only [go_sem,seval];apply z;refine eK (decide (x22<(0:Int))) (by simp only [go_sem,↓reduceIte]) (fun c26=>?_) (fun c26=>?_)
    ·replace hy3:=bC c26 hy3;refine aL fun _ z=>?_;simp only [go_sem,seval,c26,e7];apply z;refine aU ?_
     try simp only [bE,bX]
     obtain rfl:=aJ hy3;simp only [Sum.elim_inr] at h;obtain rfl:=aJ h;refine ⟨by simp,?_⟩;simp only [go_sem,↓reduceIte,e7]
    ·replace hy3:=bD c26 hy3;refine bB ?_
     try simp only [aE]
     refine gF fun _ z=>?_;simp only [go_sem,seval,c26,e7];apply z;simp only [aE,aT];refine ⟨c4,Nat.lt_succ_self _,(IntKind.i64.wrap (v2+x22)),hy3,?_⟩;simp only [go_sem,seval,e7]
   ·replace hy3:=bD c21 hy3;refine aL fun _ z=>?_;simp only [go_sem,seval,c21,e7];apply z;refine aU ?_
    try simp only [bE,bX]
    obtain rfl:=aJ hy3;simp only [Sum.elim_inr] at h;obtain rfl:=aJ h;refine ⟨by simp,?_⟩;simp only [go_sem,↓reduceIte,e7]
 ·replace hy3:=bD c8 hy3;refine eG ?_
  try simp only [bZ,bQ,↓reduceIte,aE]
  obtain rfl:=aJ hy3;simp only [Sum.elim_inl] at h;refine aL fun _ z=>?_;simp only [go_sem,seval,c8,e7];apply z;refine aU ?_;obtain rfl:=aJ h;refine ⟨by simp,?_⟩;simp only [go_sem,↓reduceIte,e7]
def Dq (f:Int->Option Bool):Prop:=∀a0 r,f a0=some r->∀(q:Pa) (m:M) (vs:List V),vs.map V.weak1=[.lit (.int .u8 a0)]->SC Tryd.prog 45 vs q m (fun v m'=>v=.lit (.bool r)/\m'=m)
theorem uY:Dq (qZ):=by
 intro a0 r h q m vs hv;refine SC.weak ?_;rw [hv];refine eN Tryd.func45 rfl (fun xs w=>Tryd.call45 xs w) Tryd.ntmps45 (by kernel_rfl) Tryd.results45 ?_;unfold qZ at h;refine aL fun _ z=>?_;simp only [go_sem];apply z;refine aI ?_;obtain ⟨y1,hy1,h⟩:=aC h;refine cZ 12 [] [] rfl (fun E' m'=>E' 2=.lit (.bool y1)/\m'.gl=m.gl/\m.back q m'=m) ?_ ?_
 ·rcases cY (decide ((97:Int)<=a0)) with c2 | c2
  ·replace hy1:=bC c2 hy1
   rcases cY (decide (a0<=(122:Int))) with c3 | c3
   ·replace hy1:=bC c3 hy1;refine aM fun _ z=>?_;simp only [go_sem,seval,c2,c3];apply z;obtain rfl:=aJ hy1;refine ⟨by decide,?_⟩;simp only [go_sem,↓reduceIte,aK]
   ·replace hy1:=bD c3 hy1;refine aM fun _ z=>?_;simp only [go_sem,seval,c2,c3];apply z;obtain rfl:=aJ hy1;refine ⟨by decide,?_⟩;simp only [go_sem,↓reduceIte,aK]
  ·replace hy1:=bD c2 hy1;refine aM fun _ z=>?_;simp only [go_sem,seval,c2];apply z;obtain rfl:=aJ hy1;refine ⟨by decide,?_⟩;simp only [go_sem,↓reduceIte,aK]
 ·intro E4 m5 e6 _;simp only [aE];refine aU ?_;obtain rfl:=aJ h;refine ⟨by simp,?_⟩;simp only [go_sem,e6]
def Ex (f:Int->Option Bool):Prop:=∀a0 r,f a0=some r->∀(q:Pa) (m:M) (vs:List V),vs.map V.weak1=[.lit (.int .u8 a0)]->SC Tryd.prog 46 vs q m (fun v m'=>v=.lit (.bool r)/\m'=m)
theorem Ax:Ex (sJ):=by
 intro a0 r h q m vs hv;refine SC.weak ?_;rw [hv];refine eN Tryd.func46 rfl (fun xs w=>Tryd.call46 xs w) Tryd.ntmps46 (by kernel_rfl) Tryd.results46 ?_;unfold sJ at h;refine aL fun _ z=>?_;simp only [go_sem];apply z;refine aI ?_;obtain ⟨y1,hy1,h⟩:=aC h;refine cZ 8 [] [] rfl (fun E' m'=>E' 2=.lit (.bool y1)/\m'.gl=m.gl/\m.back q m'=m) ?_ ?_
 ·rcases cY (decide ((48:Int)<=a0)) with c2 | c2
  ·replace hy1:=bC c2 hy1;refine aM fun _ z=>?_;simp only [go_sem,seval,c2];apply z;obtain rfl:=aJ hy1;refine ⟨by decide,?_⟩;simp only [go_sem,↓reduceIte,aK]
  ·replace hy1:=bD c2 hy1;refine aM fun _ z=>?_;simp only [go_sem,seval,c2];apply z;obtain rfl:=aJ hy1;refine ⟨by decide,?_⟩;simp only [go_sem,↓reduceIte,aK]
 ·intro E3 m4 e5 _;simp only [aE];refine aU ?_;obtain rfl:=aJ h;refine ⟨by simp,?_⟩;simp only [go_sem,e5]
def Fq (f:cD->Option cD):Prop:=∀a0 r,f a0=some r->∀(q:Pa) (m:M) (vs:List V),vs.map V.weak1=[.lit (.string (bs a0))]->SC Tryd.prog 44 vs q m (fun v m'=>v=.lit (.string (bs r))/\m'=m)
theorem Eq (n:Nat):Fq (yK n):=by
 intro a0 r h q m vs hv;refine SC.weak ?_;rw [hv];refine eN Tryd.func44 rfl (fun xs w=>Tryd.call44 xs w) Tryd.ntmps44 (by kernel_rfl) Tryd.results44 ?_;unfold yK at h;refine aL fun _ z=>?_;simp only [go_sem];apply z;refine aI ?_;refine aL fun _ z=>?_;simp only [go_sem,seval];apply z;refine bK ?_;obtain ⟨y3,hy3,h⟩:=aC h;refine dE [] [] rfl (fun c E' m'=>∃v2,oE a0 c v2=some y3/\E' 0=.lit (.string (bs a0))/\E' 5=.lit (.int .i64 (a0.length:Int))/\E' 6=.lit (.int .i64 v2)/\m'.gl=m.gl/\m.back q m'=m) n ⟨(0:Int),hy3,?_⟩ ?_
 ·simp only [go_sem,seval,aK]
 rintro i1 c4 E5 m6 ⟨v2,hy3,e7⟩ _
 rcases c4 with _ | c4
 ·exact absurd hy3 (by rw [oE];exact fun e=>nomatch e)
 rw [oE] at hy3;refine aL fun _ z=>?_;simp only [go_sem,e7];apply z;refine aI ?_;refine eK (decide (v2<(a0.length:Int))) (by simp only [go_sem,↓reduceIte]) (fun c8=>?_) (fun c8=>?_)
 ·replace hy3:=bC c8 hy3;refine bB ?_
  try simp only [aE]
  refine aI ?_;refine bK ?_;refine aL fun _ z=>?_;simp only [go_sem,seval,c8,e7];apply z;refine aI ?_;obtain ⟨y9,hy9,hy3⟩:=aC hy3;refine cZ 15 [] [] rfl (fun E' m'=>E' 0=.lit (.string (bs a0))/\E' 3=.lit (.int .i64 v2)/\E' 5=.lit (.int .i64 (a0.length:Int))/\E' 6=.lit (.int .i64 v2)/\E' 20=.lit (.bool y9)/\m'.gl=m.gl/\m.back q m'=m) ?_ ?_
  ·obtain ⟨x10,h15,hy9⟩:=aC hy9;obtain ⟨f12,f13,f14⟩:=bF h15;obtain ⟨x11,h16,hy9⟩:=aC hy9
   rcases cY (!x11) with c17 | c17
   ·replace hy9:=bC c17 hy9;obtain ⟨x18,h19,hy9⟩:=aC hy9;refine aM fun _ z=>?_;simp only [go_sem,seval,f12,f14,e7];refine SC.by_ (uY (x10.toNat:Int) _ h16 _ _ _ (by simp only [go_sem])) ?_;simp only [go_sem,seval,f12,f14,c17,e7];refine SC.by_ (Ax (x10.toNat:Int) _ h19 _ _ _ (by simp only [go_sem])) ?_;simp only [go_sem,seval];apply z;obtain rfl:=aJ hy9;refine ⟨by decide,?_⟩;simp only [go_sem,seval,e7]
   ·replace hy9:=bD c17 hy9;refine aM fun _ z=>?_;simp only [go_sem,seval,f12,f14,e7];refine SC.by_ (uY (x10.toNat:Int) _ h16 _ _ _ (by simp only [go_sem])) ?_;simp only [go_sem,seval,c17];apply z;obtain rfl:=aJ hy9;refine ⟨by decide,?_⟩;simp only [go_sem,seval,e7]
  ·intro E20 m21 e22 _;simp only [aE];refine eK y9 (by simp only [go_sem,e22]) (fun c23=>?_) (fun c23=>?_)
   ·replace hy3:=bC c23 hy3;refine aI ?_;obtain ⟨⟨f24,f25⟩,hy3⟩:=cK hy3;refine aM fun _ z=>?_;simp only [go_sem,seval,f24,f25,e22];apply z;refine aU ?_
    try simp only [bE,bX]
    obtain rfl:=aJ hy3;simp only [Sum.elim_inr] at h;obtain rfl:=aJ h;refine ⟨by simp,?_⟩;simp only [go_sem,↓reduceIte,e22]
   ·replace hy3:=bD c23 hy3;refine bB ?_
    try simp only [aE,aT]
    refine aM fun _ z=>?_;simp only [go_sem,seval,e22];apply z;refine ⟨c4,Nat.lt_succ_self _,(IntKind.i64.wrap (v2+(1:Int))),hy3,?_⟩;simp only [go_sem,seval,e22]
 ·replace hy3:=bD c8 hy3;refine eG ?_
  try simp only [bZ,bQ,↓reduceIte,aE]
  obtain rfl:=aJ hy3;simp only [Sum.elim_inl] at h;refine aL fun _ z=>?_;simp only [go_sem,seval,c8,e7];apply z;refine aU ?_;obtain rfl:=aJ h;refine ⟨by simp,?_⟩;simp only [go_sem,↓reduceIte,e7]
def qD (f:cD->cD->Option (cD × Bool)):Prop:=∀a0 a1 r,f a0 a1=some r->∀(q:Pa) (m:M) (vs:List V),vs.map V.weak1=[.lit (.string (bs a0)),.lit (.string (bs a1))]->SC Tryd.prog 84 vs q m (fun v m'=>v=.tup [.lit (.string (bs r.1)),.lit (.bool r.2)]/\m'=m)
theorem pW:qD (iA):=by
 intro a0 a1 r h q m vs hv;refine SC.weak ?_;rw [hv];refine eN Tryd.func84 rfl (fun xs w=>Tryd.call84 xs w) Tryd.ntmps84 (by kernel_rfl) Tryd.results84 ?_;unfold iA at h;refine aL fun _ z=>?_;simp only [go_sem,Nat.reduceAdd];apply z;refine aI ?_;refine aI ?_;obtain ⟨x1,h2,h⟩:=aC h;refine aM fun _ z=>?_;simp only [go_sem,seval];refine SC.by_ (mA a0 a1 _ h2 _ _ _ (by simp only [go_sem])) ?_;simp only [go_sem,seval];apply z;refine dA (!x1) (fun c3=>?_) (fun c3=>?_)
 ·replace h:=bC c3 h;refine aL fun _ z=>?_;simp only [go_sem,seval,c3];apply z;refine aU ?_
  try simp only [bE]
  obtain rfl:=aJ h;refine ⟨by simp,?_⟩;simp only [go_sem,seval,aK]
 ·replace h:=bD c3 h;refine bB ?_
  try simp only [aE]
  refine aI ?_;obtain ⟨⟨f4,f5⟩,h⟩:=cK h;refine aM fun _ z=>?_;simp only [go_sem,seval,c3,f4,f5];apply z;refine aU ?_;obtain rfl:=aJ h;refine ⟨by simp,?_⟩;simp only [go_sem,seval,aK]
def zO (f:cD->cD->Option (cD × Bool)):Prop:=∀a0 a1 r,f a0 a1=some r->∀(q:Pa) (m:M) (vs:List V),vs.map V.weak1=[.lit (.string (bs a0)),.lit (.string (bs a1))]->SC Tryd.prog 64 vs q m (fun v m'=>v=.tup [.lit (.string (bs r.1)),.lit (.bool r.2)]/\m'=m)
theorem yC:zO (mG):=by
 intro a0 a1 r h q m vs hv;refine SC.weak ?_;rw [hv];refine eN Tryd.func64 rfl (fun xs w=>Tryd.call64 xs w) Tryd.ntmps64 (by kernel_rfl) Tryd.results64 ?_;unfold mG at h;refine aL fun _ z=>?_;simp only [go_sem,Nat.reduceAdd];apply z;refine aI ?_;obtain ⟨x1,h2,h⟩:=aC h;refine aM fun _ z=>?_;simp only [go_sem,seval];refine SC.by_ (pW a0 a1 _ h2 _ _ _ (by simp only [go_sem])) ?_;simp only [go_sem,seval];apply z;refine aU ?_;obtain rfl:=aJ h;refine ⟨by simp,?_⟩;simp only [go_sem,seval,aK]
def Es (f:cD->Option (Int × Bool)):Prop:=∀a0 r,f a0=some r->∀(q:Pa) (m:M) (vs:List V),vs.map V.weak1=[.lit (.string (bs a0))]->SC Tryd.prog 47 vs q m (fun v m'=>v=.tup [.lit (.int .u32 r.1),.lit (.bool r.2)]/\m'=m)
theorem Dn (n:Nat):Es (vW n):=by
 intro a0 r h q m vs hv;refine SC.weak ?_;rw [hv];refine eN Tryd.func47 rfl (fun xs w=>Tryd.call47 xs w) Tryd.ntmps47 (by kernel_rfl) Tryd.results47 ?_;unfold vW at h;refine aL fun _ z=>?_;simp only [go_sem,Nat.reduceAdd];apply z;refine aL fun _ z=>?_;simp only [go_sem,Nat.reduceAdd];apply z;refine aI ?_;refine aI ?_;obtain ⟨x1,h2,h⟩:=aC h;refine aM fun _ z=>?_;simp only [go_sem,seval];refine SC.by_ (yC a0 ([48,120]:cD) _ h2 _ _ _ (by simp only [go_sem])) ?_;simp only [go_sem,seval];apply z;refine aL fun _ z=>?_;simp only [go_sem,seval];apply z;refine dA x1.2 (fun c3=>?_) (fun c3=>?_)
 ·replace h:=bC c3 h;refine aM fun _ z=>?_;simp only [go_sem,seval,c3];apply z;refine aL fun _ z=>?_;simp only [go_sem,Nat.reduceAdd];apply z;refine aI ?_;refine aL fun _ z=>?_;simp only [go_sem,seval];apply z;refine bK ?_;obtain ⟨y7,hy7,h⟩:=aC h;refine dE [] [] rfl (fun c E' m'=>∃v5 v6,nH x1 c v5 v6=some y7/\E' 0=.lit (.string (bs x1.1))/\E' 4=.lit (.int .i64 (16:Int))/\E' 7=.lit (.int .i64 v5)/\E' 18=.lit (.int .i64 (x1.1.length:Int))/\E' 19=.lit (.int .i64 v6)/\m'.gl=m.gl/\m.back q m'=m) n ⟨(0:Int),(0:Int),hy7,?_⟩ ?_
  ·simp only [go_sem,seval,aK]
  rintro i4 c8 E9 m10 ⟨v5,v6,hy7,e11⟩ _
  rcases c8 with _ | c8
  ·exact absurd hy7 (by rw [nH];exact fun e=>nomatch e)
  rw [nH] at hy7;refine aL fun _ z=>?_;simp only [go_sem,e11];apply z;refine aI ?_;refine eK (decide (v6<(x1.1.length:Int))) (by simp only [go_sem,↓reduceIte]) (fun c12=>?_) (fun c12=>?_)
  ·replace hy7:=bC c12 hy7;refine bB ?_
   try simp only [aE]
   refine aI ?_;refine bK ?_;refine aL fun _ z=>?_;simp only [go_sem,seval,c12,e11];apply z;refine aI ?_;obtain ⟨⟨f15,f16⟩,hy7⟩:=cK hy7;obtain ⟨x13,h20,hy7⟩:=aC hy7;obtain ⟨f17,f18,f19⟩:=bF h20;obtain ⟨x14,h21,hy7⟩:=aC hy7;refine bW (tbl:=[0,1,0,0,12,31,63]) (ord:=[(0,0),(1,0),(2,0),(3,0),(4,0),(5,0),(6,0)]) 10 rfl (by kernel_rfl) (by kernel_rfl) fun _ z=>?_;simp only [go_sem,seval,Int.reduceToNat,f15,f17,f19,e11];refine bS (oC (([48,49,50,51,52,53,54,55,56,57,97,98,99,100,101,102]:cD).take (16:Int).toNat) (x13.toNat:Int) _ h21 _ _ _ (by simp only [go_sem,Int.reduceToNat])) rfl ?_;simp only [go_sem,↓reduceIte];apply z;simp only [aE];refine aL fun _ z=>?_;simp only [go_sem,seval,e11];apply z;refine aI ?_;obtain ⟨y22,hy22,hy7⟩:=aC hy7;refine cZ 22 [] [] rfl (fun E' m'=>E' 0=.lit (.string (bs x1.1))/\E' 4=.lit (.int .i64 (16:Int))/\E' 7=.lit (.int .i64 (IntKind.i64.wrap ((IntKind.i64.wrap (v5*(16:Int)))+x14)))/\E' 18=.lit (.int .i64 (x1.1.length:Int))/\E' 19=.lit (.int .i64 v6)/\E' 38=.lit (.bool y22)/\m'.gl=m.gl/\m.back q m'=m) ?_ ?_
   ·rcases cY (decide (x14<(0:Int))) with c23 | c23
    ·replace hy22:=bC c23 hy22;refine aM fun _ z=>?_;simp only [go_sem,seval,c23];apply z;obtain rfl:=aJ hy22;refine ⟨by decide,?_⟩;simp only [go_sem,seval,e11]
    ·replace hy22:=bD c23 hy22;refine aM fun _ z=>?_;simp only [go_sem,seval,c23];apply z;obtain rfl:=aJ hy22;refine ⟨by decide,?_⟩;simp only [go_sem,seval,e11]
   ·intro E24 m25 e26 _;simp only [aE];refine eK y22 (by simp only [go_sem,e26]) (fun c27=>?_) (fun c27=>?_)
    ·replace hy7:=bC c27 hy7;refine aL fun _ z=>?_;simp only [go_sem,Nat.reduceAdd];apply z;refine aU ?_
     try simp only [bE,bX]
     obtain rfl:=aJ hy7;simp only [Sum.elim_inr] at h;obtain rfl:=aJ h;refine ⟨by simp,?_⟩;simp only [go_sem,seval,e26]
    ·replace hy7:=bD c27 hy7;refine bB ?_
     try simp only [aE,aT]
     refine aM fun _ z=>?_;simp only [go_sem,seval,e26];apply z;refine ⟨c8,Nat.lt_succ_self _,(IntKind.i64.wrap ((IntKind.i64.wrap (v5*(16:Int)))+x14)),(IntKind.i64.wrap (v6+(1:Int))),hy7,?_⟩;simp only [go_sem,seval,e26]
  ·replace hy7:=bD c12 hy7;refine eG ?_
   try simp only [bZ,bQ,↓reduceIte,aE]
   obtain rfl:=aJ hy7;simp only [Sum.elim_inl] at h;refine aL fun _ z=>?_;simp only [go_sem,seval,c12,e11];apply z;refine aU ?_;obtain rfl:=aJ h;refine ⟨by simp,?_⟩;simp only [go_sem,seval,e11]
 ·replace h:=bD c3 h;refine bB ?_
  try simp only [aE]
  refine aL fun _ z=>?_;simp only [go_sem,Nat.reduceAdd,c3];apply z;refine aI ?_;refine aL fun _ z=>?_;simp only [go_sem,seval];apply z;refine bK ?_;obtain ⟨y31,hy31,h⟩:=aC h;refine dE [] [] rfl (fun c E' m'=>∃v29 v30,nG a0 c v29 v30=some y31/\E' 0=.lit (.string (bs a0))/\E' 4=.lit (.int .i64 (10:Int))/\E' 7=.lit (.int .i64 v29)/\E' 18=.lit (.int .i64 (a0.length:Int))/\E' 19=.lit (.int .i64 v30)/\m'.gl=m.gl/\m.back q m'=m) n ⟨(0:Int),(0:Int),hy31,?_⟩ ?_
  ·simp only [go_sem,seval,aK]
  rintro i28 c32 E33 m34 ⟨v29,v30,hy31,e35⟩ _
  rcases c32 with _ | c32
  ·exact absurd hy31 (by rw [nG];exact fun e=>nomatch e)
  rw [nG] at hy31;refine aL fun _ z=>?_;simp only [go_sem,e35];apply z;refine aI ?_;refine eK (decide (v30<(a0.length:Int))) (by simp only [go_sem,↓reduceIte]) (fun c36=>?_) (fun c36=>?_)
  ·replace hy31:=bC c36 hy31;refine bB ?_
   try simp only [aE]
   refine aI ?_;refine bK ?_;refine aL fun _ z=>?_;simp only [go_sem,seval,c36,e35];apply z;refine aI ?_;obtain ⟨⟨f39,f40⟩,hy31⟩:=cK hy31;obtain ⟨x37,h44,hy31⟩:=aC hy31;obtain ⟨f41,f42,f43⟩:=bF h44;obtain ⟨x38,h45,hy31⟩:=aC hy31;refine bW (tbl:=[0,1,0,0,12,31,63]) (ord:=[(0,0),(1,0),(2,0),(3,0),(4,0),(5,0),(6,0)]) 10 rfl (by kernel_rfl) (by kernel_rfl) fun _ z=>?_;simp only [go_sem,seval,Int.reduceToNat,f39,f41,f43,e35];refine bS (oC (([48,49,50,51,52,53,54,55,56,57,97,98,99,100,101,102]:cD).take (10:Int).toNat) (x37.toNat:Int) _ h45 _ _ _ (by simp only [go_sem,Int.reduceToNat])) rfl ?_;simp only [go_sem,↓reduceIte];apply z;simp only [aE];refine aL fun _ z=>?_;simp only [go_sem,seval,e35];apply z;refine aI ?_;obtain ⟨y46,hy46,hy31⟩:=aC hy31;refine cZ 22 [] [] rfl (fun E' m'=>E' 0=.lit (.string (bs a0))/\E' 4=.lit (.int .i64 (10:Int))/\E' 7=.lit (.int .i64 (IntKind.i64.wrap ((IntKind.i64.wrap (v29*(10:Int)))+x38)))/\E' 18=.lit (.int .i64 (a0.length:Int))/\E' 19=.lit (.int .i64 v30)/\E' 38=.lit (.bool y46)/\m'.gl=m.gl/\m.back q m'=m) ?_ ?_
   ·rcases cY (decide (x38<(0:Int))) with c47 | c47
    ·replace hy46:=bC c47 hy46;refine aM fun _ z=>?_;simp only [go_sem,seval,c47];apply z;obtain rfl:=aJ hy46;refine ⟨by decide,?_⟩;simp only [go_sem,seval,e35]
    ·replace hy46:=bD c47 hy46;refine aM fun _ z=>?_;simp only [go_sem,seval,c47];apply z;obtain rfl:=aJ hy46;refine ⟨by decide,?_⟩;simp only [go_sem,seval,e35]
   ·intro E48 m49 e50 _;simp only [aE];refine eK y46 (by simp only [go_sem,e50]) (fun c51=>?_) (fun c51=>?_)
    ·replace hy31:=bC c51 hy31;refine aL fun _ z=>?_;simp only [go_sem,Nat.reduceAdd];apply z;refine aU ?_
     try simp only [bE,bX]
     obtain rfl:=aJ hy31;simp only [Sum.elim_inr] at h;obtain rfl:=aJ h;refine ⟨by simp,?_⟩;simp only [go_sem,seval,e50]
    ·replace hy31:=bD c51 hy31;refine bB ?_
     try simp only [aE,aT]
     refine aM fun _ z=>?_;simp only [go_sem,seval,e50];apply z;refine ⟨c32,Nat.lt_succ_self _,(IntKind.i64.wrap ((IntKind.i64.wrap (v29*(10:Int)))+x38)),(IntKind.i64.wrap (v30+(1:Int))),hy31,?_⟩;simp only [go_sem,seval,e50]
  ·replace hy31:=bD c36 hy31;refine eG ?_
   try simp only [bZ,bQ,↓reduceIte,aE]
   obtain rfl:=aJ hy31;simp only [Sum.elim_inl] at h;refine aL fun _ z=>?_;simp only [go_sem,seval,c36,e35];apply z;refine aU ?_;obtain rfl:=aJ h;refine ⟨by simp,?_⟩;simp only [go_sem,seval,e35]
def Ft (f:cD->Option cD):Prop:=∀a0 r,f a0=some r->∀(q:Pa) (m:M) (vs:List V),vs.map V.weak1=[.lit (.string (bs a0))]/\m.gl 1=.eptr [(cA cS eF)] 0 0->SC Tryd.prog 48 vs q m (fun v m'=>v=.lit (.string (bs r))/\m'=m)
theorem Et (n:Nat):Ft (yL n):=by
 rintro a0 r h q m vs ⟨hv,hg1⟩;refine SC.weak ?_;rw [hv];refine eN Tryd.func48 rfl (fun xs w=>Tryd.call48 xs w) Tryd.ntmps48 (by kernel_rfl) Tryd.results48 ?_;unfold yL at h;refine aL fun _ z=>?_;simp only [go_sem];apply z;refine aI ?_;refine aL fun _ z=>?_;simp only [go_sem,Nat.reduceAdd,hg1];apply z;refine bK ?_;obtain ⟨y3,hy3,h⟩:=aC h;refine dE [] [] rfl (fun c E' m'=>∃v2,oF a0 c v2=some y3/\E' 0=.lit (.string (bs a0))/\E' 5=.agg ((cA cS eF))/\E' 6=.lit (.int .i64 v2)/\m'.gl=m.gl/\m.back q m'=m) n ⟨(0:Int),hy3,?_⟩ ?_
 ·simp only [go_sem,seval,aK]
 rintro i1 c4 E5 m6 ⟨v2,hy3,e7⟩ _
 rcases c4 with _ | c4
 ·exact absurd hy3 (by rw [oF];exact fun e=>nomatch e)
 rw [oF] at hy3;refine aL fun _ z=>?_;simp only [go_sem,e7];apply z;refine aI ?_;refine eK (decide (v2<(26:Int))) (by simp only [go_sem,↓reduceIte]) (fun c8=>?_) (fun c8=>?_)
 ·replace hy3:=bC c8 hy3;refine bB ?_
  try simp only [aE]
  refine aI ?_;refine bK ?_;refine aI ?_;obtain ⟨x9,h13,hy3⟩:=aC hy3;obtain ⟨f10,f11,f12⟩:=bF h13;have f14:v2<(26:Int):=f11;obtain ⟨w15,d16⟩:=zJ (f:=cS) (s:=1) (fun _ _=>rfl) f12;simp only [go_sem] at d16;refine aM fun _ z=>?_;simp only [go_sem,seval,f10,f14,d16,e7];apply z;refine aI ?_;obtain ⟨x17,h18,hy3⟩:=aC hy3;refine aM fun _ z=>?_;simp only [go_sem,seval,e7];refine SC.by_ (rH a0 x9 _ h18 _ _ _ (by simp only [go_sem])) ?_;simp only [go_sem,Nat.reduceAdd];apply z;refine dA x17 (fun c19=>?_) (fun c19=>?_)
  ·replace hy3:=bC c19 hy3;refine aL fun _ z=>?_;simp only [go_sem,seval,c19];apply z;refine aU ?_
   try simp only [bE,bX]
   obtain rfl:=aJ hy3;simp only [Sum.elim_inr] at h;obtain rfl:=aJ h;refine ⟨by simp,?_⟩;simp only [go_sem,↓reduceIte,e7]
  ·replace hy3:=bD c19 hy3;refine bB ?_
   try simp only [aE,aT]
   refine aM fun _ z=>?_;simp only [go_sem,seval,c19,e7];apply z;refine ⟨c4,Nat.lt_succ_self _,(IntKind.i64.wrap (v2+(1:Int))),hy3,?_⟩;simp only [go_sem,seval,e7]
 ·replace hy3:=bD c8 hy3;refine eG ?_
  try simp only [bZ,bQ,↓reduceIte,aE]
  obtain rfl:=aJ hy3;simp only [Sum.elim_inl] at h;refine aL fun _ z=>?_;simp only [go_sem,Nat.reduceAdd,c8];apply z;refine aU ?_;obtain rfl:=aJ h;refine ⟨by simp,?_⟩;simp only [go_sem,↓reduceIte,e7]
def Fu (f:cD->Int->Option (cV × Int)):Prop:=∀a0 a1 r,f a0 a1=some r->∀(q:Pa) (m:M) (vs:List V),vs.map V.weak1=[.lit (.string (bs a0)),.lit (.int .i64 a1)]/\m.gl 1=.eptr [(cA cS eF)] 0 0->SC Tryd.prog 30 vs q m (fun v m'=>v=.tup [.agg ((cV.C r.1)),.lit (.int .i64 r.2)]/\m'=m)
theorem Eu (n:Nat):Fu (yM n):=by
 rintro a0 a1 r h q m vs ⟨hv,hg1⟩;refine SC.weak ?_;rw [hv];refine eN Tryd.func30 rfl (fun xs w=>Tryd.call30 xs w) Tryd.ntmps30 (by kernel_rfl) Tryd.results30 ?_;unfold yM at h;refine aL fun _ z=>?_;simp only [go_sem,Nat.reduceAdd];apply z;refine aI ?_;obtain ⟨⟨f4,f5⟩,h⟩:=cK h;obtain ⟨x2,h6,h⟩:=aC h;refine aM fun _ z=>?_;simp only [go_sem,seval,f4,f5];refine SC.by_ (Eq n (a0.drop a1.toNat) _ h6 _ _ _ (by simp only [go_sem])) ?_;simp only [go_sem,seval];apply z;refine aI ?_;refine bK ?_;refine aI ?_;obtain ⟨x7,h12,h⟩:=aC h;obtain ⟨f9,f10,f11⟩:=bF h12;obtain ⟨x8,h13,h⟩:=aC h;refine aM fun _ z=>?_;simp only [go_sem,seval,f4,f11];refine SC.by_ (uY (x7.toNat:Int) _ h13 _ _ _ (by simp only [go_sem])) ?_;simp only [go_sem,seval];apply z;refine dA x8 (fun c14=>?_) (fun c14=>?_)
 ·replace h:=bC c14 h;refine aI ?_;refine aL fun _ z=>?_;simp only [go_sem,seval,c14];apply z;refine eK (decide ((32:Int)<(x2.length:Int))) (by simp only [go_sem,↓reduceIte]) (fun c15=>?_) (fun c15=>?_)
  ·replace h:=bC c15 h;refine aL fun _ z=>?_;simp only [go_sem,seval,c15];apply z;refine aU ?_
   try simp only [bE,bX]
   obtain rfl:=aJ h;refine ⟨by simp,?_⟩;simp only [go_sem,seval,aQ,aK]
  ·replace h:=bD c15 h;refine bB ?_
   try simp only [aE]
   refine aL fun _ z=>?_;simp only [go_sem,seval,c15];apply z;refine aU ?_
   try simp only [bE,bX]
   obtain rfl:=aJ h;refine ⟨by simp,?_⟩;simp only [go_sem,seval,aQ,aK]
 ·replace h:=bD c14 h;refine aI ?_;obtain ⟨x16,h17,h⟩:=aC h;refine aM fun _ z=>?_;simp only [go_sem,seval,f4,f11,c14];refine SC.by_ (Ax (x7.toNat:Int) _ h17 _ _ _ (by simp only [go_sem])) ?_;simp only [go_sem,seval];apply z;refine dA x16 (fun c18=>?_) (fun c18=>?_)
  ·replace h:=bC c18 h;refine aI ?_;obtain ⟨x19,h20,h⟩:=aC h;refine aM fun _ z=>?_;simp only [go_sem,seval,c18];refine SC.by_ (Dn n x2 _ h20 _ _ _ (by simp only [go_sem])) ?_;simp only [go_sem,seval];apply z;refine aI ?_;refine aL fun _ z=>?_;simp only [go_sem,seval];apply z;refine dA (!x19.2) (fun c21=>?_) (fun c21=>?_)
   ·replace h:=bC c21 h;refine aL fun _ z=>?_;simp only [go_sem,seval,c21];apply z;refine aU ?_
    try simp only [bE,bX]
    obtain rfl:=aJ h;refine ⟨by simp,?_⟩;simp only [go_sem,seval,aQ,aK]
   ·replace h:=bD c21 h;refine bB ?_
    try simp only [aE]
    refine aL fun _ z=>?_;simp only [go_sem,seval,c21];apply z;refine aL fun _ z=>?_;simp only [go_sem,seval];apply z;refine aU ?_
    try simp only [bE,bX]
    obtain rfl:=aJ h;refine ⟨by simp,?_⟩;simp only [go_sem,seval,aQ,aK]
  ·replace h:=bD c18 h;refine bB ?_
   try simp only [aE,aT]
   refine aI ?_;obtain ⟨⟨f23,f24⟩,h⟩:=cK h;obtain ⟨x22,h25,h⟩:=aC h;refine aM fun _ z=>?_;simp only [go_sem,seval,f4,f5,c18];refine SC.by_ (Et n (a0.drop a1.toNat) _ h25 _ _ _ (by simp only [go_sem,hg1])) ?_;simp only [go_sem,seval];apply z;refine aI ?_;refine aL fun _ z=>?_;simp only [go_sem,seval];apply z;refine eK (decide (x22=([]:cD))) (by simp only [go_sem,↓reduceIte]) (fun c26=>?_) (fun c26=>?_)
   ·replace h:=bC c26 h;refine aL fun _ z=>?_;simp only [go_sem,seval,c26];apply z;refine aU ?_
    try simp only [bE]
    obtain rfl:=aJ h;refine ⟨by simp,?_⟩;simp only [go_sem,seval,aQ,aK]
   ·replace h:=bD c26 h;refine bB ?_
    try simp only [aE]
    refine aL fun _ z=>?_;simp only [go_sem,seval,c26];apply z;refine aU ?_;obtain rfl:=aJ h;refine ⟨by simp,?_⟩;simp only [go_sem,seval,aQ,aK]
def Dp (f:cD->Option ((List cV) × Int × Int)):Prop:=∀a0 r,f a0=some r->∀(q:Pa) (m:M) (vs:List V),vs.map V.weak1=[.list .none (lN a0)]/\m.gl 1=.eptr [(cA cS eF)] 0 0->SC Tryd.prog 18 vs q m (fun v m'=>v=.tup [.list .none (r.1.map cV.C),.lit (.int .i64 r.2.1),.lit (.int .i64 r.2.2)]/\m'=m)
theorem Cr (n:Nat):Dp (sX n):=by
 rintro a0 r h q m vs ⟨hv,hg1⟩;refine SC.weak ?_;rw [hv];refine eN Tryd.func18 rfl (fun xs w=>Tryd.call18 xs w) Tryd.ntmps18 (by kernel_rfl) Tryd.results18 ?_;unfold sX at h;refine aL fun _ z=>?_;simp only [go_sem,Nat.reduceAdd];apply z;refine aI ?_;refine aL fun _ z=>?_;simp only [go_sem,seval];apply z;refine eK (decide ((65536:Int)<(a0.length:Int))) (by simp only [go_sem,↓reduceIte]) (fun c1=>?_) (fun c1=>?_)
 ·replace h:=bC c1 h;refine aL fun _ z=>?_;simp only [go_sem,Nat.reduceAdd,c1];apply z;refine aU ?_
  try simp only [bE]
  obtain rfl:=aJ h;refine ⟨by simp,?_⟩;simp only [go_sem,seval,aK]
 ·replace h:=bD c1 h;refine bB ?_
  try simp only [aE]
  refine aL fun _ z=>?_;simp only [go_sem,seval,c1];apply z;refine aL fun _ z=>?_;simp only [go_sem,Nat.reduceAdd];apply z;refine aI ?_;refine aI ?_;obtain ⟨x2,h3,h⟩:=aC h;refine aM fun _ z=>?_;simp only [go_sem,seval];refine SC.by_ (Be n a0 (0:Int) _ h3 _ _ _ (by simp only [go_sem])) ?_;simp only [go_sem,seval];apply z;refine bK ?_;obtain ⟨y7,hy7,h⟩:=aC h;refine wD 6 ([].map cV.C) rfl (by simp only [go_sem,seval]) ?_;refine dE [] [] rfl (fun c E' m'=>∃v5 v6 o_v5 j_v5,mO n a0 c v5 v6=some y7/\E' 5=.lit (.string (bs a0))/\E' 6=.list (.st (.anon o_v5 j_v5)) (v5.map cV.C)/\m'.tok o_v5 j_v5=true/\q <:+ o_v5/\E' 7=.lit (.int .i64 v6)/\m'.gl=m.gl/\m.back q m'=m) n ⟨[],x2,(13::q),0,hy7,?_⟩ ?_
  ·simp only [go_sem,seval,cC,aK]
  rintro i4 c8 E9 m10 ⟨v5,v6,o_v5,j_v5,hy7,e11⟩ _
  rcases c8 with _ | c8
  ·exact absurd hy7 (by rw [mO];exact fun e=>nomatch e)
  rw [mO] at hy7;refine aI ?_;refine aL fun _ z=>?_;simp only [go_sem,seval,e11];apply z;refine eK (decide (v6<(a0.length:Int))) (by simp only [go_sem,↓reduceIte]) (fun c12=>?_) (fun c12=>?_)
  ·replace hy7:=bC c12 hy7;refine bB ?_
   try simp only [aE]
   refine aI ?_;refine bK ?_;refine aI ?_;obtain ⟨x13,h15,hy7⟩:=aC hy7;refine aM fun _ z=>?_;simp only [go_sem,seval,c12,e11];refine SC.by_ (Eu n a0 v6 _ h15 _ _ _ (by simp only [go_sem,e11,hg1])) ?_;simp only [go_sem,seval];apply z;refine aI ?_;refine aL fun _ z=>?_;simp only [go_sem,seval];apply z;refine dA (x13.2 != (0:Int)) (fun c16=>?_) (fun c16=>?_)
   ·replace hy7:=bC c16 hy7;refine aL fun _ z=>?_;simp only [go_sem,seval,c16,e11];apply z;refine aU ?_
    try simp only [bE,bX]
    obtain rfl:=aJ hy7;simp only [Sum.elim_inr] at h;obtain rfl:=aJ h;refine ⟨by simp,?_⟩;simp only [go_sem,seval,aQ,e11]
   ·replace hy7:=bD c16 hy7;refine bB ?_
    try simp only [aE]
    refine aI ?_;obtain ⟨f17,hy7⟩:=cK hy7;have f18:v5.length+1<=1073741824:=by first | omega | (simp only [List.length_append,List.length_cons,List.length_nil] at f17 ⊢;omega)
    have f19:v5.length<=1073741823:=by first | omega | (simp only [List.length_append,List.length_cons,List.length_nil] at f17 ⊢;omega)
    refine aM fun _ z=>?_;simp only [go_sem,seval,c16,f18,e11];apply z;refine gF fun _ z=>?_;simp only [go_sem,seval,e11];apply z;simp only [aE,aT];obtain ⟨x20,h21,hy7⟩:=aC hy7;refine aM fun _ z=>?_;simp only [go_sem,seval,e11];refine SC.by_ (Be n a0 (IntKind.i64.wrap (v6+(x13.1.bP.length:Int))) _ h21 _ _ _ (by simp only [go_sem])) ?_;simp only [go_sem,seval];apply z;refine ⟨c8,Nat.lt_succ_self _,(v5++[x13.1]),x20,(18::i4::14::q),0,hy7,?_⟩;simp only [go_sem,seval,aQ,cC,e11]
  ·replace hy7:=bD c12 hy7;refine eG ?_
   try simp only [bZ,bQ,↓reduceIte,aE]
   obtain rfl:=aJ hy7;simp only [Sum.elim_inl] at h;refine aI ?_;obtain ⟨f22,h⟩:=cK h;have f23:v5.length+1<=1073741824:=by first | omega | (simp only [List.length_append,List.length_cons,List.length_nil] at f22 ⊢;omega)
   have f24:v5.length<=1073741823:=by first | omega | (simp only [List.length_append,List.length_cons,List.length_nil] at f22 ⊢;omega)
   refine aM fun _ z=>?_;simp only [go_sem,seval,c12,f23,e11];apply z;refine aU ?_;obtain rfl:=aJ h;refine ⟨by simp,?_⟩;simp only [go_sem,seval,cC,e11]
def wM (f:aB->Option cV):Prop:=∀a0 r,f a0=some r->∀(q:Pa) (m:M) (vs:List V) (P0:Pa),vs.map V.weak1=[.ptr P0 0]/\m.blk P0=some ((aB.C a0))->SC Tryd.prog 20 vs q m (fun v m'=>v=.agg ((cV.C r))/\m'=m)
theorem eV:wM (dR):=by
 rintro a0 r h q m vs P0 ⟨hv,hmP0⟩;refine SC.weak ?_;rw [hv];refine SC.apart hmP0 fun hpP0=>?_
 try simp only [go_sem] at hmP0
 refine eN Tryd.func20 rfl (fun xs w=>Tryd.call20 xs w) Tryd.ntmps20 (by kernel_rfl) Tryd.results20 ?_;unfold dR at h;refine aL fun _ z=>?_;simp only [go_sem];apply z;refine aI ?_;obtain ⟨x2,h6,h⟩:=aC h;obtain ⟨f3,f4,f5⟩:=bF h6;refine bW (tbl:=[0,1,3,7,0,16,48,112,255,511,1023]) (ord:=[(0,0),(1,0),(2,0),(3,0),(4,0),(5,0),(6,0),(7,0),(8,0),(9,0),(10,0)]) 12 rfl (by kernel_rfl) (by kernel_rfl) fun _ z=>?_;simp only [go_sem,seval,cF hpP0,f3,f4,f5,hmP0];apply z;simp only [aE];refine aU ?_;obtain rfl:=aJ h;refine ⟨by simp,?_⟩;simp only [go_sem,seval,aQ,aK]
def xS (f:aB->Int->Option aB):Prop:=∀a0 a1 r,f a0 a1=some r->∀(q:Pa) (m:M) (vs:List V) (P0:Pa),vs.map V.weak1=[.ptr P0 0,.lit (.int .i64 a1)]/\m.blk P0=some ((aB.C a0))->SC Tryd.prog 31 vs q m (fun v m'=>v=.tup []/\m'=(m.set P0 ((aB.C r))))
theorem jH:xS (fP):=by
 rintro a0 a1 r h q m vs P0 ⟨hv,hmP0⟩;refine SC.weak ?_;rw [hv];refine SC.apart hmP0 fun hpP0=>?_;have hmsP0:=cM hmP0
 try simp only [go_sem] at hmP0 hmsP0
 refine eN Tryd.func31 rfl (fun xs w=>Tryd.call31 xs w) Tryd.ntmps31 (by kernel_rfl) Tryd.results31 ?_;unfold fP at h;refine aL fun _ z=>?_;simp only [go_sem,seval,hmP0];apply z;refine dA (a0.e_ == (0:Int)) (fun c1=>?_) (fun c1=>?_)
 ·replace h:=bC c1 h;obtain ⟨x2,h3,h⟩:=aC h;refine gF fun _ z=>?_;simp only [go_sem,seval,c1];refine SC.by_ (eV a0 _ h3 _ _ _ P0 (by simp only [go_sem,hmP0])) ?_;simp only [go_sem,seval,hmP0];apply z;simp only [];obtain rfl:=aJ h;refine ⟨by simp,?_⟩;simp only [go_sem,aK,aW hpP0]
 ·replace h:=bD c1 h;refine bB ?_;obtain rfl:=aJ h;refine ⟨by simp,?_⟩;simp only [go_sem,aK,hmsP0,c1]
def xP (f:aB->Int->Option (aA × aB)):Prop:=∀a0 a1 r,f a0 a1=some r->∀(q:Pa) (m:M) (vs:List V) (P0:Pa),vs.map V.weak1=[.ptr P0 0,.lit (.int .i64 a1)]/\m.blk P0=some ((aB.C a0))->SC Tryd.prog 19 vs q m (fun v m'=>∃(id:Pa) (j:Nat),q <:+ id/\v=.agg ([.lit (.int .i64 r.1.bN),.lit (.int .i64 r.1.eH),.lit (.string (bs r.1.bP)),.lit (.int .u32 r.1.jC),.list (.st (.anon id j)) (r.1.aN.map aA.C)])/\m'=(m.set P0 ((aB.C r.2))).tokset id j true)
theorem fF:xP (dX):=by
 rintro a0 a1 r h q m vs P0 ⟨hv,hmP0⟩;refine SC.weak ?_;rw [hv];refine SC.apart hmP0 fun hpP0=>?_;have hmsP0:=cM hmP0
 try simp only [go_sem] at hmP0 hmsP0
 refine JN Tryd.func19 rfl (fun xs w=>Tryd.call19 xs w) Tryd.ntmps19 (by kernel_rfl) ?_;unfold dX at h;refine aL fun _ z=>?_;simp only [go_sem];apply z;refine aI ?_;refine aL fun _ z=>?_;simp only [go_sem,seval,cF hpP0,hmP0];apply z;refine aL fun _ z=>?_;simp only [go_sem,seval];apply z;refine eK (decide ((16384:Int)<(IntKind.i64.wrap (a0.nV+(1:Int))))) (by simp only [go_sem,↓reduceIte]) (fun c2=>?_) (fun c2=>?_)
 ·replace h:=bC c2 h;obtain ⟨x3,h4,h⟩:=aC h;refine aM fun _ z=>?_;simp only [go_sem,seval,c2];refine SC.by_ (jH ({ a0 with nV:=(IntKind.i64.wrap (a0.nV+(1:Int))) }:aB) (136:Int) _ h4 _ _ _ P0 (by simp only [go_sem,↓reduceIte])) ?_;simp only [go_sem,Nat.reduceAdd];apply z;refine aI ?_;obtain ⟨x5,h6,h⟩:=aC h;refine aM fun _ z=>?_;simp only [go_sem,seval];refine SC.by_ (eV x3 _ h6 _ _ _ P0 (by simp only [go_sem,↓reduceIte])) ?_;simp only [go_sem,seval,cF hpP0];apply z;refine aU ?_;obtain rfl:=aJ h;refine ⟨by simp,?_⟩;refine ⟨(22::q),0,_,(by simp only [go_sem]),.cell (t:=4) (T:=47) (b:=(0::q)) (cs:=[.lit (.int .i64 a1),.lit (.int .i64 x5.eH),.lit (.string (bs [])),.lit (.int .u32 (0:Int)),.list .self ([].map aA.C)]) (off:=4) (rows:=([].map aA.C)) (congrArg Array.toList Tryd.results19) (by simp only [go_sem,seval]) (by simp only [go_sem]) (by simp only [go_sem,↓reduceIte]) (by simp only [go_sem]) (by simp only [go_sem,Nat.reduceAdd]) rfl,(22::q),0,(by simp only [go_sem]),?_,?_⟩ <;> simp only [go_sem,aQ,cQ,aK,aW hpP0]
 ·replace h:=bD c2 h;refine bB ?_
  try simp only [aE]
  refine aI ?_;obtain ⟨x7,h8,h⟩:=aC h;refine aM fun _ z=>?_;simp only [go_sem,seval,c2];refine SC.by_ (eV ({ a0 with nV:=(IntKind.i64.wrap (a0.nV+(1:Int))) }:aB) _ h8 _ _ _ P0 (by simp only [go_sem,↓reduceIte])) ?_;simp only [go_sem,seval,cF hpP0];apply z;refine aU ?_;obtain rfl:=aJ h;refine ⟨by simp,?_⟩;refine ⟨(20::q),0,_,(by simp only [go_sem]),.cell (t:=4) (T:=47) (b:=(0::q)) (cs:=[.lit (.int .i64 a1),.lit (.int .i64 x7.eH),.lit (.string (bs [])),.lit (.int .u32 (0:Int)),.list .self ([].map aA.C)]) (off:=4) (rows:=([].map aA.C)) (congrArg Array.toList Tryd.results19) (by simp only [go_sem,seval]) (by simp only [go_sem]) (by simp only [go_sem,↓reduceIte]) (by simp only [go_sem]) (by simp only [go_sem,Nat.reduceAdd]) rfl,(20::q),0,(by simp only [go_sem]),?_,?_⟩ <;> simp only [go_sem,aQ,cQ,aK,aW hpP0]
def qT (f:(List cD)->cD->Option Int):Prop:=∀a0 a1 r,f a0 a1=some r->∀(q:Pa) (m:M) (vs:List V),vs.map V.weak1=[.list .none (a0.map cS),.lit (.string (bs a1))]->SC Tryd.prog 85 vs q m (fun v m'=>v=.lit (.int .i64 r)/\m'=m)
theorem qL (n:Nat):qT (iQ n):=by
 intro a0 a1 r h q m vs hv;refine SC.weak ?_;rw [hv];refine eN Tryd.func85 rfl (fun xs w=>Tryd.call85 xs w) Tryd.ntmps85 (by kernel_rfl) Tryd.results85 ?_;unfold iQ at h;refine aL fun _ z=>?_;simp only [go_sem];apply z;refine aI ?_;refine aL fun _ z=>?_;simp only [go_sem,seval];apply z;refine bK ?_;obtain ⟨y3,hy3,h⟩:=aC h;refine dE [] [] rfl (fun c E' m'=>∃v2,dU a0 a1 c v2=some y3/\E' 0=.list .none (a0.map cS)/\E' 1=.lit (.string (bs a1))/\E' 7=.lit (.int .i64 (a0.length:Int))/\E' 8=.lit (.int .i64 v2)/\m'.gl=m.gl/\m.back q m'=m) n ⟨(0:Int),hy3,?_⟩ ?_
 ·simp only [go_sem,seval,aK]
 rintro i1 c4 E5 m6 ⟨v2,hy3,e7⟩ _
 rcases c4 with _ | c4
 ·exact absurd hy3 (by rw [dU];exact fun e=>nomatch e)
 rw [dU] at hy3;refine aL fun _ z=>?_;simp only [go_sem,e7];apply z;refine aI ?_;refine eK (decide (v2<(a0.length:Int))) (by simp only [go_sem,↓reduceIte]) (fun c8=>?_) (fun c8=>?_)
 ·replace hy3:=bC c8 hy3;refine bB ?_
  try simp only [aE]
  refine aI ?_;refine bK ?_;refine aL fun _ z=>?_;simp only [go_sem,seval,c8,e7];apply z;refine aI ?_;obtain ⟨x9,h13,hy3⟩:=aC hy3;obtain ⟨f10,f11,f12⟩:=bF h13;refine aM fun _ z=>?_;simp only [go_sem,seval,f10,f11,f12,e7];apply z;refine dA (decide (a1=x9)) (fun c14=>?_) (fun c14=>?_)
  ·replace hy3:=bC c14 hy3;refine aL fun _ z=>?_;simp only [go_sem,seval,c14];apply z;refine aU ?_
   try simp only [bE,bX]
   obtain rfl:=aJ hy3;simp only [Sum.elim_inr] at h;obtain rfl:=aJ h;refine ⟨by simp,?_⟩;simp only [go_sem,↓reduceIte,e7]
  ·replace hy3:=bD c14 hy3;refine bB ?_
   try simp only [aE,aT]
   refine aM fun _ z=>?_;simp only [go_sem,seval,c14,e7];apply z;refine ⟨c4,Nat.lt_succ_self _,(IntKind.i64.wrap (v2+(1:Int))),hy3,?_⟩;simp only [go_sem,seval,e7]
 ·replace hy3:=bD c8 hy3;refine eG ?_
  try simp only [bZ,bQ,↓reduceIte,aE]
  obtain rfl:=aJ hy3;simp only [Sum.elim_inl] at h;refine aL fun _ z=>?_;simp only [go_sem,Nat.reduceAdd,c8];apply z;refine aU ?_;obtain rfl:=aJ h;refine ⟨by simp,?_⟩;simp only [go_sem,↓reduceIte,e7]
def pU (f:(List cD)->cD->Option Bool):Prop:=∀a0 a1 r,f a0 a1=some r->∀(q:Pa) (m:M) (vs:List V),vs.map V.weak1=[.list .none (a0.map cS),.lit (.string (bs a1))]->SC Tryd.prog 65 vs q m (fun v m'=>v=.lit (.bool r)/\m'=m)
theorem pF (n:Nat):pU (gU n):=by
 intro a0 a1 r h q m vs hv;refine SC.weak ?_;rw [hv];refine eN Tryd.func65 rfl (fun xs w=>Tryd.call65 xs w) Tryd.ntmps65 (by kernel_rfl) Tryd.results65 ?_;unfold gU at h;refine aL fun _ z=>?_;simp only [go_sem];apply z;refine aI ?_;obtain ⟨x1,h2,h⟩:=aC h;refine aM fun _ z=>?_;simp only [go_sem,seval];refine SC.by_ (qL n a0 a1 _ h2 _ _ _ (by simp only [go_sem])) ?_;simp only [go_sem,seval];apply z;refine aU ?_;obtain rfl:=aJ h;refine ⟨by simp,?_⟩;simp only [go_sem,↓reduceIte,aK]
def Dk (f:cD->Option Bool):Prop:=∀a0 r,f a0=some r->∀(q:Pa) (m:M) (vs:List V),vs.map V.weak1=[.lit (.string (bs a0))]/\m.gl 2=.eptr [(cA cS bT)] 0 0->SC Tryd.prog 50 vs q m (fun v m'=>v=.lit (.bool r)/\m'=m)
theorem zU (n:Nat):Dk (qV n):=by
 rintro a0 r h q m vs ⟨hv,hg2⟩;refine SC.weak ?_;rw [hv];refine eN Tryd.func50 rfl (fun xs w=>Tryd.call50 xs w) Tryd.ntmps50 (by kernel_rfl) Tryd.results50 ?_;unfold qV at h;refine aL fun _ z=>?_;simp only [go_sem];apply z;refine aI ?_;obtain ⟨x1,h2,h⟩:=aC h;refine aM fun _ z=>?_;simp only [go_sem,seval,Int.reduceToNat,hg2];refine SC.by_ (pF n bT a0 _ h2 _ _ _ (by simp only [go_sem])) ?_;simp only [go_sem,seval];apply z;refine aU ?_;obtain rfl:=aJ h;refine ⟨by simp,?_⟩;simp only [go_sem,↓reduceIte,aK]
def zQ (f:aB->cD->Option Bool):Prop:=∀a0 a1 r,f a0 a1=some r->∀(q:Pa) (m:M) (vs:List V) (P0:Pa),vs.map V.weak1=[.ptr P0 0,.lit (.string (bs a1))]/\m.blk P0=some ((aB.C a0))/\m.gl 2=.eptr [(cA cS bT)] 0 0->SC Tryd.prog 49 vs q m (fun v m'=>v=.lit (.bool r)/\m'=m)
theorem kZ (n:Nat):zQ (gO n):=by
 rintro a0 a1 r h q m vs P0 ⟨hv,hmP0,hg2⟩;refine SC.weak ?_;rw [hv];refine SC.apart hmP0 fun hpP0=>?_
 try simp only [go_sem] at hmP0
 refine eN Tryd.func49 rfl (fun xs w=>Tryd.call49 xs w) Tryd.ntmps49 (by kernel_rfl) Tryd.results49 ?_;unfold gO at h;refine aL fun _ z=>?_;simp only [go_sem];apply z;refine aI ?_;obtain ⟨x1,h3,h⟩:=aC h;refine aM fun _ z=>?_;simp only [go_sem,seval];refine SC.by_ (eV a0 _ h3 _ _ _ P0 (by simp only [go_sem,hmP0])) ?_;simp only [go_sem,seval];apply z;refine aI ?_;obtain ⟨y4,hy4,h⟩:=aC h;refine cZ 31 [] [] rfl (fun E' m'=>E' 4=.lit (.bool y4)/\m'.blk P0=some ((aB.C a0))/\m'.gl=m.gl/\m.back q m'=m) ?_ ?_
 ·rcases cY (a0.e_ == (0:Int)) with c5 | c5
  ·replace hy4:=bC c5 hy4
   rcases cY (decide (x1.bP=a1)) with c6 | c6
   ·replace hy4:=bC c6 hy4
    rcases cY (x1.bN == (3:Int)) with c7 | c7
    ·replace hy4:=bC c7 hy4;refine aM fun _ z=>?_;simp only [go_sem,seval,cF hpP0,c5,c6,c7,hmP0];apply z;obtain rfl:=aJ hy4;refine ⟨by decide,?_⟩;simp only [go_sem,↓reduceIte,aQ,aK,cF hpP0,hmP0]
    ·replace hy4:=bD c7 hy4
     rcases cY (x1.bN == (1:Int)) with c8 | c8
     ·replace hy4:=bC c8 hy4;obtain ⟨x9,h10,hy4⟩:=aC hy4;refine aM fun _ z=>?_;simp only [go_sem,seval,cF hpP0,c5,c6,c7,c8,hmP0];refine SC.by_ (zU n a1 _ h10 _ _ _ (by simp only [go_sem,hg2])) ?_;simp only [go_sem,seval];apply z;obtain rfl:=aJ hy4;refine ⟨by decide,?_⟩;simp only [go_sem,↓reduceIte,aQ,aK,cF hpP0,hmP0]
     ·replace hy4:=bD c8 hy4;refine aM fun _ z=>?_;simp only [go_sem,seval,cF hpP0,c5,c6,c7,c8,hmP0];apply z;obtain rfl:=aJ hy4;refine ⟨by decide,?_⟩;simp only [go_sem,↓reduceIte,aQ,aK,cF hpP0,hmP0]
   ·replace hy4:=bD c6 hy4;refine aM fun _ z=>?_;simp only [go_sem,seval,cF hpP0,c5,c6,hmP0];apply z;obtain rfl:=aJ hy4;refine ⟨by decide,?_⟩;simp only [go_sem,↓reduceIte,aQ,aK,cF hpP0,hmP0]
  ·replace hy4:=bD c5 hy4;refine aM fun _ z=>?_;simp only [go_sem,seval,cF hpP0,c5,hmP0];apply z;obtain rfl:=aJ hy4;refine ⟨by decide,?_⟩;simp only [go_sem,↓reduceIte,aQ,aK,cF hpP0,hmP0]
 ·intro E11 m12 e13 _;simp only [aE];refine aU ?_;obtain rfl:=aJ h;refine ⟨by simp,?_⟩;simp only [go_sem,e13]
def xM (f:aB->cD->Option (Bool × aB)):Prop:=∀a0 a1 r,f a0 a1=some r->∀(q:Pa) (m:M) (vs:List V) (P0:Pa),vs.map V.weak1=[.ptr P0 0,.lit (.string (bs a1))]/\m.blk P0=some ((aB.C a0))/\m.gl 2=.eptr [(cA cS bT)] 0 0->SC Tryd.prog 32 vs q m (fun v m'=>v=.lit (.bool r.1)/\m'=(m.set P0 ((aB.C r.2))))
theorem bL (n:Nat):xM (bJ n):=by
 rintro a0 a1 r h q m vs P0 ⟨hv,hmP0,hg2⟩;refine SC.weak ?_;rw [hv];refine SC.apart hmP0 fun hpP0=>?_;have hmsP0:=cM hmP0
 try simp only [go_sem] at hmP0 hmsP0
 refine eN Tryd.func32 rfl (fun xs w=>Tryd.call32 xs w) Tryd.ntmps32 (by kernel_rfl) Tryd.results32 ?_;unfold bJ at h;refine aL fun _ z=>?_;simp only [go_sem];apply z;refine aI ?_;refine aI ?_;obtain ⟨x1,h2,h⟩:=aC h;refine aM fun _ z=>?_;simp only [go_sem,seval];refine SC.by_ (kZ n a0 a1 _ h2 _ _ _ P0 (by simp only [go_sem,hmP0,hg2])) ?_;simp only [go_sem,seval];apply z;refine dA (!x1) (fun c3=>?_) (fun c3=>?_)
 ·replace h:=bC c3 h;refine aL fun _ z=>?_;simp only [go_sem,Nat.reduceAdd,c3];apply z;refine aU ?_
  try simp only [bE]
  obtain rfl:=aJ h;refine ⟨by simp,?_⟩;simp only [go_sem,↓reduceIte,aK,hmsP0]
 ·replace h:=bD c3 h;refine bB ?_
  try simp only [aE]
  refine aL fun _ z=>?_;simp only [go_sem,seval,c3,hmP0];apply z;refine aL fun _ z=>?_;simp only [go_sem,Nat.reduceAdd];apply z;refine aU ?_;obtain rfl:=aJ h;refine ⟨by simp,?_⟩;simp only [go_sem,↓reduceIte,aK,aW hpP0]
def xQ (f:aB->cD->Option aB):Prop:=∀a0 a1 r,f a0 a1=some r->∀(q:Pa) (m:M) (vs:List V) (P0:Pa),vs.map V.weak1=[.ptr P0 0,.lit (.string (bs a1))]/\m.blk P0=some ((aB.C a0))/\m.gl 2=.eptr [(cA cS bT)] 0 0->SC Tryd.prog 33 vs q m (fun v m'=>v=.tup []/\m'=(m.set P0 ((aB.C r))))
theorem bH (n:Nat):xQ (bG n):=by
 rintro a0 a1 r h q m vs P0 ⟨hv,hmP0,hg2⟩;refine SC.weak ?_;rw [hv];refine SC.apart hmP0 fun hpP0=>?_;have hmsP0:=cM hmP0
 try simp only [go_sem] at hmP0 hmsP0
 refine eN Tryd.func33 rfl (fun xs w=>Tryd.call33 xs w) Tryd.ntmps33 (by kernel_rfl) Tryd.results33 ?_;unfold bG at h;refine aI ?_;obtain ⟨x1,h2,h⟩:=aC h;refine aM fun _ z=>?_;simp only [go_sem,seval];refine SC.by_ (bL n a0 a1 _ h2 _ _ _ P0 (by simp only [go_sem,hmP0,hg2])) ?_;simp only [go_sem,seval];apply z;refine dA (!x1.1) (fun c3=>?_) (fun c3=>?_)
 ·replace h:=bC c3 h;obtain ⟨x4,h5,h⟩:=aC h;refine gF fun _ z=>?_;simp only [go_sem,seval,c3];refine SC.by_ (jH x1.2 (110:Int) _ h5 _ _ _ P0 (by simp only [go_sem,↓reduceIte])) ?_;simp only [go_sem,Nat.reduceAdd];apply z;simp only [];obtain rfl:=aJ h;refine ⟨by simp,?_⟩;simp only [go_sem,aK,aW hpP0]
 ·replace h:=bD c3 h;refine bB ?_;obtain rfl:=aJ h;refine ⟨by simp,?_⟩;simp only [go_sem,aK,aW hpP0,c3]
def xR (f:aB->Option (cD × aB)):Prop:=∀a0 r,f a0=some r->∀(q:Pa) (m:M) (vs:List V) (P0:Pa),vs.map V.weak1=[.ptr P0 0]/\m.blk P0=some ((aB.C a0))/\m.gl 2=.eptr [(cA cS bT)] 0 0->SC Tryd.prog 34 vs q m (fun v m'=>v=.lit (.string (bs r.1))/\m'=(m.set P0 ((aB.C r.2))))
theorem fG (n:Nat):xR (dN n):=by
 rintro a0 r h q m vs P0 ⟨hv,hmP0,hg2⟩;refine SC.weak ?_;rw [hv];refine SC.apart hmP0 fun hpP0=>?_;have hmsP0:=cM hmP0
 try simp only [go_sem] at hmP0 hmsP0
 refine eN Tryd.func34 rfl (fun xs w=>Tryd.call34 xs w) Tryd.ntmps34 (by kernel_rfl) Tryd.results34 ?_;unfold dN at h;refine aL fun _ z=>?_;simp only [go_sem];apply z;refine aI ?_;obtain ⟨x1,h3,h⟩:=aC h;refine aM fun _ z=>?_;simp only [go_sem,seval];refine SC.by_ (eV a0 _ h3 _ _ _ P0 (by simp only [go_sem,hmP0])) ?_;simp only [go_sem,seval];apply z;refine aI ?_;refine aI ?_;obtain ⟨y4,hy4,h⟩:=aC h;refine cZ 20 [] [] rfl (fun E' m'=>E' 0=.ptr P0 0/\E' 3=.ptr (3::q) 0/\E' 20=.lit (.bool y4)/\m'.blk P0=some ((aB.C a0))/\m'.blk (3::q)=some ((cV.C x1))/\m'.gl=m.gl/\m.back q m'=(m.set P0 ((aB.C a0)))) ?_ ?_
 ·rcases cY (a0.e_ != (0:Int)) with c5 | c5
  ·replace hy4:=bC c5 hy4;refine aM fun _ z=>?_;simp only [go_sem,seval,cF hpP0,c5,hmP0];apply z;obtain rfl:=aJ hy4;refine ⟨by decide,?_⟩;simp only [go_sem,seval,aQ,aK,hmsP0,cF hpP0,hmP0]
  ·replace hy4:=bD c5 hy4
   rcases cY (x1.bN != (1:Int)) with c6 | c6
   ·replace hy4:=bC c6 hy4;refine aM fun _ z=>?_;simp only [go_sem,seval,cF hpP0,c5,c6,hmP0];apply z;obtain rfl:=aJ hy4;refine ⟨by decide,?_⟩;simp only [go_sem,seval,aQ,aK,hmsP0,cF hpP0,hmP0]
   ·replace hy4:=bD c6 hy4;obtain ⟨x7,h8,hy4⟩:=aC hy4;refine aM fun _ z=>?_;simp only [go_sem,seval,cF hpP0,c5,c6,hmP0];refine SC.by_ (zU n x1.bP _ h8 _ _ _ (by simp only [go_sem,hg2])) ?_;simp only [go_sem,seval];apply z;obtain rfl:=aJ hy4;refine ⟨by decide,?_⟩;simp only [go_sem,seval,aQ,aK,hmsP0,cF hpP0,hmP0]
 ·intro E9 m10 e11 _;simp only [aE];refine eK y4 (by simp only [go_sem,e11]) (fun c12=>?_) (fun c12=>?_)
  ·replace h:=bC c12 h;refine aI ?_;obtain ⟨x13,h14,h⟩:=aC h;refine aM fun _ z=>?_;simp only [go_sem,seval,e11];refine SC.by_ (jH a0 (110:Int) _ h14 _ _ _ P0 (by simp only [go_sem,e11])) ?_;simp only [go_sem,Nat.reduceAdd];apply z;refine aL fun _ z=>?_;simp only [go_sem,Nat.reduceAdd];apply z;refine aU ?_
   try simp only [bE]
   obtain rfl:=aJ h;refine ⟨by simp,?_⟩;simp only [go_sem,↓reduceIte,aW hpP0,hmsP0,e11]
  ·replace h:=bD c12 h;refine bB ?_
   try simp only [aE]
   refine aL fun _ z=>?_;simp only [go_sem,seval,e11];apply z;refine aL fun _ z=>?_;simp only [go_sem,seval,cF hpP0,e11];apply z;refine aU ?_;obtain rfl:=aJ h;refine ⟨by simp,?_⟩;simp only [go_sem,↓reduceIte,aW hpP0,hmsP0,e11]
def vJ (f:aB->Option (Int × aB)):Prop:=∀a0 r,f a0=some r->∀(q:Pa) (m:M) (vs:List V) (P0:Pa),vs.map V.weak1=[.ptr P0 0]/\m.blk P0=some ((aB.C a0))->SC Tryd.prog 66 vs q m (fun v m'=>v=.lit (.int .u32 r.1)/\m'=(m.set P0 ((aB.C r.2))))
theorem oV:vJ (iH):=by
 rintro a0 r h q m vs P0 ⟨hv,hmP0⟩;refine SC.weak ?_;rw [hv];refine SC.apart hmP0 fun hpP0=>?_;have hmsP0:=cM hmP0
 try simp only [go_sem] at hmP0 hmsP0
 refine eN Tryd.func66 rfl (fun xs w=>Tryd.call66 xs w) Tryd.ntmps66 (by kernel_rfl) Tryd.results66 ?_;unfold iH at h;refine aL fun _ z=>?_;simp only [go_sem];apply z;refine aI ?_;obtain ⟨x1,h3,h⟩:=aC h;refine aM fun _ z=>?_;simp only [go_sem,seval];refine SC.by_ (eV a0 _ h3 _ _ _ P0 (by simp only [go_sem,hmP0])) ?_;simp only [go_sem,seval];apply z;refine aI ?_;refine aI ?_;obtain ⟨y4,hy4,h⟩:=aC h;refine cZ 15 [] [] rfl (fun E' m'=>E' 0=.ptr P0 0/\E' 3=.ptr (3::q) 0/\E' 15=.lit (.bool y4)/\m'.blk P0=some ((aB.C a0))/\m'.blk (3::q)=some ((cV.C x1))/\m'.gl=m.gl/\m.back q m'=(m.set P0 ((aB.C a0)))) ?_ ?_
 ·rcases cY (a0.e_ != (0:Int)) with c5 | c5
  ·replace hy4:=bC c5 hy4;refine aM fun _ z=>?_;simp only [go_sem,seval,cF hpP0,c5,hmP0];apply z;obtain rfl:=aJ hy4;refine ⟨by decide,?_⟩;simp only [go_sem,seval,aQ,aK,hmsP0,cF hpP0,hmP0]
  ·replace hy4:=bD c5 hy4;refine aM fun _ z=>?_;simp only [go_sem,seval,cF hpP0,c5,hmP0];apply z;obtain rfl:=aJ hy4;refine ⟨by decide,?_⟩;simp only [go_sem,seval,aQ,aK,hmsP0,cF hpP0,hmP0]
 ·intro E6 m7 e8 _;simp only [aE];refine eK y4 (by simp only [go_sem,e8]) (fun c9=>?_) (fun c9=>?_)
  ·replace h:=bC c9 h;refine aI ?_;obtain ⟨x10,h11,h⟩:=aC h;refine aM fun _ z=>?_;simp only [go_sem,seval,e8];refine SC.by_ (jH a0 (110:Int) _ h11 _ _ _ P0 (by simp only [go_sem,e8])) ?_;simp only [go_sem,Nat.reduceAdd];apply z;refine aL fun _ z=>?_;simp only [go_sem,Nat.reduceAdd];apply z;refine aU ?_
   try simp only [bE]
   obtain rfl:=aJ h;refine ⟨by simp,?_⟩;simp only [go_sem,↓reduceIte,aW hpP0,hmsP0,e8]
  ·replace h:=bD c9 h;refine bB ?_
   try simp only [aE]
   refine aL fun _ z=>?_;simp only [go_sem,seval,e8];apply z;refine aL fun _ z=>?_;simp only [go_sem,seval,cF hpP0,e8];apply z;refine aU ?_;obtain rfl:=aJ h;refine ⟨by simp,?_⟩;simp only [go_sem,↓reduceIte,aW hpP0,hmsP0,e8]
def xN (f:aB->Option (Int × aB)):Prop:=∀a0 r,f a0=some r->∀(q:Pa) (m:M) (vs:List V) (P0:Pa),vs.map V.weak1=[.ptr P0 0]/\m.blk P0=some ((aB.C a0))/\m.gl 2=.eptr [(cA cS bT)] 0 0->SC Tryd.prog 51 vs q m (fun v m'=>v=.lit (.int .u32 r.1)/\m'=(m.set P0 ((aB.C r.2))))
theorem pY (n:Nat):xN (jR n):=by
 rintro a0 r h q m vs P0 ⟨hv,hmP0,hg2⟩;refine SC.weak ?_;rw [hv];refine SC.apart hmP0 fun hpP0=>?_;have hmsP0:=cM hmP0
 try simp only [go_sem] at hmP0 hmsP0
 refine eN Tryd.func51 rfl (fun xs w=>Tryd.call51 xs w) Tryd.ntmps51 (by kernel_rfl) Tryd.results51 ?_;unfold jR at h;refine aL fun _ z=>?_;simp only [go_sem];apply z;refine aI ?_;obtain ⟨x1,h2,h⟩:=aC h;refine aM fun _ z=>?_;simp only [go_sem,seval];refine SC.by_ (bH n a0 ([91]:cD) _ h2 _ _ _ P0 (by simp only [go_sem,hmP0,hg2])) ?_;simp only [go_sem,Nat.reduceAdd];apply z;refine aI ?_;obtain ⟨x3,h4,h⟩:=aC h;refine aM fun _ z=>?_;simp only [go_sem,seval];refine SC.by_ (oV x1 _ h4 _ _ _ P0 (by simp only [go_sem,↓reduceIte])) ?_;simp only [go_sem,seval];apply z;refine aI ?_;obtain ⟨x5,h6,h⟩:=aC h;refine aM fun _ z=>?_;simp only [go_sem,seval];refine SC.by_ (bH n x3.2 ([93]:cD) _ h6 _ _ _ P0 (by simp only [go_sem,↓reduceIte,hg2])) ?_;simp only [go_sem,Nat.reduceAdd];apply z;refine aL fun _ z=>?_;simp only [go_sem,seval];apply z;refine aU ?_;obtain rfl:=aJ h;refine ⟨by simp,?_⟩;simp only [go_sem,↓reduceIte,aK,aW hpP0]
def wO (f:aB->Option (aA × aB)):Prop:=∀a0 r,f a0=some r->∀(q:Pa) (m:M) (vs:List V) (P0:Pa),vs.map V.weak1=[.ptr P0 0]/\m.blk P0=some ((aB.C a0))/\m.gl 2=.eptr [(cA cS bT)] 0 0->SC Tryd.prog 36 vs q m (fun v m'=>v=.agg ((aA.C r.1))/\m'=(m.set P0 ((aB.C r.2))))
theorem vI (n:Nat):wO (kY n):=by
 rintro a0 r h q m vs P0 ⟨hv,hmP0,hg2⟩;refine SC.weak ?_;rw [hv];refine SC.apart hmP0 fun hpP0=>?_;have hmsP0:=cM hmP0
 try simp only [go_sem] at hmP0 hmsP0
 refine eN Tryd.func36 rfl (fun xs w=>Tryd.call36 xs w) Tryd.ntmps36 (by kernel_rfl) Tryd.results36 ?_;unfold kY at h;refine aL fun _ z=>?_;simp only [go_sem];apply z;refine aI ?_;obtain ⟨x2,h4,h⟩:=aC h;refine aM fun _ z=>?_;simp only [go_sem,seval];refine SC.mono (fF a0 (3:Int) _ h4 _ _ _ P0 (by simp only [go_sem,↓reduceIte,fZ hpP0,hmP0])) ?_;rintro _ _ ⟨o_x2,j_x2,s_x2,rfl,rfl⟩;replace s_x2:q <:+ o_x2:=List.IsSuffix.trans (by simp only [go_sem]) s_x2;simp only [go_sem,seval];apply z;refine aI ?_;obtain ⟨x5,h6,h⟩:=aC h;refine aM fun _ z=>?_;simp only [go_sem,seval];refine SC.by_ (fG n x2.2 _ h6 _ _ _ P0 (by simp only [go_sem,↓reduceIte,fZ hpP0,hg2])) ?_;simp only [go_sem,seval,fZ hpP0];apply z;refine aI ?_;obtain ⟨x7,h8,h⟩:=aC h;refine aM fun _ z=>?_;simp only [go_sem,seval];refine SC.by_ (bH n x5.2 ([58]:cD) _ h8 _ _ _ P0 (by simp only [go_sem,↓reduceIte,fZ hpP0,hg2])) ?_;simp only [go_sem,Nat.reduceAdd];apply z;refine aI ?_;refine aL fun _ z=>?_;simp only [go_sem,seval];apply z;refine bK ?_;obtain ⟨y14,hy14,h⟩:=aC h;refine dE [] [] rfl (fun c E' m'=>∃v10 v11 v12 v13,fR n c v10 v11 v12 v13=some y14/\E' 0=.ptr P0 0/\E' 2=.ptr (0::q) 0/\E' 3=.ptr (3::q) 0/\E' 14=.agg ((cA cS mT))/\E' 15=.lit (.int .i64 v10)/\m'.blk P0=some ((aB.C v11))/\m'.blk (0::q)=some ([.lit (.int .i64 v12.bN),.lit (.int .i64 v12.eH),.lit (.string (bs v12.bP)),.lit (.int .u32 v12.jC),.list .self (v12.aN.map aA.C)])/\m'.blk (3::q)=some ([.lit (.int .i64 v13.bN),.lit (.int .i64 v13.eH),.lit (.string (bs v13.bP)),.lit (.int .u32 v13.jC),.list .self (v13.aN.map aA.C)])/\m'.gl=m.gl/\m.back q m'=(m.set P0 ((aB.C v11)))) n ⟨(0:Int),x7,(aA.mk (0:Int) (0:Int) [] (0:Int) []),({ x2.1 with bP:=x5.1 }:aA),hy14,?_⟩ ?_
 ·(simp only [go_sem,seval,aQ,cQ,cC,aK,aW hpP0,fZ hpP0,s_x2]) <;> (try and_intros) <;> rfl
 rintro i9 c15 E16 m17 ⟨v10,v11,v12,v13,hy14,e18⟩ _
 rcases c15 with _ | c15
 ·exact absurd hy14 (by rw [fR];exact fun e=>nomatch e)
 rw [fR] at hy14;refine aL fun _ z=>?_;simp only [go_sem,e18];apply z;refine aI ?_;refine eK (decide (v10<(3:Int))) (by simp only [go_sem,↓reduceIte]) (fun c19=>?_) (fun c19=>?_)
 ·replace hy14:=bC c19 hy14;refine bB ?_
  try simp only [aE]
  refine aI ?_;refine bK ?_;refine aI ?_;obtain ⟨x20,h24,hy14⟩:=aC hy14;obtain ⟨f21,f22,f23⟩:=bF h24;have f25:v10<(3:Int):=f22;obtain ⟨w26,d27⟩:=zJ (f:=cS) (s:=1) (fun _ _=>rfl) f23;simp only [go_sem] at d27;have d28:List.drop (v10.toNat) [V.lit (.string (bs ([112,117,98]:cD))),V.lit (.string (bs ([117,51,50]:cD))),V.lit (.string (bs ([117,54,52]:cD)))]=_:=d27;refine aM fun _ z=>?_;simp only [go_sem,seval,f21,f25,d27,e18];apply z;refine aI ?_;obtain ⟨x29,h30,hy14⟩:=aC hy14;refine aM fun _ z=>?_;simp only [go_sem,seval,e18];refine SC.by_ (bL n v11 x20 _ h30 _ _ _ P0 (by simp only [go_sem,e18,hg2])) ?_;simp only [go_sem,Nat.reduceAdd];apply z;refine dA x29.1 (fun c31=>?_) (fun c31=>?_)
  ·replace hy14:=bC c31 hy14;refine aL fun _ z=>?_;simp only [go_sem,seval,fZ hpP0,c31,e18];apply z;refine aL fun _ z=>?_;simp only [go_sem,seval,fZ hpP0,e18];apply z;refine aU ?_
   try simp only [bE,bX]
   obtain rfl:=aJ hy14;simp only [Sum.elim_inr] at h;obtain rfl:=aJ h;refine ⟨by simp,?_⟩;simp only [go_sem,seval,aQ,aW hpP0,e18]
  ·replace hy14:=bD c31 hy14;refine bB ?_
   try simp only [aE,aT]
   refine aM fun _ z=>?_;simp only [go_sem,seval,c31,e18];apply z;refine ⟨c15,Nat.lt_succ_self _,(IntKind.i64.wrap (v10+(1:Int))),x29.2,v12,v13,hy14,?_⟩
   (simp only [go_sem,seval,aW hpP0,fZ hpP0,e18]) <;> (try and_intros) <;> rfl
 ·replace hy14:=bD c19 hy14;refine eG ?_
  try simp only [bZ,bQ,↓reduceIte,aE]
  obtain rfl:=aJ hy14;simp only [Sum.elim_inl] at h;refine aL fun _ z=>?_;simp only [go_sem,seval,c19,e18];apply z;refine aI ?_;obtain ⟨x32,h34,h⟩:=aC h;refine aM fun _ z=>?_;simp only [go_sem,seval,e18];refine SC.mono (fF v11 (14:Int) _ h34 _ _ _ P0 (by simp only [go_sem,↓reduceIte,fZ hpP0,e18])) ?_;rintro _ _ ⟨o_x32,j_x32,s_x32,rfl,rfl⟩;replace s_x32:q <:+ o_x32:=List.IsSuffix.trans (by simp only [go_sem]) s_x32;simp only [go_sem,seval];apply z;refine aI ?_;obtain ⟨x35,h36,h⟩:=aC h;refine aM fun _ z=>?_;simp only [go_sem,seval,e18];refine SC.by_ (pY n x32.2 _ h36 _ _ _ P0 (by simp only [go_sem,↓reduceIte,fZ hpP0,e18,hg2])) ?_;simp only [go_sem,seval,fZ hpP0];apply z;refine aL fun _ z=>?_;simp only [go_sem,seval,fZ hpP0,e18];apply z;refine aL fun _ z=>?_;simp only [go_sem,seval,fZ hpP0,e18];apply z;refine aU ?_;obtain rfl:=aJ h;refine ⟨by simp,?_⟩;simp only [go_sem,seval,aQ,cQ,cC,aW hpP0,s_x32,e18]
def rY (f:aB->Option ((List aA) × aB)):Prop:=∀a0 r,f a0=some r->∀(q:Pa) (m:M) (vs:List V) (P0:Pa),vs.map V.weak1=[.ptr P0 0,.fn (.func 36) [.ptr P0 0] []]/\m.blk P0=some ((aB.C a0))/\m.gl 2=.eptr [(cA cS bT)] 0 0->SC Tryd.prog 35 vs q m (fun v m'=>∃(id:Pa) (j:Nat),q <:+ id/\v=.list (.st (.anon id j)) (r.1.map aA.C)/\m'=(m.set P0 ((aB.C r.2))).tokset id j true)
theorem mZ (n:Nat):rY (eS n):=by
 rintro a0 r h q m vs P0 ⟨hv,hmP0,hg2⟩;refine SC.weak ?_;rw [hv];refine SC.apart hmP0 fun hpP0=>?_;have hmsP0:=cM hmP0
 try simp only [go_sem] at hmP0 hmsP0
 refine JN Tryd.func35 rfl (fun xs w=>Tryd.call35 xs w) Tryd.ntmps35 (by kernel_rfl) ?_;unfold eS at h;refine aL fun _ z=>?_;simp only [go_sem];apply z;refine aL fun _ z=>?_;simp only [go_sem,Nat.reduceAdd];apply z;refine aI ?_;obtain ⟨x1,h2,h⟩:=aC h;refine aM fun _ z=>?_;simp only [go_sem,seval];refine SC.by_ (bH n a0 ([40]:cD) _ h2 _ _ _ P0 (by simp only [go_sem,hmP0,hg2])) ?_;simp only [go_sem,Nat.reduceAdd];apply z;refine aI ?_;refine aI ?_;obtain ⟨x3,h4,h⟩:=aC h;refine aM fun _ z=>?_;simp only [go_sem,seval];refine SC.by_ (bL n x1 ([41]:cD) _ h4 _ _ _ P0 (by simp only [go_sem,↓reduceIte,hg2])) ?_;simp only [go_sem,Nat.reduceAdd];apply z;refine dA x3.1 (fun c5=>?_) (fun c5=>?_)
 ·replace h:=bC c5 h;refine aL fun _ z=>?_;simp only [go_sem,Nat.reduceAdd,c5];apply z;refine aU ?_
  try simp only [bE]
  obtain rfl:=aJ h;refine ⟨by simp,?_⟩;refine ⟨(7::q),0,_,(by simp only [go_sem]),.exact (t:=4) (rows:=([].map aA.C)) (congrArg Array.toList Tryd.results35) (by simp only [go_sem,↓reduceIte]),(7::q),0,(by simp only [go_sem]),?_,?_⟩ <;> simp only [go_sem,aK,aW hpP0]
 ·replace h:=bD c5 h;refine bB ?_
  try simp only [aE]
  refine aI ?_;obtain ⟨y6,hy6,h⟩:=aC h;refine cZ 8 [] [] rfl (fun E' m'=>∃(oy6_5:Pa) (jy6_5:Nat),E' 0=.ptr P0 0/\E' 5=.list (.st (.anon oy6_5 jy6_5)) (y6.1.map aA.C)/\m'.tok oy6_5 jy6_5=true/\q <:+ oy6_5/\m'.blk P0=some ((aB.C y6.2))/\m'.gl=m.gl/\m.back q m'=(m.set P0 ((aB.C y6.2)))) ?_ ?_
  ·refine bK ?_;obtain ⟨y10,hy10,hy6⟩:=aC hy6;refine wD 5 ([].map aA.C) rfl (by simp only [go_sem,seval,c5]) ?_;refine dE [] [] rfl (fun c E' m'=>∃v8 v9 o_v8 j_v8,eD n c v8 v9=some y10/\E' 0=.ptr P0 0/\E' 1=.fn (.func 36) [.ptr P0 0] []/\E' 5=.list (.st (.anon o_v8 j_v8)) (v8.map aA.C)/\m'.tok o_v8 j_v8=true/\q <:+ o_v8/\m'.blk P0=some ((aB.C v9))/\m'.gl=m.gl/\m.back q m'=(m.set P0 ((aB.C v9)))) n ⟨[],x3.2,(6::q),0,hy10,?_⟩ ?_
   ·simp only [go_sem,seval,cC,aK,aW hpP0,c5]
   rintro i7 c11 E12 m13 ⟨v8,v9,o_v8,j_v8,hy10,e14⟩ _
   rcases c11 with _ | c11
   ·exact absurd hy10 (by rw [eD];exact fun e=>nomatch e)
   rw [eD] at hy10;refine aI ?_;refine aL fun _ z=>?_;simp only [go_sem,seval,e14];apply z;refine dA (v9.e_ == (0:Int)) (fun c15=>?_) (fun c15=>?_)
   ·replace hy10:=bC c15 hy10;refine bB ?_
    try simp only [aE]
    refine bK ?_;refine aI ?_;obtain ⟨x16,h17,hy10⟩:=aC hy10;obtain ⟨f18,hy10⟩:=cK hy10;have f19:v8.length+1<=1073741824:=by first | omega | (simp only [List.length_append,List.length_cons,List.length_nil] at f18 ⊢;omega)
    have f20:v8.length<=1073741823:=by first | omega | (simp only [List.length_append,List.length_cons,List.length_nil] at f18 ⊢;omega)
    refine aM fun _ z=>?_;simp only [go_sem,seval,c15,e14];refine SC.by_ (vI n v9 _ h17 _ _ _ P0 (by simp only [go_sem,e14,hg2])) ?_;simp only [go_sem,seval,f19,e14];apply z;refine aI ?_;obtain ⟨x21,h22,hy10⟩:=aC hy10;refine aM fun _ z=>?_;simp only [go_sem,seval,e14];refine SC.by_ (bL n x16.2 ([44]:cD) _ h22 _ _ _ P0 (by simp only [go_sem,↓reduceIte,e14,hg2])) ?_;simp only [go_sem,seval];apply z;refine dA (!x21.1) (fun c23=>?_) (fun c23=>?_)
    ·replace hy10:=bC c23 hy10;refine eG ?_
     try simp only [seval,bZ,bQ,aE]
     obtain rfl:=aJ hy10;obtain rfl:=aJ hy6;refine ⟨by decide,(9::i7::7::q),0,?_⟩;simp only [go_sem,seval,cC,aW hpP0,c23,e14]
    ·replace hy10:=bD c23 hy10;refine bB ?_
     try simp only [aE,aT]
     refine ⟨c11,Nat.lt_succ_self _,(v8++[x16.1]),x21.2,(9::i7::7::q),0,hy10,?_⟩;simp only [go_sem,seval,cC,aW hpP0,c23,e14]
   ·replace hy10:=bD c15 hy10;refine eG ?_
    try simp only [bZ,bQ,↓reduceIte,aE]
    obtain rfl:=aJ hy10;obtain rfl:=aJ hy6;refine ⟨by decide,o_v8,j_v8,?_⟩;simp only [go_sem,seval,c15,e14]
  ·rintro E24 m25 ⟨oy6_5,jy6_5,e26⟩ _;simp only [aE];refine aI ?_;obtain ⟨x27,h28,h⟩:=aC h;refine aM fun _ z=>?_;simp only [go_sem,seval,e26];refine SC.by_ (bH n y6.2 ([41]:cD) _ h28 _ _ _ P0 (by simp only [go_sem,e26,hg2])) ?_;simp only [go_sem,Nat.reduceAdd];apply z;refine aL fun _ z=>?_;simp only [go_sem,seval,e26];apply z;refine aU ?_;obtain rfl:=aJ h;refine ⟨by simp,?_⟩;refine ⟨oy6_5,jy6_5,_,(by simp only [go_sem,e26]),.mine (t:=4) (rows:=(y6.1.map aA.C)) (congrArg Array.toList Tryd.results35) (by simp only [go_sem,↓reduceIte]) (by simp only [go_sem,e26]),oy6_5,jy6_5,(by simp only [go_sem,e26]),?_,?_⟩ <;> simp only [go_sem,aW hpP0,e26]
def xT (f:aB->Int->Option aB):Prop:=∀a0 a1 r,f a0 a1=some r->∀(q:Pa) (m:M) (vs:List V) (P0:Pa),vs.map V.weak1=[.ptr P0 0,.lit (.int .i64 a1)]/\m.blk P0=some ((aB.C a0))->SC Tryd.prog 52 vs q m (fun v m'=>v=.tup []/\m'=(m.set P0 ((aB.C r))))
theorem qA:xT (jT):=by
 rintro a0 a1 r h q m vs P0 ⟨hv,hmP0⟩;refine SC.weak ?_;rw [hv];refine SC.apart hmP0 fun hpP0=>?_;have hmsP0:=cM hmP0
 try simp only [go_sem] at hmP0 hmsP0
 refine eN Tryd.func52 rfl (fun xs w=>Tryd.call52 xs w) Tryd.ntmps52 (by kernel_rfl) Tryd.results52 ?_;unfold jT at h;refine aL fun _ z=>?_;simp only [go_sem,seval];apply z;refine eK (decide ((64:Int)<a1)) (by simp only [go_sem,↓reduceIte]) (fun c1=>?_) (fun c1=>?_)
 ·replace h:=bC c1 h;obtain ⟨x2,h3,h⟩:=aC h;refine gF fun _ z=>?_;simp only [go_sem,seval,c1];refine SC.by_ (jH a0 (111:Int) _ h3 _ _ _ P0 (by simp only [go_sem,hmP0])) ?_;simp only [go_sem,Nat.reduceAdd];apply z;simp only [];obtain rfl:=aJ h;refine ⟨by simp,?_⟩;simp only [go_sem,aK,aW hpP0]
 ·replace h:=bD c1 h;refine bB ?_;obtain rfl:=aJ h;refine ⟨by simp,?_⟩;simp only [go_sem,aK,hmsP0,c1]
def xO (f:aB->Int->Option cD):Prop:=∀a0 a1 r,f a0 a1=some r->∀(q:Pa) (m:M) (vs:List V) (P0:Pa),vs.map V.weak1=[.ptr P0 0,.lit (.int .i64 a1)]/\m.blk P0=some ((aB.C a0))/\m.gl 2=.eptr [(cA cS bT)] 0 0/\m.gl 4=.eptr [(cA (cA cS) cT)] 0 0->SC Tryd.prog 94 vs q m (fun v m'=>v=.lit (.string (bs r))/\m'=m)
theorem pZ (n:Nat):xO (jS n):=by
 rintro a0 a1 r h q m vs P0 ⟨hv,hmP0,hg2,hg4⟩;refine SC.weak ?_;rw [hv];refine SC.apart hmP0 fun hpP0=>?_
 try simp only [go_sem] at hmP0
 refine eN Tryd.func94 rfl (fun xs w=>Tryd.call94 xs w) Tryd.ntmps94 (by kernel_rfl) Tryd.results94 ?_;unfold jS at h;refine aL fun _ z=>?_;simp only [go_sem];apply z;refine aI ?_;refine aI ?_;obtain ⟨x1,h5,h⟩:=aC h;obtain ⟨f2,f3,f4⟩:=bF h5;have f6:a1<(7:Int):=f3;obtain ⟨w7,d8⟩:=zJ (f:=(cA cS)) (s:=3) (Jv (f:=(cA cS)) (s:=3) _ (by kernel_rfl)) f4;have d9:=(Jv (f:=(cA cS)) (s:=3) _ (by kernel_rfl)) _ (List.mem_of_getElem? f4);have d10:=List.take_left' (l₂:=w7) d9;have d11:(3<=(cA cS x1).length+w7.length)=True:=eq_true (by omega);refine aM fun _ z=>?_;simp only [go_sem,seval,f2,f6,d10,d11,d8,hg4];apply z;refine bK ?_;obtain ⟨y14,hy14,h⟩:=aC h;refine dE [] [] rfl (fun c E' m'=>∃v13,gC n x1 a0 c v13=some y14/\E' 0=.ptr P0 0/\E' 9=.agg ((cA cS x1))/\E' 10=.lit (.int .i64 v13)/\m'.blk P0=some ((aB.C a0))/\m'.gl=m.gl/\m.back q m'=m) n ⟨(0:Int),hy14,?_⟩ ?_
 ·simp only [go_sem,seval,aK,hmP0]
 rintro i12 c15 E16 m17 ⟨v13,hy14,e18⟩ _
 rcases c15 with _ | c15
 ·exact absurd hy14 (by rw [gC];exact fun e=>nomatch e)
 rw [gC] at hy14;refine aL fun _ z=>?_;simp only [go_sem,e18];apply z;refine aI ?_;refine eK (decide (v13<(3:Int))) (by simp only [go_sem,↓reduceIte]) (fun c19=>?_) (fun c19=>?_)
 ·replace hy14:=bC c19 hy14;refine bB ?_
  try simp only [aE]
  refine aI ?_;refine bK ?_;refine aI ?_;obtain ⟨x20,h24,hy14⟩:=aC hy14;obtain ⟨f21,f22,f23⟩:=bF h24;have f25:=(List.getElem?_eq_some_iff.1 f23).1;have f26:v13<(3:Int):=by have:=cA_one d9;omega
  obtain ⟨w27,d28⟩:=zJ (f:=cS) (s:=1) (fun _ _=>rfl) f23;simp only [go_sem] at d28;refine aM fun _ z=>?_;simp only [go_sem,seval,f21,f26,d28,e18];apply z;refine aI ?_;obtain ⟨y29,hy29,hy14⟩:=aC hy14;refine cZ 10 [] [] rfl (fun E' m'=>E' 0=.ptr P0 0/\E' 6=.lit (.string (bs x20))/\E' 9=.agg ((cA cS x1))/\E' 10=.lit (.int .i64 v13)/\E' 19=.lit (.bool y29)/\m'.blk P0=some ((aB.C a0))/\m'.gl=m.gl/\m.back q m'=m) ?_ ?_
  ·rcases cY (decide (x20 ≠ ([]:cD))) with c30 | c30
   ·replace hy29:=bC c30 hy29;obtain ⟨x31,h32,hy29⟩:=aC hy29;refine aM fun _ z=>?_;simp only [go_sem,seval,c30,e18];refine SC.by_ (kZ n a0 x20 _ h32 _ _ _ P0 (by simp only [go_sem,e18,hg2])) ?_;simp only [go_sem,seval];apply z;obtain rfl:=aJ hy29;refine ⟨by decide,?_⟩;simp only [go_sem,seval,e18]
   ·replace hy29:=bD c30 hy29;refine aM fun _ z=>?_;simp only [go_sem,seval,c30];apply z;obtain rfl:=aJ hy29;refine ⟨by decide,?_⟩;simp only [go_sem,seval,e18]
  ·intro E33 m34 e35 _;simp only [aE];refine eK y29 (by simp only [go_sem,e35]) (fun c36=>?_) (fun c36=>?_)
   ·replace hy14:=bC c36 hy14;refine aL fun _ z=>?_;simp only [go_sem,seval,e35];apply z;refine aU ?_
    try simp only [bE,bX]
    obtain rfl:=aJ hy14;simp only [Sum.elim_inr] at h;obtain rfl:=aJ h;refine ⟨by simp,?_⟩;simp only [go_sem,↓reduceIte,e35]
   ·replace hy14:=bD c36 hy14;refine bB ?_
    try simp only [aE,aT]
    refine aM fun _ z=>?_;simp only [go_sem,seval,e35];apply z;refine ⟨c15,Nat.lt_succ_self _,(IntKind.i64.wrap (v13+(1:Int))),hy14,?_⟩;simp only [go_sem,seval,e35]
 ·replace hy14:=bD c19 hy14;refine eG ?_
  try simp only [bZ,bQ,↓reduceIte,aE]
  obtain rfl:=aJ hy14;simp only [Sum.elim_inl] at h;refine aL fun _ z=>?_;simp only [go_sem,Nat.reduceAdd,c19];apply z;refine aU ?_;obtain rfl:=aJ h;refine ⟨by simp,?_⟩;simp only [go_sem,↓reduceIte,e18]
def jF (f:aB->Int->Option ((List aA) × aB)):Prop:=∀a0 a1 r,f a0 a1=some r->∀(q:Pa) (m:M) (vs:List V) (P0:Pa) (P1:Pa) (P2:Pa),vs.map V.weak1=[.ptr P0 0,.fn (.func 101) [] [.ptr P1 0,.ptr P2 0]]/\m.blk P0=some ((aB.C a0))/\m.blk P1=some ([.ptr P0 0])/\m.blk P2=some ([.lit (.int .i64 a1)])/\(P0=P1)=False/\(P0=P2)=False/\(P1=P0)=False/\(P1=P2)=False/\(P2=P0)=False/\(P2=P1)=False/\m.gl 2=.eptr [(cA cS bT)] 0 0/\m.gl 4=.eptr [(cA (cA cS) cT)] 0 0->SC Tryd.prog 35 vs q m (fun v m'=>v=.list .none (r.1.map aA.C)/\m'=(m.set P0 ((aB.C r.2))))
def kE (f:aB->Int->Option (aA × aB)):Prop:=∀a0 a1 r,f a0 a1=some r->∀(q:Pa) (m:M) (vs:List V) (P0:Pa),vs.map V.weak1=[.ptr P0 0,.lit (.int .i64 a1)]/\m.blk P0=some ((aB.C a0))/\m.gl 2=.eptr [(cA cS bT)] 0 0/\m.gl 4=.eptr [(cA (cA cS) cT)] 0 0->SC Tryd.prog 68 vs q m (fun v m'=>v=.agg ((aA.C r.1))/\m'=(m.set P0 ((aB.C r.2))))
def lQ (f:aB->Int->Int->Option (aA × aB)):Prop:=∀a0 a1 a2 r,f a0 a1 a2=some r->∀(q:Pa) (m:M) (vs:List V) (P0:Pa),vs.map V.weak1=[.ptr P0 0,.lit (.int .i64 a1),.lit (.int .i64 a2)]/\m.blk P0=some ((aB.C a0))/\m.gl 2=.eptr [(cA cS bT)] 0 0/\m.gl 4=.eptr [(cA (cA cS) cT)] 0 0->SC Tryd.prog 86 vs q m (fun v m'=>v=.agg ((aA.C r.1))/\m'=(m.set P0 ((aB.C r.2))))
def kR (f:aB->Int->Option (aA × aB)):Prop:=∀a0 a1 r,f a0 a1=some r->∀(q:Pa) (m:M) (vs:List V) (P0:Pa),vs.map V.weak1=[.ptr P0 0,.lit (.int .i64 a1)]/\m.blk P0=some ((aB.C a0))/\m.gl 2=.eptr [(cA cS bT)] 0 0/\m.gl 4=.eptr [(cA (cA cS) cT)] 0 0->SC Tryd.prog 93 vs q m (fun v m'=>v=.agg ((aA.C r.1))/\m'=(m.set P0 ((aB.C r.2))))
def lZ (f:aB->Int->Option (aA × aB)):Prop:=∀a0 a1 r,f a0 a1=some r->∀(q:Pa) (m:M) (vs:List V) (P0:Pa) (P1:Pa) (P2:Pa),vs.map V.weak1=[.ptr P1 0,.ptr P2 0]/\m.blk P0=some ((aB.C a0))/\m.blk P1=some ([.ptr P0 0])/\m.blk P2=some ([.lit (.int .i64 a1)])/\(P0=P1)=False/\(P0=P2)=False/\(P1=P0)=False/\(P1=P2)=False/\(P2=P0)=False/\(P2=P1)=False/\m.gl 2=.eptr [(cA cS bT)] 0 0/\m.gl 4=.eptr [(cA (cA cS) cT)] 0 0->SC Tryd.prog 101 vs q m (fun v m'=>v=.agg ((aA.C r.1))/\m'=(m.set P0 ((aB.C r.2))))
theorem oW {dQ:aB->Int->Option (aA × aB)} (rQ:lZ dQ) (n:Nat):jF (fH dQ n):=by
 rintro a0 a1 r h q m vs P0 P1 P2 ⟨hv,hmP0,hmP1,hmP2,hn0_1,hn0_2,hn1_0,hn1_2,hn2_0,hn2_1,hg2,hg4⟩;refine SC.weak ?_;rw [hv];refine SC.apart hmP0 fun hpP0=>?_;refine SC.apart hmP1 fun hpP1=>?_;refine SC.apart hmP2 fun hpP2=>?_;have hmsP0:=cM hmP0
 try simp only [go_sem] at hmP0 hmsP0
 skip
 try simp only [go_sem,seval,Int.reduceToNat,UInt8.reduceToNat] at hmP2
 refine eN Tryd.func35 rfl (fun xs w=>Tryd.call35 xs w) Tryd.ntmps35 (by kernel_rfl) Tryd.results35 ?_;unfold fH at h;refine aL fun _ z=>?_;simp only [go_sem];apply z;refine aL fun _ z=>?_;simp only [go_sem,Nat.reduceAdd];apply z;refine aI ?_;obtain ⟨x1,h2,h⟩:=aC h;refine aM fun _ z=>?_;simp only [go_sem,seval];refine SC.by_ (bH n a0 ([40]:cD) _ h2 _ _ _ P0 (by simp only [go_sem,hmP0,hg2])) ?_;simp only [go_sem,Nat.reduceAdd];apply z;refine aI ?_;refine aI ?_;obtain ⟨x3,h4,h⟩:=aC h;refine aM fun _ z=>?_;simp only [go_sem,seval];refine SC.by_ (bL n x1 ([41]:cD) _ h4 _ _ _ P0 (by simp only [go_sem,↓reduceIte,hg2])) ?_;simp only [go_sem,Nat.reduceAdd];apply z;refine dA x3.1 (fun c5=>?_) (fun c5=>?_)
 ·replace h:=bC c5 h;refine aL fun _ z=>?_;simp only [go_sem,Nat.reduceAdd,c5];apply z;refine aU ?_
  try simp only [bE]
  obtain rfl:=aJ h;refine ⟨by simp,?_⟩;simp only [go_sem,↓reduceIte,aK,aW hpP0]
 ·replace h:=bD c5 h;refine bB ?_
  try simp only [aE]
  refine aI ?_;obtain ⟨y6,hy6,h⟩:=aC h;refine cZ 8 [] [] rfl (fun E' m'=>∃(oy6_5:Pa) (jy6_5:Nat),E' 0=.ptr P0 0/\E' 5=.list (.st (.anon oy6_5 jy6_5)) (y6.1.map aA.C)/\m'.tok oy6_5 jy6_5=true/\q <:+ oy6_5/\m'.blk P0=some ((aB.C y6.2))/\m'.blk P1=some ([.ptr P0 0])/\m'.blk P2=some ([.lit (.int .i64 a1)])/\m'.gl=m.gl/\m.back q m'=(m.set P0 ((aB.C y6.2)))) ?_ ?_
  ·refine bK ?_;obtain ⟨y10,hy10,hy6⟩:=aC hy6;refine wD 5 ([].map aA.C) rfl (by simp only [go_sem,seval,c5]) ?_;refine dE [] [] rfl (fun c E' m'=>∃v8 v9 o_v8 j_v8,dI dQ n a1 c v8 v9=some y10/\E' 0=.ptr P0 0/\E' 1=.fn (.func 101) [] [.ptr P1 0,.ptr P2 0]/\E' 5=.list (.st (.anon o_v8 j_v8)) (v8.map aA.C)/\m'.tok o_v8 j_v8=true/\q <:+ o_v8/\m'.blk P0=some ((aB.C v9))/\m'.blk P1=some ([.ptr P0 0])/\m'.blk P2=some ([.lit (.int .i64 a1)])/\m'.gl=m.gl/\m.back q m'=(m.set P0 ((aB.C v9)))) n ⟨[],x3.2,(6::q),0,hy10,?_⟩ ?_
   ·simp only [go_sem,seval,cC,aK,aW hpP0,hn1_0,hn2_0,c5,hmP1,hmP2]
   rintro i7 c11 E12 m13 ⟨v8,v9,o_v8,j_v8,hy10,e14⟩ _
   rcases c11 with _ | c11
   ·exact absurd hy10 (by rw [dI];exact fun e=>nomatch e)
   rw [dI] at hy10;refine aI ?_;refine aL fun _ z=>?_;simp only [go_sem,seval,e14];apply z;refine dA (v9.e_ == (0:Int)) (fun c15=>?_) (fun c15=>?_)
   ·replace hy10:=bC c15 hy10;refine bB ?_
    try simp only [aE]
    refine bK ?_;refine aI ?_;obtain ⟨x16,h17,hy10⟩:=aC hy10;obtain ⟨f18,hy10⟩:=cK hy10;have f19:v8.length+1<=1073741824:=by first | omega | (simp only [List.length_append,List.length_cons,List.length_nil] at f18 ⊢;omega)
    have f20:v8.length<=1073741823:=by first | omega | (simp only [List.length_append,List.length_cons,List.length_nil] at f18 ⊢;omega)
    refine aM fun _ z=>?_;simp only [go_sem,seval,c15,e14];refine SC.by_ (rQ v9 a1 _ h17 _ _ _ P0 P1 P2 (by simp only [go_sem,hn0_1,hn0_2,hn1_0,hn1_2,hn2_0,hn2_1,e14,hg2,hg4])) ?_;simp only [go_sem,seval,f19,e14];apply z;refine aI ?_;obtain ⟨x21,h22,hy10⟩:=aC hy10;refine aM fun _ z=>?_;simp only [go_sem,seval,e14];refine SC.by_ (bL n x16.2 ([44]:cD) _ h22 _ _ _ P0 (by simp only [go_sem,↓reduceIte,e14,hg2])) ?_;simp only [go_sem,seval];apply z;refine dA (!x21.1) (fun c23=>?_) (fun c23=>?_)
    ·replace hy10:=bC c23 hy10;refine eG ?_
     try simp only [seval,bZ,bQ,aE]
     obtain rfl:=aJ hy10;obtain rfl:=aJ hy6;refine ⟨by decide,(9::i7::7::q),0,?_⟩;simp only [go_sem,seval,cC,aW hpP0,hn1_0,hn2_0,c23,e14]
    ·replace hy10:=bD c23 hy10;refine bB ?_
     try simp only [aE,aT]
     refine ⟨c11,Nat.lt_succ_self _,(v8++[x16.1]),x21.2,(9::i7::7::q),0,hy10,?_⟩;simp only [go_sem,seval,cC,aW hpP0,hn1_0,hn2_0,c23,e14]
   ·replace hy10:=bD c15 hy10;refine eG ?_
    try simp only [bZ,bQ,↓reduceIte,aE]
    obtain rfl:=aJ hy10;obtain rfl:=aJ hy6;refine ⟨by decide,o_v8,j_v8,?_⟩;simp only [go_sem,seval,c15,e14]
  ·rintro E24 m25 ⟨oy6_5,jy6_5,e26⟩ _;simp only [aE];refine aI ?_;obtain ⟨x27,h28,h⟩:=aC h;refine aM fun _ z=>?_;simp only [go_sem,seval,e26];refine SC.by_ (bH n y6.2 ([41]:cD) _ h28 _ _ _ P0 (by simp only [go_sem,e26,hg2])) ?_;simp only [go_sem,Nat.reduceAdd];apply z;refine aL fun _ z=>?_;simp only [go_sem,seval,e26];apply z;refine aU ?_;obtain rfl:=aJ h;refine ⟨by simp,?_⟩;simp only [go_sem,↓reduceIte,aW hpP0,e26]
theorem uM {cO:aB->Int->Int->Option (aA × aB)} (kA:lQ cO) (n:Nat):kE (kD cO n):=by
 rintro a0 a1 r h q m vs P0 ⟨hv,hmP0,hg2,hg4⟩;refine SC.weak ?_;rw [hv];refine SC.apart hmP0 fun hpP0=>?_;have hmsP0:=cM hmP0
 try simp only [go_sem] at hmP0 hmsP0
 refine eN Tryd.func68 rfl (fun xs w=>Tryd.call68 xs w) Tryd.ntmps68 (by kernel_rfl) Tryd.results68 ?_;unfold kD at h;refine aL fun _ z=>?_;simp only [go_sem];apply z;refine aI ?_;obtain ⟨x2,h3,h⟩:=aC h;refine aM fun _ z=>?_;simp only [go_sem,seval];refine SC.by_ (kA a0 (0:Int) a1 _ h3 _ _ _ P0 (by simp only [go_sem,↓reduceIte,cF hpP0,hmP0,hg2,hg4])) ?_;simp only [go_sem,seval,cF hpP0];apply z;refine aU ?_;obtain rfl:=aJ h;refine ⟨by simp,?_⟩;simp only [go_sem,seval,aQ,aK,aW hpP0]
theorem tI {cN:aB->Int->Option (aA × aB)} (lT:kR cN) {cO:aB->Int->Int->Option (aA × aB)} (kA:lQ cO) (n:Nat):lQ (jG cN cO n):=by
 rintro a0 a1 a2 r h q m vs P0 ⟨hv,hmP0,hg2,hg4⟩;refine SC.weak ?_;rw [hv];refine SC.apart hmP0 fun hpP0=>?_;have hmsP0:=cM hmP0
 try simp only [go_sem] at hmP0 hmsP0
 refine eN Tryd.func86 rfl (fun xs w=>Tryd.call86 xs w) Tryd.ntmps86 (by kernel_rfl) Tryd.results86 ?_;unfold jG at h;refine aL fun _ z=>?_;simp only [go_sem];apply z;refine aI ?_;refine aL fun _ z=>?_;simp only [go_sem,seval];apply z;refine dA (a1 == (7:Int)) (fun c2=>?_) (fun c2=>?_)
 ·replace h:=bC c2 h;refine aI ?_;obtain ⟨x3,h4,h⟩:=aC h;refine aM fun _ z=>?_;simp only [go_sem,seval,c2];refine SC.by_ (lT a0 a2 _ h4 _ _ _ P0 (by simp only [go_sem,↓reduceIte,fZ hpP0,hmP0,hg2,hg4])) ?_;simp only [go_sem,seval,fZ hpP0];apply z;refine aU ?_
  try simp only [bE]
  obtain rfl:=aJ h;refine ⟨by simp,?_⟩;simp only [go_sem,seval,aQ,aK,aW hpP0]
 ·replace h:=bD c2 h;refine bB ?_
  try simp only [aE]
  refine aI ?_;obtain ⟨x5,h7,h⟩:=aC h;refine aM fun _ z=>?_;simp only [go_sem,seval,c2];refine SC.by_ (kA a0 (IntKind.i64.wrap (a1+(1:Int))) a2 _ h7 _ _ _ P0 (by simp only [go_sem,↓reduceIte,fZ hpP0,hmP0,hg2,hg4])) ?_;simp only [go_sem,seval];apply z;refine aI ?_;refine aI ?_;obtain ⟨x8,h9,h⟩:=aC h;refine aM fun _ z=>?_;simp only [go_sem,seval];refine SC.by_ (pZ n x5.2 a1 _ h9 _ _ _ P0 (by simp only [go_sem,↓reduceIte,fZ hpP0,hg2,hg4])) ?_;simp only [go_sem,seval];apply z;refine bK ?_;obtain ⟨y14,hy14,h⟩:=aC h;refine dE [] [] rfl (fun c E' m'=>∃v11 v12 v13,fT cO n a1 a2 c v11 v12 v13=some y14/\E' 0=.ptr P0 0/\E' 1=.lit (.int .i64 a1)/\E' 2=.lit (.int .i64 a2)/\E' 6=.ptr (0::q) 0/\E' 7=.ptr (8::q) 0/\E' 8=.lit (.string (bs v11))/\m'.blk P0=some ((aB.C v12))/\m'.blk (0::q)=some ([.lit (.int .i64 (0:Int)),.lit (.int .i64 (0:Int)),.lit (.string (bs [])),.lit (.int .u32 (0:Int)),.list .self ([].map aA.C)])/\m'.blk (8::q)=some ((aA.C v13))/\m'.gl=m.gl/\m.back q m'=(m.set P0 ((aB.C v12)))) n ⟨x8,x5.2,x5.1,hy14,?_⟩ ?_
  ·simp only [go_sem,seval,aQ,aK,aW hpP0,fZ hpP0]
  rintro i10 c15 E16 m17 ⟨v11,v12,v13,hy14,e18⟩ _
  rcases c15 with _ | c15
  ·exact absurd hy14 (by rw [fT];exact fun e=>nomatch e)
  rw [fT] at hy14;refine aI ?_;refine aL fun _ z=>?_;simp only [go_sem,seval,e18];apply z;refine eK (decide (v11 ≠ ([]:cD))) (by simp only [go_sem,↓reduceIte]) (fun c19=>?_) (fun c19=>?_)
  ·replace hy14:=bC c19 hy14;refine bB ?_
   try simp only [aE]
   refine aI ?_;refine bK ?_;refine aI ?_;obtain ⟨x20,h22,hy14⟩:=aC hy14;refine aM fun _ z=>?_;simp only [go_sem,seval,c19,e18];refine SC.mono (fF v12 (19:Int) _ h22 _ _ _ P0 (by simp only [go_sem,e18])) ?_;rintro _ _ ⟨o_x20,j_x20,s_x20,rfl,rfl⟩;replace s_x20:q <:+ o_x20:=List.IsSuffix.trans (by simp only [go_sem]) s_x20;simp only [go_sem,seval];apply z;refine aI ?_;obtain ⟨x23,h24,hy14⟩:=aC hy14;refine aM fun _ z=>?_;simp only [go_sem,seval,e18];refine SC.by_ (bH n x20.2 v11 _ h24 _ _ _ P0 (by simp only [go_sem,↓reduceIte,fZ hpP0,e18,hg2])) ?_;simp only [go_sem,Nat.reduceAdd];apply z;refine aI ?_;obtain ⟨x25,h26,hy14⟩:=aC hy14;refine bW (tbl:=[0,0,0,0,8,0,60,126,1,381,1023,2047]) (ord:=[(2,0),(3,0),(4,0),(5,0),(6,0),(0,0),(8,0),(9,0),(1,2),(7,0),(10,0),(11,0)]) 21 rfl (by kernel_rfl) (by kernel_rfl) fun _ z=>?_;simp only [go_sem,seval,e18];refine bS (kA x23 (IntKind.i64.wrap (a1+(1:Int))) a2 _ h26 _ _ _ P0 (by simp only [go_sem,↓reduceIte,e18,hg2,hg4])) rfl ?_;simp only [go_sem,seval,fZ hpP0,e18];apply z;simp only [aE];refine aL fun _ z=>?_;simp only [go_sem,seval,fZ hpP0,e18];apply z;refine aL fun _ z=>?_;simp only [go_sem,seval,e18];apply z;refine dA (a1 == (3:Int)) (fun c27=>?_) (fun c27=>?_)
   ·replace hy14:=bC c27 hy14;refine eG ?_
    try simp only [seval,bZ,bQ,aE]
    obtain rfl:=aJ hy14;refine aL fun _ z=>?_;simp only [go_sem,seval,fZ hpP0,c27,e18];apply z;refine aU ?_;obtain rfl:=aJ h;refine ⟨by simp,?_⟩;simp only [go_sem,seval,aQ,cQ,cC,aW hpP0,s_x20,e18]
   ·replace hy14:=bD c27 hy14;refine bB ?_
    try simp only [aE,aT]
    obtain ⟨x28,h29,hy14⟩:=aC hy14;refine aM fun _ z=>?_;simp only [go_sem,seval,c27,e18];refine SC.by_ (pZ n x25.2 a1 _ h29 _ _ _ P0 (by simp only [go_sem,↓reduceIte,fZ hpP0,e18,hg2,hg4])) ?_;simp only [go_sem,seval];apply z;refine ⟨c15,Nat.lt_succ_self _,x28,x25.2,({ x20.1 with bP:=v11,aN:=[v13,x25.1] }:aA),hy14,?_⟩;simp only [go_sem,seval,aQ,cQ,cC,aW hpP0,fZ hpP0,s_x20,e18]
  ·replace hy14:=bD c19 hy14;refine eG ?_
   try simp only [bZ,bQ,↓reduceIte,aE]
   obtain rfl:=aJ hy14;refine aL fun _ z=>?_;simp only [go_sem,seval,c19,e18];apply z;refine aU ?_;obtain rfl:=aJ h;refine ⟨by simp,?_⟩;simp only [go_sem,seval,aQ,e18]
theorem sE {dW:aB->Int->Option (aA × aB)} (kS:kE dW) {cN:aB->Int->Option (aA × aB)} (lT:kR cN) {gB:aB->Int->Option ((List aA) × aB)} (oZ:jF gB) (n:Nat):kR (iK dW cN gB n):=by
 rintro a0 a1 r h q m vs P0 ⟨hv,hmP0,hg2,hg4⟩;refine SC.weak ?_;rw [hv];refine SC.apart hmP0 fun hpP0=>?_;have hmsP0:=cM hmP0
 try simp only [go_sem] at hmP0 hmsP0
 refine eN Tryd.func93 rfl (fun xs w=>Tryd.call93 xs w) Tryd.ntmps93 (by kernel_rfl) Tryd.results93 ?_;unfold iK at h;refine aL fun _ z=>?_;simp only [go_sem,seval];apply z;refine aI ?_;obtain ⟨x4,h5,h⟩:=aC h;refine aM fun _ z=>?_;simp only [go_sem,seval];refine SC.by_ (qA a0 a1 _ h5 _ _ _ P0 (by simp only [go_sem,↓reduceIte,fZ hpP0,hmP0])) ?_;simp only [go_sem,Nat.reduceAdd];apply z;refine aI ?_;refine aI ?_;obtain ⟨x6,h7,h⟩:=aC h;refine aM fun _ z=>?_;simp only [go_sem,seval,fZ hpP0];refine SC.by_ (bL n x4 ([40]:cD) _ h7 _ _ _ P0 (by simp only [go_sem,↓reduceIte,hg2])) ?_;simp only [go_sem,Nat.reduceAdd];apply z;refine dA x6.1 (fun c8=>?_) (fun c8=>?_)
 ·replace h:=bC c8 h;refine aI ?_;obtain ⟨x9,h11,h⟩:=aC h;refine aM fun _ z=>?_;simp only [go_sem,seval,fZ hpP0,c8];refine SC.by_ (kS x6.2 (IntKind.i64.wrap (a1+(1:Int))) _ h11 _ _ _ P0 (by simp only [go_sem,↓reduceIte,hg2,hg4])) ?_;simp only [go_sem,seval];apply z;refine aI ?_;obtain ⟨x12,h13,h⟩:=aC h;refine aM fun _ z=>?_;simp only [go_sem,seval,fZ hpP0];refine SC.by_ (bH n x9.2 ([41]:cD) _ h13 _ _ _ P0 (by simp only [go_sem,↓reduceIte,fZ hpP0,hg2])) ?_;simp only [go_sem,Nat.reduceAdd];apply z;refine aL fun _ z=>?_;simp only [go_sem,seval,fZ hpP0];apply z;refine aU ?_
  try simp only [bE]
  obtain rfl:=aJ h;refine ⟨by simp,?_⟩;simp only [go_sem,seval,aQ,aK,aW hpP0]
 ·replace h:=bD c8 h;refine bB ?_
  try simp only [aE]
  refine aI ?_;obtain ⟨x14,h16,h⟩:=aC h;refine aM fun _ z=>?_;simp only [go_sem,seval,fZ hpP0,c8];refine SC.mono (fF x6.2 (15:Int) _ h16 _ _ _ P0 (by simp only [go_sem,↓reduceIte])) ?_;rintro _ _ ⟨o_x14,j_x14,s_x14,rfl,rfl⟩;replace s_x14:q <:+ o_x14:=List.IsSuffix.trans (by simp only [go_sem]) s_x14;simp only [go_sem,seval];apply z;refine aI ?_;refine aL fun _ z=>?_;simp only [go_sem,seval];apply z;refine bK ?_;obtain ⟨y22,hy22,h⟩:=aC h;refine dE [] [] rfl (fun c E' m'=>∃v18 v19 v20 v21,fD cN n a1 c v18 v19 v20 v21=some y22/\E' 2=.ptr (0::q) 0/\E' 3=.ptr (1::q) 0/\E' 4=.ptr (2::q) 0/\E' 6=.ptr (10::q) 0/\E' 23=.agg ((cA cS jY))/\E' 24=.lit (.int .i64 v18)/\m'.blk P0=some ((aB.C v19))/\m'.blk (10::q)=some ([.lit (.int .i64 v20.bN),.lit (.int .i64 v20.eH),.lit (.string (bs v20.bP)),.lit (.int .u32 v20.jC),.list .self (v20.aN.map aA.C)])/\m'.blk (0::q)=some ([.ptr P0 0])/\m'.blk (1::q)=some ([.lit (.int .i64 a1)])/\m'.blk (2::q)=some ([.lit (.int .i64 v21.bN),.lit (.int .i64 v21.eH),.lit (.string (bs v21.bP)),.lit (.int .u32 v21.jC),.list .self (v21.aN.map aA.C)])/\m'.gl=m.gl/\m.back q m'=(m.set P0 ((aB.C v19)))) n ⟨(0:Int),x14.2,x14.1,(aA.mk (0:Int) (0:Int) [] (0:Int) []),hy22,?_⟩ ?_
  ·(simp only [go_sem,seval,aQ,cQ,cC,aK,aW hpP0,fZ hpP0,s_x14]) <;> (try and_intros) <;> rfl
  rintro i17 c23 E24 m25 ⟨v18,v19,v20,v21,hy22,e26⟩ _
  rcases c23 with _ | c23
  ·exact absurd hy22 (by rw [fD];exact fun e=>nomatch e)
  rw [fD] at hy22;refine aL fun _ z=>?_;simp only [go_sem,e26];apply z;refine aI ?_;refine eK (decide (v18<(2:Int))) (by simp only [go_sem,↓reduceIte]) (fun c27=>?_) (fun c27=>?_)
  ·replace hy22:=bC c27 hy22;refine bB ?_
   try simp only [aE]
   refine aI ?_;refine bK ?_;refine aI ?_;obtain ⟨x28,h32,hy22⟩:=aC hy22;obtain ⟨f29,f30,f31⟩:=bF h32;have f33:v18<(2:Int):=f30;obtain ⟨w34,d35⟩:=zJ (f:=cS) (s:=1) (fun _ _=>rfl) f31;simp only [go_sem] at d35;have d36:List.drop (v18.toNat) [V.lit (.string (bs ([126]:cD))),V.lit (.string (bs ([45]:cD)))]=_:=d35;refine aM fun _ z=>?_;simp only [go_sem,seval,f29,f33,d35,e26];apply z;refine aI ?_;obtain ⟨x37,h38,hy22⟩:=aC hy22;refine aM fun _ z=>?_;simp only [go_sem,seval,e26];refine SC.by_ (bL n v19 x28 _ h38 _ _ _ P0 (by simp only [go_sem,e26,hg2])) ?_;simp only [go_sem,Nat.reduceAdd];apply z;refine dA x37.1 (fun c39=>?_) (fun c39=>?_)
   ·replace hy22:=bC c39 hy22;refine aI ?_;obtain ⟨x40,h41,hy22⟩:=aC hy22;refine aM fun _ z=>?_;simp only [go_sem,seval,fZ hpP0,c39,e26];refine SC.by_ (lT x37.2 (IntKind.i64.wrap (a1+(1:Int))) _ h41 _ _ _ P0 (by simp only [go_sem,↓reduceIte,e26,hg2,hg4])) ?_;simp only [go_sem,seval,fZ hpP0,e26];apply z;refine aL fun _ z=>?_;simp only [go_sem,seval,fZ hpP0,e26];apply z;refine aU ?_
    try simp only [bE,bX]
    obtain rfl:=aJ hy22;simp only [Sum.elim_inr] at h;obtain rfl:=aJ h;refine ⟨by simp,?_⟩;simp only [go_sem,seval,aQ,cQ,aW hpP0,e26]
   ·replace hy22:=bD c39 hy22;refine bB ?_
    try simp only [aE,aT]
    refine aM fun _ z=>?_;simp only [go_sem,seval,c39,e26];apply z;refine ⟨c23,Nat.lt_succ_self _,(IntKind.i64.wrap (v18+(1:Int))),x37.2,v20,v21,hy22,?_⟩
    (simp only [go_sem,seval,aW hpP0,fZ hpP0,e26]) <;> (try and_intros) <;> rfl
  ·replace hy22:=bD c27 hy22;refine eG ?_
   try simp only [bZ,bQ,↓reduceIte,aE]
   obtain rfl:=aJ hy22;simp only [Sum.elim_inl] at h;refine aI ?_;refine aI ?_;obtain ⟨y42,hy42,h⟩:=aC h;refine cZ 26 [] [] rfl (fun E' m'=>E' 2=.ptr (0::q) 0/\E' 3=.ptr (1::q) 0/\E' 4=.ptr (2::q) 0/\E' 6=.ptr (10::q) 0/\E' 51=.lit (.bool y42)/\m'.blk P0=some ((aB.C v19))/\m'.blk (10::q)=some ([.lit (.int .i64 v20.bN),.lit (.int .i64 v20.eH),.lit (.string (bs v20.bP)),.lit (.int .u32 v20.jC),.list .self (v20.aN.map aA.C)])/\m'.blk (0::q)=some ([.ptr P0 0])/\m'.blk (1::q)=some ([.lit (.int .i64 a1)])/\m'.blk (2::q)=some ([.lit (.int .i64 v21.bN),.lit (.int .i64 v21.eH),.lit (.string (bs v21.bP)),.lit (.int .u32 v21.jC),.list .self (v21.aN.map aA.C)])/\m'.gl=m.gl/\m.back q m'=(m.set P0 ((aB.C v19)))) ?_ ?_
   ·rcases cY (v19.e_ == (0:Int)) with c43 | c43
    ·replace hy42:=bC c43 hy42;obtain ⟨x44,h45,hy42⟩:=aC hy42;refine aM fun _ z=>?_;simp only [go_sem,seval,c27,c43,e26];refine SC.by_ (eV v19 _ h45 _ _ _ P0 (by simp only [go_sem,e26])) ?_;simp only [go_sem,seval];apply z;obtain rfl:=aJ hy42;refine ⟨by decide,?_⟩
     (simp only [go_sem,seval,e26]) <;> (try and_intros) <;> rfl
    ·replace hy42:=bD c43 hy42;refine aM fun _ z=>?_;simp only [go_sem,seval,c27,c43,e26];apply z;obtain rfl:=aJ hy42;refine ⟨by decide,?_⟩
     (simp only [go_sem,seval,e26]) <;> (try and_intros) <;> rfl
   ·intro E46 m47 e48 _;simp only [aE];refine eK y42 (by simp only [go_sem,e48]) (fun c49=>?_) (fun c49=>?_)
    ·replace h:=bC c49 h;refine aI ?_;obtain ⟨x50,h51,h⟩:=aC h;refine aM fun _ z=>?_;simp only [go_sem,seval,e48];refine SC.by_ (oV v19 _ h51 _ _ _ P0 (by simp only [go_sem,e48])) ?_;simp only [go_sem,seval,fZ hpP0,e48];apply z;refine aL fun _ z=>?_;simp only [go_sem,seval,fZ hpP0,e48];apply z;refine aU ?_
     try simp only [bE]
     obtain rfl:=aJ h;refine ⟨by simp,?_⟩;simp only [go_sem,seval,aQ,aW hpP0,e48]
    ·replace h:=bD c49 h;refine bB ?_
     try simp only [aE]
     refine aI ?_;obtain ⟨x52,h53,h⟩:=aC h;refine aM fun _ z=>?_;simp only [go_sem,seval,e48];refine SC.by_ (fG n v19 _ h53 _ _ _ P0 (by simp only [go_sem,e48,hg2])) ?_;simp only [go_sem,seval,fZ hpP0,e48];apply z;refine aI ?_;obtain ⟨y54,hy54,h⟩:=aC h;refine cZ 47 [] [((10::q),4)] rfl (fun E' m'=>E' 4=.ptr (2::q) 0/\E' 6=.ptr (10::q) 0/\m'.blk P0=some ((aB.C y54.1))/\m'.blk (10::q)=some ((aA.C y54.2))/\m'.blk (2::q)=some ([.lit (.int .i64 v21.bN),.lit (.int .i64 v21.eH),.lit (.string (bs v21.bP)),.lit (.int .u32 v21.jC),.list .self (v21.aN.map aA.C)])/\m'.gl=m.gl/\m.back q m'=(m.set P0 ((aB.C y54.1)))) ?_ ?_
     ·refine bK ?_;refine aI ?_;obtain ⟨x55,h56,hy54⟩:=aC hy54;refine aM fun _ z=>?_;simp only [go_sem,seval,fZ hpP0,e48];refine SC.by_ (kZ n x52.2 ([40]:cD) _ h56 _ _ _ P0 (by simp only [go_sem,↓reduceIte,fZ hpP0,e48,hg2])) ?_;simp only [go_sem,seval];apply z;refine dA x55 (fun c57=>?_) (fun c57=>?_)
      ·replace hy54:=bC c57 hy54;obtain ⟨x58,h59,hy54⟩:=aC hy54;refine gF fun _ z=>?_;simp only [go_sem,seval,fZ hpP0,c57,e48];refine SC.by_ (oZ x52.2 a1 _ h59 _ _ _ P0 (0::q) (1::q) (by simp only [go_sem,seval,fZ hpP0,e48,hg2,hg4])) ?_;simp only [go_sem,seval,fZ hpP0,e48];apply z;simp only [aE,aT];obtain rfl:=aJ hy54;refine ⟨by decide,?_⟩
       (simp only [go_sem,seval,aQ,aW hpP0,fZ hpP0,e48]) <;> (try and_intros) <;> rfl
      ·replace hy54:=bD c57 hy54;refine aI ?_;obtain ⟨x60,h61,hy54⟩:=aC hy54;refine aM fun _ z=>?_;simp only [go_sem,seval,fZ hpP0,c57,e48];refine SC.by_ (bL n x52.2 ([91]:cD) _ h61 _ _ _ P0 (by simp only [go_sem,↓reduceIte,fZ hpP0,e48,hg2])) ?_;simp only [go_sem,seval];apply z;refine dA x60.1 (fun c62=>?_) (fun c62=>?_)
       ·replace hy54:=bC c62 hy54;refine aI ?_;obtain ⟨x63,h64,hy54⟩:=aC hy54;refine aM fun _ z=>?_;simp only [go_sem,seval,fZ hpP0,c62,e48];refine SC.by_ (kS x60.2 (IntKind.i64.wrap (a1+(1:Int))) _ h64 _ _ _ P0 (by simp only [go_sem,↓reduceIte,e48,hg2,hg4])) ?_;simp only [go_sem,seval,fZ hpP0,e48];apply z;obtain ⟨x65,h66,hy54⟩:=aC hy54;refine gF fun _ z=>?_;simp only [go_sem,seval,fZ hpP0,e48];refine SC.by_ (bH n x63.2 ([93]:cD) _ h66 _ _ _ P0 (by simp only [go_sem,↓reduceIte,fZ hpP0,e48,hg2])) ?_;simp only [go_sem,Nat.reduceAdd];apply z;simp only [aE,aT];obtain rfl:=aJ hy54;refine ⟨by decide,?_⟩
        (simp only [go_sem,seval,aQ,cQ,aW hpP0,fZ hpP0,e48]) <;> (try and_intros) <;> rfl
       ·replace hy54:=bD c62 hy54;refine bB ?_
        try simp only [aE,aT]
        obtain rfl:=aJ hy54;refine ⟨by decide,?_⟩
        (simp only [go_sem,seval,aQ,aW hpP0,fZ hpP0,c62,e48]) <;> (try and_intros) <;> rfl
     ·intro E67 m68 e69 _;simp only [aE];refine aL fun _ z=>?_;simp only [go_sem,seval,e69];apply z;refine aU ?_;obtain rfl:=aJ h;refine ⟨by simp,?_⟩;simp only [go_sem,seval,aQ,e69]
theorem rN {dW:aB->Int->Option (aA × aB)} (kS:kE dW) (n:Nat):lZ (gX dW n):=by
 rintro a0 a1 r h q m vs P0 P1 P2 ⟨hv,hmP0,hmP1,hmP2,hn0_1,hn0_2,hn1_0,hn1_2,hn2_0,hn2_1,hg2,hg4⟩;refine SC.weak ?_;rw [hv];refine SC.apart hmP0 fun hpP0=>?_;refine SC.apart hmP1 fun hpP1=>?_;refine SC.apart hmP2 fun hpP2=>?_;have hmsP0:=cM hmP0
 try simp only [go_sem] at hmP0 hmsP0
 skip
 try simp only [go_sem,seval,Int.reduceToNat,UInt8.reduceToNat] at hmP2
 refine eN Tryd.func101 rfl (fun xs w=>Tryd.call101 xs w) Tryd.ntmps101 (by kernel_rfl) Tryd.results101 ?_;unfold gX at h;refine aL fun _ z=>?_;simp only [go_sem];apply z;refine aI ?_;obtain ⟨x2,h3,h⟩:=aC h;refine aM fun _ z=>?_;simp only [go_sem,seval,cF hpP1,cF hpP2,hmP1,hmP2];refine SC.by_ (kS a0 (IntKind.i64.wrap (a1+(1:Int))) _ h3 _ _ _ P0 (by simp only [go_sem,↓reduceIte,cF hpP0,hmP0,hg2,hg4])) ?_;simp only [go_sem,seval,cF hpP0];apply z;refine aU ?_;obtain rfl:=aJ h;refine ⟨by simp,?_⟩;simp only [go_sem,seval,aQ,aK,aW hpP0]
theorem lH:∀n,jF (qX n)/\kE (dY n)/\lQ (yG n)/\kR (wP n)/\lZ (uK n)
 | 0=>⟨fun _ _ _ h=>gN h,fun _ _ _ h=>gN h,fun _ _ _ _ h=>gN h,fun _ _ _ h=>gN h,fun _ _ _ h=>gN h⟩
 | n+1=>
   have ih:=lH n
   ⟨oW ih.2.2.2.2 n,uM ih.2.2.1 n,tI ih.2.2.2.1 ih.2.2.1 n,sE ih.2.1 ih.2.2.2.1 ih.1 n,rN ih.2.1 n⟩
theorem eM (n:Nat):kE (dY n):=(lH n).2.1
def wQ (f:aB->aA->Int->Option (aA × aB)):Prop:=∀a0 a1 a2 r,f a0 a1 a2=some r->∀(q:Pa) (m:M) (vs:List V) (P0:Pa),vs.map V.weak1=[.ptr P0 0,.agg ((aA.C a1)),.lit (.int .i64 a2)]/\m.blk P0=some ((aB.C a0))/\m.gl 2=.eptr [(cA cS bT)] 0 0/\m.gl 4=.eptr [(cA (cA cS) cT)] 0 0->SC Tryd.prog 67 vs q m (fun v m'=>v=.agg ((aA.C r.1))/\m'=(m.set P0 ((aB.C r.2))))
theorem pO (n:Nat):wQ (iR n):=by
 rintro a0 a1 a2 r h q m vs P0 ⟨hv,hmP0,hg2,hg4⟩;refine SC.weak ?_;rw [hv];refine SC.apart hmP0 fun hpP0=>?_;have hmsP0:=cM hmP0
 try simp only [go_sem] at hmP0 hmsP0
 refine eN Tryd.func67 rfl (fun xs w=>Tryd.call67 xs w) Tryd.ntmps67 (by kernel_rfl) Tryd.results67 ?_;unfold iR at h;refine aL fun _ z=>?_;simp only [go_sem,Nat.reduceAdd];apply z;refine aI ?_;obtain ⟨x3,h4,h⟩:=aC h;refine aM fun _ z=>?_;simp only [go_sem,seval];refine SC.by_ (fG n a0 _ h4 _ _ _ P0 (by simp only [go_sem,↓reduceIte,cF hpP0,hmP0,hg2])) ?_;simp only [go_sem,seval,cF hpP0];apply z;refine aI ?_;obtain ⟨x5,h6,h⟩:=aC h;refine aM fun _ z=>?_;simp only [go_sem,seval];refine SC.by_ (bH n x3.2 ([61]:cD) _ h6 _ _ _ P0 (by simp only [go_sem,↓reduceIte,cF hpP0,hg2])) ?_;simp only [go_sem,Nat.reduceAdd];apply z;refine aI ?_;obtain ⟨x7,h8,h⟩:=aC h;refine aM fun _ z=>?_;simp only [go_sem,seval];refine SC.by_ (eM n x5 a2 _ h8 _ _ _ P0 (by simp only [go_sem,↓reduceIte,hg2,hg4])) ?_;simp only [go_sem,seval,cF hpP0];apply z;refine aI ?_;obtain ⟨x9,h10,h⟩:=aC h;refine aM fun _ z=>?_;simp only [go_sem,seval];refine SC.by_ (bH n x7.2 ([59]:cD) _ h10 _ _ _ P0 (by simp only [go_sem,↓reduceIte,cF hpP0,hg2])) ?_;simp only [go_sem,Nat.reduceAdd];apply z;refine aL fun _ z=>?_;simp only [go_sem,seval,cF hpP0];apply z;refine aU ?_;obtain rfl:=aJ h;refine ⟨by simp,?_⟩;simp only [go_sem,seval,aQ,cQ,aK,aW hpP0]
def uJ (f:aB->Int->Option (aA × aB)):Prop:=∀a0 a1 r,f a0 a1=some r->∀(q:Pa) (m:M) (vs:List V) (P0:Pa) (P1:Pa) (P2:Pa),vs.map V.weak1=[.ptr P1 0,.ptr P2 0]/\m.blk P0=some ((aB.C a0))/\m.blk P1=some ([.ptr P0 0])/\m.blk P2=some ([.lit (.int .i64 a1)])/\(P0=P1)=False/\(P0=P2)=False/\(P1=P0)=False/\(P1=P2)=False/\(P2=P0)=False/\(P2=P1)=False/\m.gl 2=.eptr [(cA cS bT)] 0 0/\m.gl 4=.eptr [(cA (cA cS) cT)] 0 0->SC Tryd.prog 87 vs q m (fun v m'=>v=.agg ((aA.C r.1))/\m'=(m.set P0 ((aB.C r.2))))
theorem tH (n:Nat):uJ (jE n):=by
 rintro a0 a1 r h q m vs P0 P1 P2 ⟨hv,hmP0,hmP1,hmP2,hn0_1,hn0_2,hn1_0,hn1_2,hn2_0,hn2_1,hg2,hg4⟩;refine SC.weak ?_;rw [hv];refine SC.apart hmP0 fun hpP0=>?_;refine SC.apart hmP1 fun hpP1=>?_;refine SC.apart hmP2 fun hpP2=>?_;have hmsP0:=cM hmP0
 try simp only [go_sem] at hmP0 hmsP0
 skip
 try simp only [go_sem,seval,Int.reduceToNat,UInt8.reduceToNat] at hmP2
 refine eN Tryd.func87 rfl (fun xs w=>Tryd.call87 xs w) Tryd.ntmps87 (by kernel_rfl) Tryd.results87 ?_;unfold jE at h;refine aL fun _ z=>?_;simp only [go_sem];apply z;refine aI ?_;obtain ⟨x2,h3,h⟩:=aC h;refine aM fun _ z=>?_;simp only [go_sem,seval,cF hpP1,cF hpP2,hmP1,hmP2];refine SC.by_ (eM n a0 (IntKind.i64.wrap (a1+(2:Int))) _ h3 _ _ _ P0 (by simp only [go_sem,↓reduceIte,cF hpP0,hmP0,hg2,hg4])) ?_;simp only [go_sem,seval,cF hpP0];apply z;refine aU ?_;obtain rfl:=aJ h;refine ⟨by simp,?_⟩;simp only [go_sem,seval,aQ,aK,aW hpP0]
def qW (f:aB->Int->Option ((List aA) × aB)):Prop:=∀a0 a1 r,f a0 a1=some r->∀(q:Pa) (m:M) (vs:List V) (P0:Pa) (P1:Pa) (P2:Pa),vs.map V.weak1=[.ptr P0 0,.fn (.func 87) [] [.ptr P1 0,.ptr P2 0]]/\m.blk P0=some ((aB.C a0))/\m.blk P1=some ([.ptr P0 0])/\m.blk P2=some ([.lit (.int .i64 a1)])/\(P0=P1)=False/\(P0=P2)=False/\(P1=P0)=False/\(P1=P2)=False/\(P2=P0)=False/\(P2=P1)=False/\m.gl 2=.eptr [(cA cS bT)] 0 0/\m.gl 4=.eptr [(cA (cA cS) cT)] 0 0->SC Tryd.prog 35 vs q m (fun v m'=>v=.list .none (r.1.map aA.C)/\m'=(m.set P0 ((aB.C r.2))))
theorem qM (n:Nat):qW (gG n):=by
 rintro a0 a1 r h q m vs P0 P1 P2 ⟨hv,hmP0,hmP1,hmP2,hn0_1,hn0_2,hn1_0,hn1_2,hn2_0,hn2_1,hg2,hg4⟩;refine SC.weak ?_;rw [hv];refine SC.apart hmP0 fun hpP0=>?_;refine SC.apart hmP1 fun hpP1=>?_;refine SC.apart hmP2 fun hpP2=>?_;have hmsP0:=cM hmP0
 try simp only [go_sem] at hmP0 hmsP0
 skip
 try simp only [go_sem,seval,Int.reduceToNat,UInt8.reduceToNat] at hmP2
 refine eN Tryd.func35 rfl (fun xs w=>Tryd.call35 xs w) Tryd.ntmps35 (by kernel_rfl) Tryd.results35 ?_;unfold gG at h;refine aL fun _ z=>?_;simp only [go_sem];apply z;refine aL fun _ z=>?_;simp only [go_sem,Nat.reduceAdd];apply z;refine aI ?_;obtain ⟨x1,h2,h⟩:=aC h;refine aM fun _ z=>?_;simp only [go_sem,seval];refine SC.by_ (bH n a0 ([40]:cD) _ h2 _ _ _ P0 (by simp only [go_sem,hmP0,hg2])) ?_;simp only [go_sem,Nat.reduceAdd];apply z;refine aI ?_;refine aI ?_;obtain ⟨x3,h4,h⟩:=aC h;refine aM fun _ z=>?_;simp only [go_sem,seval];refine SC.by_ (bL n x1 ([41]:cD) _ h4 _ _ _ P0 (by simp only [go_sem,↓reduceIte,hg2])) ?_;simp only [go_sem,Nat.reduceAdd];apply z;refine dA x3.1 (fun c5=>?_) (fun c5=>?_)
 ·replace h:=bC c5 h;refine aL fun _ z=>?_;simp only [go_sem,Nat.reduceAdd,c5];apply z;refine aU ?_
  try simp only [bE]
  obtain rfl:=aJ h;refine ⟨by simp,?_⟩;simp only [go_sem,↓reduceIte,aK,aW hpP0]
 ·replace h:=bD c5 h;refine bB ?_
  try simp only [aE]
  refine aI ?_;obtain ⟨y6,hy6,h⟩:=aC h;refine cZ 8 [] [] rfl (fun E' m'=>∃(oy6_5:Pa) (jy6_5:Nat),E' 0=.ptr P0 0/\E' 5=.list (.st (.anon oy6_5 jy6_5)) (y6.1.map aA.C)/\m'.tok oy6_5 jy6_5=true/\q <:+ oy6_5/\m'.blk P0=some ((aB.C y6.2))/\m'.blk P1=some ([.ptr P0 0])/\m'.blk P2=some ([.lit (.int .i64 a1)])/\m'.gl=m.gl/\m.back q m'=(m.set P0 ((aB.C y6.2)))) ?_ ?_
  ·refine bK ?_;obtain ⟨y10,hy10,hy6⟩:=aC hy6;refine wD 5 ([].map aA.C) rfl (by simp only [go_sem,seval,c5]) ?_;refine dE [] [] rfl (fun c E' m'=>∃v8 v9 o_v8 j_v8,dV n a1 c v8 v9=some y10/\E' 0=.ptr P0 0/\E' 1=.fn (.func 87) [] [.ptr P1 0,.ptr P2 0]/\E' 5=.list (.st (.anon o_v8 j_v8)) (v8.map aA.C)/\m'.tok o_v8 j_v8=true/\q <:+ o_v8/\m'.blk P0=some ((aB.C v9))/\m'.blk P1=some ([.ptr P0 0])/\m'.blk P2=some ([.lit (.int .i64 a1)])/\m'.gl=m.gl/\m.back q m'=(m.set P0 ((aB.C v9)))) n ⟨[],x3.2,(6::q),0,hy10,?_⟩ ?_
   ·simp only [go_sem,seval,cC,aK,aW hpP0,hn1_0,hn2_0,c5,hmP1,hmP2]
   rintro i7 c11 E12 m13 ⟨v8,v9,o_v8,j_v8,hy10,e14⟩ _
   rcases c11 with _ | c11
   ·exact absurd hy10 (by rw [dV];exact fun e=>nomatch e)
   rw [dV] at hy10;refine aI ?_;refine aL fun _ z=>?_;simp only [go_sem,seval,e14];apply z;refine dA (v9.e_ == (0:Int)) (fun c15=>?_) (fun c15=>?_)
   ·replace hy10:=bC c15 hy10;refine bB ?_
    try simp only [aE]
    refine bK ?_;refine aI ?_;obtain ⟨x16,h17,hy10⟩:=aC hy10;obtain ⟨f18,hy10⟩:=cK hy10;have f19:v8.length+1<=1073741824:=by first | omega | (simp only [List.length_append,List.length_cons,List.length_nil] at f18 ⊢;omega)
    have f20:v8.length<=1073741823:=by first | omega | (simp only [List.length_append,List.length_cons,List.length_nil] at f18 ⊢;omega)
    refine aM fun _ z=>?_;simp only [go_sem,seval,c15,e14];refine SC.by_ (tH n v9 a1 _ h17 _ _ _ P0 P1 P2 (by simp only [go_sem,hn0_1,hn0_2,hn1_0,hn1_2,hn2_0,hn2_1,e14,hg2,hg4])) ?_;simp only [go_sem,seval,f19,e14];apply z;refine aI ?_;obtain ⟨x21,h22,hy10⟩:=aC hy10;refine aM fun _ z=>?_;simp only [go_sem,seval,e14];refine SC.by_ (bL n x16.2 ([44]:cD) _ h22 _ _ _ P0 (by simp only [go_sem,↓reduceIte,e14,hg2])) ?_;simp only [go_sem,seval];apply z;refine dA (!x21.1) (fun c23=>?_) (fun c23=>?_)
    ·replace hy10:=bC c23 hy10;refine eG ?_
     try simp only [seval,bZ,bQ,aE]
     obtain rfl:=aJ hy10;obtain rfl:=aJ hy6;refine ⟨by decide,(9::i7::7::q),0,?_⟩;simp only [go_sem,seval,cC,aW hpP0,hn1_0,hn2_0,c23,e14]
    ·replace hy10:=bD c23 hy10;refine bB ?_
     try simp only [aE,aT]
     refine ⟨c11,Nat.lt_succ_self _,(v8++[x16.1]),x21.2,(9::i7::7::q),0,hy10,?_⟩;simp only [go_sem,seval,cC,aW hpP0,hn1_0,hn2_0,c23,e14]
   ·replace hy10:=bD c15 hy10;refine eG ?_
    try simp only [bZ,bQ,↓reduceIte,aE]
    obtain rfl:=aJ hy10;obtain rfl:=aJ hy6;refine ⟨by decide,o_v8,j_v8,?_⟩;simp only [go_sem,seval,c15,e14]
  ·rintro E24 m25 ⟨oy6_5,jy6_5,e26⟩ _;simp only [aE];refine aI ?_;obtain ⟨x27,h28,h⟩:=aC h;refine aM fun _ z=>?_;simp only [go_sem,seval,e26];refine SC.by_ (bH n y6.2 ([41]:cD) _ h28 _ _ _ P0 (by simp only [go_sem,e26,hg2])) ?_;simp only [go_sem,Nat.reduceAdd];apply z;refine aL fun _ z=>?_;simp only [go_sem,seval,e26];apply z;refine aU ?_;obtain rfl:=aJ h;refine ⟨by simp,?_⟩;simp only [go_sem,↓reduceIte,aW hpP0,e26]
def wN (f:aB->aA->Int->Option (aA × aB)):Prop:=∀a0 a1 a2 r,f a0 a1 a2=some r->∀(q:Pa) (m:M) (vs:List V) (P0:Pa),vs.map V.weak1=[.ptr P0 0,.agg ((aA.C a1)),.lit (.int .i64 a2)]/\m.blk P0=some ((aB.C a0))/\m.gl 2=.eptr [(cA cS bT)] 0 0/\m.gl 4=.eptr [(cA (cA cS) cT)] 0 0->SC Tryd.prog 71 vs q m (fun v m'=>v=.agg ((aA.C r.1))/\m'=(m.set P0 ((aB.C r.2))))
theorem vH (n:Nat):wN (kX n):=by
 rintro a0 a1 a2 r h q m vs P0 ⟨hv,hmP0,hg2,hg4⟩;refine SC.weak ?_;rw [hv];refine SC.apart hmP0 fun hpP0=>?_;have hmsP0:=cM hmP0
 try simp only [go_sem] at hmP0 hmsP0
 refine eN Tryd.func71 rfl (fun xs w=>Tryd.call71 xs w) Tryd.ntmps71 (by kernel_rfl) Tryd.results71 ?_;unfold kX at h;refine aL fun _ z=>?_;simp only [go_sem,seval];apply z;refine aI ?_;obtain ⟨x5,h6,h⟩:=aC h;refine aM fun _ z=>?_;simp only [go_sem,seval];refine SC.by_ (fG n a0 _ h6 _ _ _ P0 (by simp only [go_sem,↓reduceIte,cF hpP0,hmP0,hg2])) ?_;simp only [go_sem,seval,cF hpP0];apply z;refine aI ?_;obtain ⟨y7,hy7,h⟩:=aC h;refine cZ 37 [] [((1::q),4)] rfl (fun E' m'=>E' 3=.ptr (0::q) 0/\E' 4=.ptr (1::q) 0/\E' 6=.ptr (3::q) 0/\m'.blk P0=some ((aB.C y7.1))/\m'.blk (0::q)=some ([.ptr P0 0])/\m'.blk (1::q)=some ((aA.C y7.2))/\m'.blk (3::q)=some ([.lit (.int .i64 (0:Int)),.lit (.int .i64 (0:Int)),.lit (.string (bs [])),.lit (.int .u32 (0:Int)),.list .self ([].map aA.C)])/\m'.gl=m.gl/\m.back q m'=(m.set P0 ((aB.C y7.1)))) ?_ ?_
 ·refine bK ?_;refine aI ?_;obtain ⟨x8,h9,hy7⟩:=aC hy7;refine aM fun _ z=>?_;simp only [go_sem,seval,cF hpP0];refine SC.by_ (kZ n x5.2 ([40]:cD) _ h9 _ _ _ P0 (by simp only [go_sem,↓reduceIte,cF hpP0,hg2])) ?_;simp only [go_sem,seval];apply z;refine dA x8 (fun c10=>?_) (fun c10=>?_)
  ·replace hy7:=bC c10 hy7;obtain ⟨x11,h12,hy7⟩:=aC hy7;refine gF fun _ z=>?_;simp only [go_sem,seval,cF hpP0,c10];refine SC.by_ (qM n x5.2 a2 _ h12 _ _ _ P0 (0::q) (2::q) (by simp only [go_sem,seval,cF hpP0,hg2,hg4])) ?_;simp only [go_sem,seval,cF hpP0];apply z;simp only [aE,aT];obtain rfl:=aJ hy7;refine ⟨by decide,?_⟩;simp only [go_sem,seval,aQ,aK,aW hpP0,cF hpP0]
  ·replace hy7:=bD c10 hy7;refine aI ?_;obtain ⟨x13,h14,hy7⟩:=aC hy7;refine aM fun _ z=>?_;simp only [go_sem,seval,cF hpP0,c10];refine SC.by_ (bL n x5.2 ([91]:cD) _ h14 _ _ _ P0 (by simp only [go_sem,↓reduceIte,cF hpP0,hg2])) ?_;simp only [go_sem,seval];apply z;refine dA x13.1 (fun c15=>?_) (fun c15=>?_)
   ·replace hy7:=bC c15 hy7;refine aI ?_;obtain ⟨x16,h17,hy7⟩:=aC hy7;refine aM fun _ z=>?_;simp only [go_sem,seval,cF hpP0,c15];refine SC.by_ (eM n x13.2 (IntKind.i64.wrap (a2+(2:Int))) _ h17 _ _ _ P0 (by simp only [go_sem,↓reduceIte,hg2,hg4])) ?_;simp only [go_sem,seval,cF hpP0];apply z;refine aI ?_;obtain ⟨x18,h19,hy7⟩:=aC hy7;refine aM fun _ z=>?_;simp only [go_sem,seval,cF hpP0];refine SC.by_ (bH n x16.2 ([93]:cD) _ h19 _ _ _ P0 (by simp only [go_sem,↓reduceIte,cF hpP0,hg2])) ?_;simp only [go_sem,Nat.reduceAdd];apply z;refine aI ?_;obtain ⟨x20,h21,hy7⟩:=aC hy7;refine aM fun _ z=>?_;simp only [go_sem,seval,cF hpP0];refine SC.by_ (bH n x18 ([61]:cD) _ h21 _ _ _ P0 (by simp only [go_sem,↓reduceIte,hg2])) ?_;simp only [go_sem,Nat.reduceAdd];apply z;obtain ⟨x22,h23,hy7⟩:=aC hy7;obtain ⟨f24,hy7⟩:=cK hy7;refine bW (tbl:=[0,1,0,0,8,28,60,127,255,511]) (ord:=[(2,0),(3,0),(4,0),(5,0),(0,0),(1,1),(6,0),(7,0),(8,0),(9,0)]) 37 rfl (by kernel_rfl) (by kernel_rfl) fun _ z=>?_;simp only [go_sem,seval,cF hpP0];refine bS (eM n x20 (IntKind.i64.wrap (a2+(1:Int))) _ h23 _ _ _ P0 (by simp only [go_sem,↓reduceIte,hg2,hg4])) rfl ?_;simp only [go_sem,seval,cF hpP0];apply z;simp only [aE,aT];obtain rfl:=aJ hy7;refine ⟨by decide,?_⟩;simp only [go_sem,seval,aQ,cQ,cC,aK,aW hpP0,cF hpP0]
   ·replace hy7:=bD c15 hy7;refine aI ?_;obtain ⟨x25,h26,hy7⟩:=aC hy7;refine aM fun _ z=>?_;simp only [go_sem,seval,cF hpP0,c15];refine SC.by_ (bH n x13.2 ([61]:cD) _ h26 _ _ _ P0 (by simp only [go_sem,↓reduceIte,hg2])) ?_;simp only [go_sem,Nat.reduceAdd];apply z;obtain ⟨x27,h28,hy7⟩:=aC hy7;refine gF fun _ z=>?_;simp only [go_sem,seval,cF hpP0];refine SC.by_ (eM n x25 (IntKind.i64.wrap (a2+(1:Int))) _ h28 _ _ _ P0 (by simp only [go_sem,↓reduceIte,hg2,hg4])) ?_;simp only [go_sem,seval,cF hpP0];apply z;simp only [aE,aT];obtain rfl:=aJ hy7;refine ⟨by decide,?_⟩;simp only [go_sem,seval,aQ,cQ,aK,aW hpP0,cF hpP0]
 ·intro E29 m30 e31 _;simp only [aE];refine aI ?_;obtain ⟨x32,h33,h⟩:=aC h;refine aM fun _ z=>?_;simp only [go_sem,seval,e31];refine SC.by_ (bH n y7.1 ([59]:cD) _ h33 _ _ _ P0 (by simp only [go_sem,e31,hg2])) ?_;simp only [go_sem,Nat.reduceAdd];apply z;refine aL fun _ z=>?_;simp only [go_sem,seval,cF hpP0,e31];apply z;refine aU ?_;obtain rfl:=aJ h;refine ⟨by simp,?_⟩;simp only [go_sem,seval,aQ,aW hpP0,e31]
def jJ (f:aB->Int->Option (aA × aB)):Prop:=∀a0 a1 r,f a0 a1=some r->∀(q:Pa) (m:M) (vs:List V) (P0:Pa),vs.map V.weak1=[.ptr P0 0,.lit (.int .i64 a1)]/\m.blk P0=some ((aB.C a0))/\m.gl 2=.eptr [(cA cS bT)] 0 0/\m.gl 4=.eptr [(cA (cA cS) cT)] 0 0->SC Tryd.prog 37 vs q m (fun v m'=>v=.agg ((aA.C r.1))/\m'=(m.set P0 ((aB.C r.2))))
def lY (f:aB->Int->Option (aA × aB)):Prop:=∀a0 a1 r,f a0 a1=some r->∀(q:Pa) (m:M) (vs:List V) (P0:Pa),vs.map V.weak1=[.ptr P0 0,.lit (.int .i64 a1)]/\m.blk P0=some ((aB.C a0))/\m.gl 2=.eptr [(cA cS bT)] 0 0/\m.gl 4=.eptr [(cA (cA cS) cT)] 0 0->SC Tryd.prog 53 vs q m (fun v m'=>v=.agg ((aA.C r.1))/\m'=(m.set P0 ((aB.C r.2))))
def mU (f:aB->aA->Int->Option (aA × aB)):Prop:=∀a0 a1 a2 r,f a0 a1 a2=some r->∀(q:Pa) (m:M) (vs:List V) (P0:Pa),vs.map V.weak1=[.ptr P0 0,.agg ((aA.C a1)),.lit (.int .i64 a2)]/\m.blk P0=some ((aB.C a0))/\m.gl 2=.eptr [(cA cS bT)] 0 0/\m.gl 4=.eptr [(cA (cA cS) cT)] 0 0->SC Tryd.prog 69 vs q m (fun v m'=>v=.agg ((aA.C r.1))/\m'=(m.set P0 ((aB.C r.2))))
def nT (f:aB->aA->Int->Option (aA × aB)):Prop:=∀a0 a1 a2 r,f a0 a1 a2=some r->∀(q:Pa) (m:M) (vs:List V) (P0:Pa),vs.map V.weak1=[.ptr P0 0,.agg ((aA.C a1)),.lit (.int .i64 a2)]/\m.blk P0=some ((aB.C a0))/\m.gl 2=.eptr [(cA cS bT)] 0 0/\m.gl 4=.eptr [(cA (cA cS) cT)] 0 0->SC Tryd.prog 70 vs q m (fun v m'=>v=.agg ((aA.C r.1))/\m'=(m.set P0 ((aB.C r.2))))
theorem tK {dP:aB->Int->Option (aA × aB)} (rP:lY dP) (n:Nat):jJ (jI dP n):=by
 rintro a0 a1 r h q m vs P0 ⟨hv,hmP0,hg2,hg4⟩;refine SC.weak ?_;rw [hv];refine SC.apart hmP0 fun hpP0=>?_;have hmsP0:=cM hmP0
 try simp only [go_sem] at hmP0 hmsP0
 refine eN Tryd.func37 rfl (fun xs w=>Tryd.call37 xs w) Tryd.ntmps37 (by kernel_rfl) Tryd.results37 ?_;unfold jI at h;refine aL fun _ z=>?_;simp only [go_sem];apply z;refine aI ?_;obtain ⟨x2,h3,h⟩:=aC h;refine aM fun _ z=>?_;simp only [go_sem,seval];refine SC.by_ (qA a0 a1 _ h3 _ _ _ P0 (by simp only [go_sem,↓reduceIte,fZ hpP0,hmP0])) ?_;simp only [go_sem,Nat.reduceAdd];apply z;refine aI ?_;obtain ⟨x4,h6,h⟩:=aC h;refine aM fun _ z=>?_;simp only [go_sem,seval];refine SC.mono (fF x2 (4:Int) _ h6 _ _ _ P0 (by simp only [go_sem,↓reduceIte])) ?_;rintro _ _ ⟨o_x4,j_x4,s_x4,rfl,rfl⟩;replace s_x4:q <:+ o_x4:=List.IsSuffix.trans (by simp only [go_sem]) s_x4;simp only [go_sem,seval];apply z;refine aI ?_;obtain ⟨x7,h8,h⟩:=aC h;refine aM fun _ z=>?_;simp only [go_sem,seval];refine SC.by_ (bH n x4.2 ([123]:cD) _ h8 _ _ _ P0 (by simp only [go_sem,↓reduceIte,fZ hpP0,hg2])) ?_;simp only [go_sem,Nat.reduceAdd];apply z;refine aI ?_;refine bK ?_;obtain ⟨y12,hy12,h⟩:=aC h;refine dE [] [] rfl (fun c E' m'=>∃v10 v11,eW dP n a1 c v10 v11=some y12/\E' 0=.ptr P0 0/\E' 1=.lit (.int .i64 a1)/\E' 4=.ptr (0::q) 0/\E' 5=.ptr (6::q) 0/\m'.blk P0=some ((aB.C v10))/\m'.blk (0::q)=some ([.lit (.int .i64 (0:Int)),.lit (.int .i64 (0:Int)),.lit (.string (bs [])),.lit (.int .u32 (0:Int)),.list .self ([].map aA.C)])/\m'.blk (6::q)=some ([.lit (.int .i64 v11.bN),.lit (.int .i64 v11.eH),.lit (.string (bs v11.bP)),.lit (.int .u32 v11.jC),.list .self (v11.aN.map aA.C)])/\m'.gl=m.gl/\m.back q m'=(m.set P0 ((aB.C v10)))) n ⟨x7,x4.1,hy12,?_⟩ ?_
 ·simp only [go_sem,seval,aQ,cQ,cC,aK,aW hpP0,fZ hpP0,s_x4]
 rintro i9 c13 E14 m15 ⟨v10,v11,hy12,e16⟩ _
 rcases c13 with _ | c13
 ·exact absurd hy12 (by rw [eW];exact fun e=>nomatch e)
 rw [eW] at hy12;refine aI ?_;refine aI ?_;obtain ⟨y17,hy17,hy12⟩:=aC hy12;refine cZ 10 [] [] rfl (fun E' m'=>E' 0=.ptr P0 0/\E' 1=.lit (.int .i64 a1)/\E' 4=.ptr (0::q) 0/\E' 5=.ptr (6::q) 0/\E' 22=.lit (.bool y17)/\m'.blk P0=some ((aB.C v10))/\m'.blk (0::q)=some ([.lit (.int .i64 (0:Int)),.lit (.int .i64 (0:Int)),.lit (.string (bs [])),.lit (.int .u32 (0:Int)),.list .self ([].map aA.C)])/\m'.blk (6::q)=some ([.lit (.int .i64 v11.bN),.lit (.int .i64 v11.eH),.lit (.string (bs v11.bP)),.lit (.int .u32 v11.jC),.list .self (v11.aN.map aA.C)])/\m'.gl=m.gl/\m.back q m'=(m.set P0 ((aB.C v10)))) ?_ ?_
 ·rcases cY (v10.e_ == (0:Int)) with c18 | c18
  ·replace hy17:=bC c18 hy17;obtain ⟨x19,h20,hy17⟩:=aC hy17;refine aM fun _ z=>?_;simp only [go_sem,seval,c18,e16];refine SC.by_ (kZ n v10 ([125]:cD) _ h20 _ _ _ P0 (by simp only [go_sem,e16,hg2])) ?_;simp only [go_sem,seval];apply z;obtain rfl:=aJ hy17;refine ⟨by decide,?_⟩;simp only [go_sem,seval,e16]
  ·replace hy17:=bD c18 hy17;refine aM fun _ z=>?_;simp only [go_sem,seval,c18,e16];apply z;obtain rfl:=aJ hy17;refine ⟨by decide,?_⟩;simp only [go_sem,seval,e16]
 ·intro E21 m22 e23 _;simp only [aE];refine eK y17 (by simp only [go_sem,e23]) (fun c24=>?_) (fun c24=>?_)
  ·replace hy12:=bC c24 hy12;refine bB ?_
   try simp only [aE]
   refine bK ?_;obtain ⟨x25,h26,hy12⟩:=aC hy12;obtain ⟨f27,hy12⟩:=cK hy12;have f28:v11.aN.length+1<=1073741824:=by first | omega | (simp only [List.length_append,List.length_cons,List.length_nil] at f27 ⊢;omega)
   have f29:v11.aN.length<=1073741823:=by first | omega | (simp only [List.length_append,List.length_cons,List.length_nil] at f27 ⊢;omega)
   refine bW (tbl:=[0,1,0,0,12,28,63,127,255]) (ord:=[(2,0),(3,0),(4,0),(0,0),(1,1),(5,0),(6,0),(7,0),(8,0)]) 19 rfl (by kernel_rfl) (by kernel_rfl) fun _ z=>?_;simp only [go_sem,seval,e23];refine bS (rP v10 a1 _ h26 _ _ _ P0 (by simp only [go_sem,e23,hg2,hg4])) rfl ?_;simp only [go_sem,seval,fZ hpP0,f28,e23];apply z;simp only [aE,aT];refine ⟨c13,Nat.lt_succ_self _,x25.2,({ v11 with aN:=(v11.aN++[x25.1]) }:aA),hy12,?_⟩;simp only [go_sem,seval,aQ,cQ,cC,aW hpP0,fZ hpP0,e23]
  ·replace hy12:=bD c24 hy12;refine eG ?_
   try simp only [bZ,bQ,↓reduceIte,aE]
   obtain rfl:=aJ hy12;refine aI ?_;obtain ⟨x30,h31,h⟩:=aC h;refine aM fun _ z=>?_;simp only [go_sem,seval,e23];refine SC.by_ (bH n v10 ([125]:cD) _ h31 _ _ _ P0 (by simp only [go_sem,e23,hg2])) ?_;simp only [go_sem,Nat.reduceAdd];apply z;refine aL fun _ z=>?_;simp only [go_sem,seval,fZ hpP0,e23];apply z;refine aU ?_;obtain rfl:=aJ h;refine ⟨by simp,?_⟩;simp only [go_sem,seval,aQ,aW hpP0,e23]
theorem rM {jW:aB->aA->Int->Option (aA × aB)} (tB:mU jW) {lF:aB->aA->Int->Option (aA × aB)} (uZ:nT lF) (n:Nat):lY (gW jW lF n):=by
 rintro a0 a1 r h q m vs P0 ⟨hv,hmP0,hg2,hg4⟩;refine SC.weak ?_;rw [hv];refine SC.apart hmP0 fun hpP0=>?_;have hmsP0:=cM hmP0
 try simp only [go_sem] at hmP0 hmsP0
 refine eN Tryd.func53 rfl (fun xs w=>Tryd.call53 xs w) Tryd.ntmps53 (by kernel_rfl) Tryd.results53 ?_;unfold gW at h;refine aL fun _ z=>?_;simp only [go_sem];apply z;refine aI ?_;obtain ⟨x2,h4,h⟩:=aC h;refine aM fun _ z=>?_;simp only [go_sem,seval];refine SC.mono (fF a0 (8:Int) _ h4 _ _ _ P0 (by simp only [go_sem,↓reduceIte,cF hpP0,hmP0])) ?_;rintro _ _ ⟨o_x2,j_x2,s_x2,rfl,rfl⟩;replace s_x2:q <:+ o_x2:=List.IsSuffix.trans (by simp only [go_sem]) s_x2;simp only [go_sem,seval];apply z;refine aI ?_;obtain ⟨y5,hy5,h⟩:=aC h;refine cZ 26 [] [] rfl (fun E' m'=>∃(y5a:(aB × aA)),y5=.inl y5a/\E' 0=.ptr P0 0/\E' 4=.ptr (0::q) 0/\E' 5=.ptr (3::q) 0/\m'.blk P0=some ((aB.C y5a.1))/\m'.blk (0::q)=some ([.lit (.int .i64 (0:Int)),.lit (.int .i64 (0:Int)),.lit (.string (bs [])),.lit (.int .u32 (0:Int)),.list .self ([].map aA.C)])/\m'.blk (3::q)=some ([.lit (.int .i64 y5a.2.bN),.lit (.int .i64 y5a.2.eH),.lit (.string (bs y5a.2.bP)),.lit (.int .u32 y5a.2.jC),.list .self (y5a.2.aN.map aA.C)])/\m'.gl=m.gl/\m.back q m'=(m.set P0 ((aB.C y5a.1)))) ?_ ?_
 ·refine bK ?_;refine aI ?_;obtain ⟨x6,h7,hy5⟩:=aC hy5;refine aM fun _ z=>?_;simp only [go_sem,seval];refine SC.by_ (bL n x2.2 ([108,101,116]:cD) _ h7 _ _ _ P0 (by simp only [go_sem,↓reduceIte,cF hpP0,hg2])) ?_;simp only [go_sem,seval];apply z;refine dA x6.1 (fun c8=>?_) (fun c8=>?_)
  ·replace hy5:=bC c8 hy5;refine aL fun _ z=>?_;simp only [go_sem,seval,cF hpP0,c8];apply z;refine aI ?_;obtain ⟨x9,h10,hy5⟩:=aC hy5;refine aM fun _ z=>?_;simp only [go_sem,seval];refine SC.by_ (pO n x6.2 ({ x2.1 with bN:=(5:Int) }:aA) (IntKind.i64.wrap (a1+(1:Int))) _ h10 _ _ _ P0 (by simp only [go_sem,↓reduceIte,cF hpP0,hg2,hg4])) ?_;simp only [go_sem,seval,cF hpP0];apply z;refine aU ?_
   try simp only [bE,bX]
   obtain rfl:=aJ hy5;simp only [Sum.elim_inr] at h;obtain rfl:=aJ h;refine ⟨by simp,?_⟩;simp only [go_sem,seval,aQ,cQ,cC,aK,aW hpP0,s_x2]
  ·replace hy5:=bD c8 hy5;refine aI ?_;obtain ⟨x11,h12,hy5⟩:=aC hy5;refine aM fun _ z=>?_;simp only [go_sem,seval,c8];refine SC.by_ (bL n x6.2 ([118,97,114]:cD) _ h12 _ _ _ P0 (by simp only [go_sem,↓reduceIte,hg2])) ?_;simp only [go_sem,seval];apply z;refine dA x11.1 (fun c13=>?_) (fun c13=>?_)
   ·replace hy5:=bC c13 hy5;refine aL fun _ z=>?_;simp only [go_sem,seval,cF hpP0,c13];apply z;refine aI ?_;obtain ⟨x14,h15,hy5⟩:=aC hy5;refine aM fun _ z=>?_;simp only [go_sem,seval];refine SC.by_ (pO n x11.2 ({ x2.1 with bN:=(6:Int) }:aA) (IntKind.i64.wrap (a1+(1:Int))) _ h15 _ _ _ P0 (by simp only [go_sem,↓reduceIte,cF hpP0,hg2,hg4])) ?_;simp only [go_sem,seval,cF hpP0];apply z;refine aU ?_
    try simp only [bE,bX]
    obtain rfl:=aJ hy5;simp only [Sum.elim_inr] at h;obtain rfl:=aJ h;refine ⟨by simp,?_⟩;simp only [go_sem,seval,aQ,cQ,cC,aK,aW hpP0,s_x2]
   ·replace hy5:=bD c13 hy5;refine aI ?_;obtain ⟨x16,h17,hy5⟩:=aC hy5;refine aM fun _ z=>?_;simp only [go_sem,seval,c13];refine SC.by_ (bL n x11.2 ([97,114,114]:cD) _ h17 _ _ _ P0 (by simp only [go_sem,↓reduceIte,hg2])) ?_;simp only [go_sem,seval];apply z;refine dA x16.1 (fun c18=>?_) (fun c18=>?_)
    ·replace hy5:=bC c18 hy5;refine aI ?_;obtain ⟨x19,h20,hy5⟩:=aC hy5;refine aM fun _ z=>?_;simp only [go_sem,seval,c18];refine SC.by_ (fG n x16.2 _ h20 _ _ _ P0 (by simp only [go_sem,↓reduceIte,hg2])) ?_;simp only [go_sem,seval,cF hpP0];apply z;obtain ⟨x21,h22,hy5⟩:=aC hy5;refine gF fun _ z=>?_;simp only [go_sem,seval];refine SC.by_ (pY n x19.2 _ h22 _ _ _ P0 (by simp only [go_sem,↓reduceIte,cF hpP0,hg2])) ?_;simp only [go_sem,seval,cF hpP0];apply z;simp only [aE,aT];obtain rfl:=aJ hy5;refine ⟨by decide,(x21.2,({ x2.1 with bN:=(7:Int),bP:=x19.1,jC:=x21.1 }:aA)),rfl,?_⟩;simp only [go_sem,seval,aQ,cQ,cC,aK,aW hpP0,cF hpP0,s_x2]
    ·replace hy5:=bD c18 hy5;refine aI ?_;obtain ⟨x23,h24,hy5⟩:=aC hy5;refine aM fun _ z=>?_;simp only [go_sem,seval,c18];refine SC.by_ (bL n x16.2 ([114,101,116,117,114,110]:cD) _ h24 _ _ _ P0 (by simp only [go_sem,↓reduceIte,hg2])) ?_;simp only [go_sem,seval];apply z;refine dA x23.1 (fun c25=>?_) (fun c25=>?_)
     ·replace hy5:=bC c25 hy5;obtain ⟨x26,h27,hy5⟩:=aC hy5;refine gF fun _ z=>?_;simp only [go_sem,seval,c25];refine SC.by_ (eM n x23.2 (IntKind.i64.wrap (a1+(1:Int))) _ h27 _ _ _ P0 (by simp only [go_sem,↓reduceIte,hg2,hg4])) ?_;simp only [go_sem,seval,cF hpP0];apply z;simp only [aE,aT];obtain rfl:=aJ hy5;refine ⟨by decide,(x26.2,({ x2.1 with bN:=(13:Int),aN:=[x26.1] }:aA)),rfl,?_⟩;simp only [go_sem,seval,aQ,cQ,cC,aK,aW hpP0,cF hpP0,s_x2]
     ·replace hy5:=bD c25 hy5;refine aI ?_;obtain ⟨x28,h29,hy5⟩:=aC hy5;refine aM fun _ z=>?_;simp only [go_sem,seval,c25];refine SC.by_ (bL n x23.2 ([105,102]:cD) _ h29 _ _ _ P0 (by simp only [go_sem,↓reduceIte,hg2])) ?_;simp only [go_sem,seval];apply z;refine dA x28.1 (fun c30=>?_) (fun c30=>?_)
      ·replace hy5:=bC c30 hy5;refine aI ?_;obtain ⟨x31,h32,hy5⟩:=aC hy5;refine aM fun _ z=>?_;simp only [go_sem,seval,cF hpP0,c30];refine SC.by_ (tB x28.2 x2.1 a1 _ h32 _ _ _ P0 (by simp only [go_sem,↓reduceIte,hg2,hg4])) ?_;simp only [go_sem,seval,cF hpP0];apply z;refine aU ?_
       try simp only [bE,bX]
       obtain rfl:=aJ hy5;simp only [Sum.elim_inr] at h;obtain rfl:=aJ h;refine ⟨by simp,?_⟩;simp only [go_sem,seval,aQ,cQ,cC,aK,aW hpP0,s_x2]
      ·replace hy5:=bD c30 hy5;refine aI ?_;obtain ⟨x33,h34,hy5⟩:=aC hy5;refine aM fun _ z=>?_;simp only [go_sem,seval,c30];refine SC.by_ (bL n x28.2 ([102,111,114]:cD) _ h34 _ _ _ P0 (by simp only [go_sem,↓reduceIte,hg2])) ?_;simp only [go_sem,seval];apply z;refine dA x33.1 (fun c35=>?_) (fun c35=>?_)
       ·replace hy5:=bC c35 hy5;refine aI ?_;obtain ⟨x36,h37,hy5⟩:=aC hy5;refine aM fun _ z=>?_;simp only [go_sem,seval,cF hpP0,c35];refine SC.by_ (uZ x33.2 x2.1 a1 _ h37 _ _ _ P0 (by simp only [go_sem,↓reduceIte,hg2,hg4])) ?_;simp only [go_sem,seval,cF hpP0];apply z;refine aU ?_
        try simp only [bE,bX]
        obtain rfl:=aJ hy5;simp only [Sum.elim_inr] at h;obtain rfl:=aJ h;refine ⟨by simp,?_⟩;simp only [go_sem,seval,aQ,cQ,cC,aK,aW hpP0,s_x2]
       ·replace hy5:=bD c35 hy5;refine aI ?_;obtain ⟨x38,h39,hy5⟩:=aC hy5;refine aM fun _ z=>?_;simp only [go_sem,seval,cF hpP0,c35];refine SC.by_ (vH n x33.2 x2.1 a1 _ h39 _ _ _ P0 (by simp only [go_sem,↓reduceIte,hg2,hg4])) ?_;simp only [go_sem,seval,cF hpP0];apply z;refine aU ?_
        try simp only [bE,bX]
        obtain rfl:=aJ hy5;simp only [Sum.elim_inr] at h;obtain rfl:=aJ h;refine ⟨by simp,?_⟩;simp only [go_sem,seval,aQ,cQ,cC,aK,aW hpP0,s_x2]
 ·rintro E40 m41 ⟨y5a,rfl,e42⟩ _;simp only [Sum.elim_inl] at h;simp only [aE];refine aI ?_;obtain ⟨x43,h44,h⟩:=aC h;refine aM fun _ z=>?_;simp only [go_sem,seval,e42];refine SC.by_ (bH n y5a.1 ([59]:cD) _ h44 _ _ _ P0 (by simp only [go_sem,e42,hg2])) ?_;simp only [go_sem,Nat.reduceAdd];apply z;refine aL fun _ z=>?_;simp only [go_sem,seval,cF hpP0,e42];apply z;refine aU ?_;obtain rfl:=aJ h;refine ⟨by simp,?_⟩;simp only [go_sem,seval,aQ,aW hpP0,e42]
theorem sQ {dM:aB->Int->Option (aA × aB)} (kB:jJ dM) (n:Nat):mU (iT dM n):=by
 rintro a0 a1 a2 r h q m vs P0 ⟨hv,hmP0,hg2,hg4⟩;refine SC.weak ?_;rw [hv];refine SC.apart hmP0 fun hpP0=>?_;have hmsP0:=cM hmP0
 try simp only [go_sem] at hmP0 hmsP0
 refine eN Tryd.func69 rfl (fun xs w=>Tryd.call69 xs w) Tryd.ntmps69 (by kernel_rfl) Tryd.results69 ?_;unfold iT at h;refine aL fun _ z=>?_;simp only [go_sem,Nat.reduceAdd];apply z;refine aI ?_;obtain ⟨x3,h4,h⟩:=aC h;refine aM fun _ z=>?_;simp only [go_sem,seval];refine SC.by_ (eM n a0 (IntKind.i64.wrap (a2+(1:Int))) _ h4 _ _ _ P0 (by simp only [go_sem,↓reduceIte,cF hpP0,hmP0,hg2,hg4])) ?_;simp only [go_sem,seval,cF hpP0];apply z;refine aI ?_;obtain ⟨x5,h6,h⟩:=aC h;obtain ⟨f7,h⟩:=cK h;refine bW (tbl:=[0,1,0,0,8,28,60,127,255,511]) (ord:=[(2,0),(3,0),(4,0),(5,0),(0,0),(1,1),(6,0),(7,0),(8,0),(9,0)]) 21 rfl (by kernel_rfl) (by kernel_rfl) fun _ z=>?_;simp only [go_sem,seval];refine bS (kB x3.2 (IntKind.i64.wrap (a2+(1:Int))) _ h6 _ _ _ P0 (by simp only [go_sem,↓reduceIte,cF hpP0,hg2,hg4])) rfl ?_;simp only [go_sem,seval,cF hpP0];apply z;simp only [aE];refine aI ?_;refine aI ?_;obtain ⟨x8,h9,h⟩:=aC h;refine aM fun _ z=>?_;simp only [go_sem,seval];refine SC.by_ (bL n x5.2 ([101,108,115,101]:cD) _ h9 _ _ _ P0 (by simp only [go_sem,↓reduceIte,cF hpP0,hg2])) ?_;simp only [go_sem,Nat.reduceAdd];apply z;refine dA x8.1 (fun c10=>?_) (fun c10=>?_)
 ·replace h:=bC c10 h;obtain ⟨x11,h12,h⟩:=aC h;obtain ⟨f13,h⟩:=cK h;have f14:1+1+1<=1073741824:=by first | omega | (simp only [List.length_append,List.length_cons,List.length_nil] at f13 ⊢;omega)
  refine bW (tbl:=[0,1,0,0,8,28,60,127,255,511]) (ord:=[(2,0),(3,0),(4,0),(5,0),(0,0),(1,1),(6,0),(7,0),(8,0),(9,0)]) 33 rfl (by kernel_rfl) (by kernel_rfl) fun _ z=>?_;simp only [go_sem,seval,c10];refine bS (kB x8.2 (IntKind.i64.wrap (a2+(1:Int))) _ h12 _ _ _ P0 (by simp only [go_sem,↓reduceIte,hg2,hg4])) rfl ?_;simp only [go_sem,seval,cF hpP0,f14];apply z;simp only [aE];refine aL fun _ z=>?_;simp only [go_sem,seval,cF hpP0];apply z;refine aU ?_;obtain rfl:=aJ h;refine ⟨by simp,?_⟩;simp only [go_sem,seval,aQ,cQ,cC,aK,aW hpP0]
 ·replace h:=bD c10 h;refine bB ?_
  try simp only [aE]
  refine aL fun _ z=>?_;simp only [go_sem,seval,cF hpP0,c10];apply z;refine aU ?_;obtain rfl:=aJ h;refine ⟨by simp,?_⟩;simp only [go_sem,seval,aQ,cQ,cC,aK,aW hpP0]
theorem uL {dM:aB->Int->Option (aA × aB)} (kB:jJ dM) (n:Nat):nT (kC dM n):=by
 rintro a0 a1 a2 r h q m vs P0 ⟨hv,hmP0,hg2,hg4⟩;refine SC.weak ?_;rw [hv];refine SC.apart hmP0 fun hpP0=>?_;have hmsP0:=cM hmP0
 try simp only [go_sem] at hmP0 hmsP0
 refine eN Tryd.func70 rfl (fun xs w=>Tryd.call70 xs w) Tryd.ntmps70 (by kernel_rfl) Tryd.results70 ?_;unfold kC at h;refine aL fun _ z=>?_;simp only [go_sem,Nat.reduceAdd];apply z;refine aI ?_;obtain ⟨x3,h4,h⟩:=aC h;refine aM fun _ z=>?_;simp only [go_sem,seval];refine SC.by_ (fG n a0 _ h4 _ _ _ P0 (by simp only [go_sem,↓reduceIte,cF hpP0,hmP0,hg2])) ?_;simp only [go_sem,seval,cF hpP0];apply z;refine aI ?_;obtain ⟨x5,h6,h⟩:=aC h;refine aM fun _ z=>?_;simp only [go_sem,seval];refine SC.by_ (bH n x3.2 ([105,110]:cD) _ h6 _ _ _ P0 (by simp only [go_sem,↓reduceIte,cF hpP0,hg2])) ?_;simp only [go_sem,Nat.reduceAdd];apply z;refine aI ?_;obtain ⟨x7,h8,h⟩:=aC h;refine aM fun _ z=>?_;simp only [go_sem,seval];refine SC.by_ (eM n x5 (IntKind.i64.wrap (a2+(1:Int))) _ h8 _ _ _ P0 (by simp only [go_sem,↓reduceIte,hg2,hg4])) ?_;simp only [go_sem,seval,cF hpP0];apply z;refine aI ?_;obtain ⟨x9,h10,h⟩:=aC h;refine aM fun _ z=>?_;simp only [go_sem,seval];refine SC.by_ (bH n x7.2 ([46,46]:cD) _ h10 _ _ _ P0 (by simp only [go_sem,↓reduceIte,cF hpP0,hg2])) ?_;simp only [go_sem,Nat.reduceAdd];apply z;refine aI ?_;obtain ⟨x11,h12,h⟩:=aC h;obtain ⟨f13,h⟩:=cK h;refine bW (tbl:=[0,1,0,0,8,28,60,127,255,511]) (ord:=[(2,0),(3,0),(4,0),(5,0),(0,0),(1,1),(6,0),(7,0),(8,0),(9,0)]) 29 rfl (by kernel_rfl) (by kernel_rfl) fun _ z=>?_;simp only [go_sem,seval];refine bS (eM n x9 (IntKind.i64.wrap (a2+(1:Int))) _ h12 _ _ _ P0 (by simp only [go_sem,↓reduceIte,hg2,hg4])) rfl ?_;simp only [go_sem,seval,cF hpP0];apply z;simp only [aE];refine aI ?_;obtain ⟨x14,h15,h⟩:=aC h;obtain ⟨f16,h⟩:=cK h;have f17:1+1+1<=1073741824:=by first | omega | (simp only [List.length_append,List.length_cons,List.length_nil] at f16 ⊢;omega)
 refine bW (tbl:=[0,1,0,0,8,28,60,127,255,511]) (ord:=[(2,0),(3,0),(4,0),(5,0),(0,0),(1,1),(6,0),(7,0),(8,0),(9,0)]) 39 rfl (by kernel_rfl) (by kernel_rfl) fun _ z=>?_;simp only [go_sem,seval];refine bS (kB x11.2 (IntKind.i64.wrap (a2+(1:Int))) _ h15 _ _ _ P0 (by simp only [go_sem,↓reduceIte,cF hpP0,hg2,hg4])) rfl ?_;simp only [go_sem,seval,cF hpP0,f17];apply z;simp only [aE];refine aL fun _ z=>?_;simp only [go_sem,seval,cF hpP0];apply z;refine aU ?_;obtain rfl:=aJ h;refine ⟨by simp,?_⟩;simp only [go_sem,seval,aQ,cQ,cC,aK,aW hpP0]
theorem nX:∀n,jJ (dS n)/\lY (uI n)/\mU (xU n)/\nT (zP n)
 | 0=>⟨fun _ _ _ h=>gN h,fun _ _ _ h=>gN h,fun _ _ _ _ h=>gN h,fun _ _ _ _ h=>gN h⟩
 | n+1=>
   have ih:=nX n
   ⟨tK ih.2.1 n,rM ih.2.2.1 ih.2.2.2 n,sQ ih.1 n,uL ih.1 n⟩
theorem gQ (n:Nat):jJ (dS n):=(nX n).1
def tJ (f:aB->Option (aA × aB)):Prop:=∀a0 r,f a0=some r->∀(q:Pa) (m:M) (vs:List V) (P0:Pa),vs.map V.weak1=[.ptr P0 0]/\m.blk P0=some ((aB.C a0))/\m.gl 2=.eptr [(cA cS bT)] 0 0/\m.gl 4=.eptr [(cA (cA cS) cT)] 0 0->SC Tryd.prog 21 vs q m (fun v m'=>v=.agg ((aA.C r.1))/\m'=(m.set P0 ((aB.C r.2))))
theorem sP (n:Nat):tJ (iS n):=by
 rintro a0 r h q m vs P0 ⟨hv,hmP0,hg2,hg4⟩;refine SC.weak ?_;rw [hv];refine SC.apart hmP0 fun hpP0=>?_;have hmsP0:=cM hmP0
 try simp only [go_sem] at hmP0 hmsP0
 refine eN Tryd.func21 rfl (fun xs w=>Tryd.call21 xs w) Tryd.ntmps21 (by kernel_rfl) Tryd.results21 ?_;unfold iS at h;refine aL fun _ z=>?_;simp only [go_sem];apply z;refine aI ?_;obtain ⟨x2,h4,h⟩:=aC h;refine aM fun _ z=>?_;simp only [go_sem,seval];refine SC.mono (fF a0 (2:Int) _ h4 _ _ _ P0 (by simp only [go_sem,↓reduceIte,cF hpP0,hmP0])) ?_;rintro _ _ ⟨o_x2,j_x2,s_x2,rfl,rfl⟩;replace s_x2:q <:+ o_x2:=List.IsSuffix.trans (by simp only [go_sem]) s_x2;simp only [go_sem,seval];apply z;refine aI ?_;refine aI ?_;obtain ⟨x5,h6,h⟩:=aC h;refine aM fun _ z=>?_;simp only [go_sem,seval];refine SC.by_ (bL n x2.2 ([101,120,112,111,114,116]:cD) _ h6 _ _ _ P0 (by simp only [go_sem,↓reduceIte,cF hpP0,hg2])) ?_;simp only [go_sem,Nat.reduceAdd];apply z;refine dA x5.1 (fun c7=>?_) (fun c7=>?_)
 ·replace h:=bC c7 h;refine aM fun _ z=>?_;simp only [go_sem,seval,cF hpP0,c7];apply z;refine aI ?_;obtain ⟨x8,h9,h⟩:=aC h;refine aM fun _ z=>?_;simp only [go_sem,seval];refine SC.by_ (bH n x5.2 ([102,110]:cD) _ h9 _ _ _ P0 (by simp only [go_sem,↓reduceIte,cF hpP0,hg2])) ?_;simp only [go_sem,Nat.reduceAdd];apply z;refine aI ?_;obtain ⟨x10,h11,h⟩:=aC h;refine aM fun _ z=>?_;simp only [go_sem,seval];refine SC.by_ (fG n x8 _ h11 _ _ _ P0 (by simp only [go_sem,↓reduceIte,hg2])) ?_;simp only [go_sem,seval,cF hpP0];apply z;refine aI ?_;obtain ⟨x12,h13,h⟩:=aC h;refine aM fun _ z=>?_;simp only [go_sem,seval];refine SC.mono (mZ n x10.2 _ h13 _ _ _ P0 (by simp only [go_sem,↓reduceIte,cF hpP0,hg2])) ?_;rintro _ _ ⟨o_x12,j_x12,s_x12,rfl,rfl⟩;replace s_x12:q <:+ o_x12:=List.IsSuffix.trans (by simp only [go_sem]) s_x12;simp only [go_sem,seval,cF hpP0];apply z;refine aI ?_;refine aI ?_;obtain ⟨x14,h15,h⟩:=aC h;refine aM fun _ z=>?_;simp only [go_sem,seval];refine SC.by_ (bL n x12.2 ([45,62]:cD) _ h15 _ _ _ P0 (by simp only [go_sem,↓reduceIte,cF hpP0,hg2])) ?_;simp only [go_sem,Nat.reduceAdd];apply z;refine dA x14.1 (fun c16=>?_) (fun c16=>?_)
  ·replace h:=bC c16 h;refine bK ?_;refine aI ?_;obtain ⟨x17,h18,h⟩:=aC h;refine aM fun _ z=>?_;simp only [go_sem,seval,c16];refine SC.by_ (bL n x14.2 ([117,51,50]:cD) _ h18 _ _ _ P0 (by simp only [go_sem,↓reduceIte,hg2])) ?_;simp only [go_sem,seval];apply z;refine dA x17.1 (fun c19=>?_) (fun c19=>?_)
   ·replace h:=bC c19 h;refine gF fun _ z=>?_;simp only [go_sem,seval,cF hpP0,c19];apply z;simp only [aE,aT];refine aI ?_;obtain ⟨x20,h21,h⟩:=aC h;obtain ⟨f22,h⟩:=cK h;have f23:x12.1.length+1<=1073741824:=by first | omega | (simp only [List.length_append,List.length_cons,List.length_nil] at f22 ⊢;omega)
    have f24:x12.1.length<=1073741823:=by first | omega | (simp only [List.length_append,List.length_cons,List.length_nil] at f22 ⊢;omega)
    refine bW (tbl:=[0,1,0,4,12,31,63,127]) (ord:=[(2,0),(3,0),(0,0),(1,1),(4,0),(5,0),(6,0),(7,0)]) 39 rfl (by kernel_rfl) (by kernel_rfl) fun _ z=>?_;simp only [go_sem,seval];refine bS (gQ n x17.2 (1:Int) _ h21 _ _ _ P0 (by simp only [go_sem,↓reduceIte,cF hpP0,hg2,hg4])) rfl ?_;simp only [go_sem,seval,cF hpP0,f23];apply z;simp only [aE];refine aL fun _ z=>?_;simp only [go_sem,seval,cF hpP0];apply z;refine aU ?_;obtain rfl:=aJ h;refine ⟨by simp,?_⟩;simp only [go_sem,seval,aQ,cQ,cC,aK,aW hpP0,s_x2,s_x12]
   ·replace h:=bD c19 h;refine aI ?_;obtain ⟨x25,h26,h⟩:=aC h;refine aM fun _ z=>?_;simp only [go_sem,seval,c19];refine SC.by_ (bH n x17.2 ([117,54,52]:cD) _ h26 _ _ _ P0 (by simp only [go_sem,↓reduceIte,hg2])) ?_;simp only [go_sem,Nat.reduceAdd];apply z;refine gF fun _ z=>?_;simp only [go_sem,seval,cF hpP0];apply z;simp only [aE,aT];refine aI ?_;obtain ⟨x27,h28,h⟩:=aC h;obtain ⟨f29,h⟩:=cK h;have f30:x12.1.length+1<=1073741824:=by first | omega | (simp only [List.length_append,List.length_cons,List.length_nil] at f29 ⊢;omega)
    have f31:x12.1.length<=1073741823:=by first | omega | (simp only [List.length_append,List.length_cons,List.length_nil] at f29 ⊢;omega)
    refine bW (tbl:=[0,1,0,4,12,31,63,127]) (ord:=[(2,0),(3,0),(0,0),(1,1),(4,0),(5,0),(6,0),(7,0)]) 41 rfl (by kernel_rfl) (by kernel_rfl) fun _ z=>?_;simp only [go_sem,seval];refine bS (gQ n x25 (1:Int) _ h28 _ _ _ P0 (by simp only [go_sem,↓reduceIte,cF hpP0,hg2,hg4])) rfl ?_;simp only [go_sem,seval,cF hpP0,f30];apply z;simp only [aE];refine aL fun _ z=>?_;simp only [go_sem,seval,cF hpP0];apply z;refine aU ?_;obtain rfl:=aJ h;refine ⟨by simp,?_⟩;simp only [go_sem,seval,aQ,cQ,cC,aK,aW hpP0,s_x2,s_x12]
  ·replace h:=bD c16 h;refine bB ?_
   try simp only [aE]
   refine aI ?_;obtain ⟨x32,h33,h⟩:=aC h;obtain ⟨f34,h⟩:=cK h;have f35:x12.1.length+1<=1073741824:=by first | omega | (simp only [List.length_append,List.length_cons,List.length_nil] at f34 ⊢;omega)
   have f36:x12.1.length<=1073741823:=by first | omega | (simp only [List.length_append,List.length_cons,List.length_nil] at f34 ⊢;omega)
   refine bW (tbl:=[0,1,0,4,12,31,63,127]) (ord:=[(2,0),(3,0),(0,0),(1,1),(4,0),(5,0),(6,0),(7,0)]) 31 rfl (by kernel_rfl) (by kernel_rfl) fun _ z=>?_;simp only [go_sem,seval,c16];refine bS (gQ n x14.2 (1:Int) _ h33 _ _ _ P0 (by simp only [go_sem,↓reduceIte,hg2,hg4])) rfl ?_;simp only [go_sem,seval,cF hpP0,f35];apply z;simp only [aE];refine aL fun _ z=>?_;simp only [go_sem,seval,cF hpP0];apply z;refine aU ?_;obtain rfl:=aJ h;refine ⟨by simp,?_⟩;simp only [go_sem,seval,aQ,cQ,cC,aK,aW hpP0,s_x2,s_x12]
 ·replace h:=bD c7 h;refine bB ?_
  try simp only [aE]
  refine aI ?_;obtain ⟨x37,h38,h⟩:=aC h;refine aM fun _ z=>?_;simp only [go_sem,seval,c7];refine SC.by_ (bH n x5.2 ([102,110]:cD) _ h38 _ _ _ P0 (by simp only [go_sem,↓reduceIte,hg2])) ?_;simp only [go_sem,Nat.reduceAdd];apply z;refine aI ?_;obtain ⟨x39,h40,h⟩:=aC h;refine aM fun _ z=>?_;simp only [go_sem,seval];refine SC.by_ (fG n x37 _ h40 _ _ _ P0 (by simp only [go_sem,↓reduceIte,hg2])) ?_;simp only [go_sem,seval,cF hpP0];apply z;refine aI ?_;obtain ⟨x41,h42,h⟩:=aC h;refine aM fun _ z=>?_;simp only [go_sem,seval];refine SC.mono (mZ n x39.2 _ h42 _ _ _ P0 (by simp only [go_sem,↓reduceIte,cF hpP0,hg2])) ?_;rintro _ _ ⟨o_x41,j_x41,s_x41,rfl,rfl⟩;replace s_x41:q <:+ o_x41:=List.IsSuffix.trans (by simp only [go_sem]) s_x41;simp only [go_sem,seval,cF hpP0];apply z;refine aI ?_;refine aI ?_;obtain ⟨x43,h44,h⟩:=aC h;refine aM fun _ z=>?_;simp only [go_sem,seval];refine SC.by_ (bL n x41.2 ([45,62]:cD) _ h44 _ _ _ P0 (by simp only [go_sem,↓reduceIte,cF hpP0,hg2])) ?_;simp only [go_sem,Nat.reduceAdd];apply z;refine dA x43.1 (fun c45=>?_) (fun c45=>?_)
  ·replace h:=bC c45 h;refine bK ?_;refine aI ?_;obtain ⟨x46,h47,h⟩:=aC h;refine aM fun _ z=>?_;simp only [go_sem,seval,c45];refine SC.by_ (bL n x43.2 ([117,51,50]:cD) _ h47 _ _ _ P0 (by simp only [go_sem,↓reduceIte,hg2])) ?_;simp only [go_sem,seval];apply z;refine dA x46.1 (fun c48=>?_) (fun c48=>?_)
   ·replace h:=bC c48 h;refine gF fun _ z=>?_;simp only [go_sem,seval,cF hpP0,c48];apply z;simp only [aE,aT];refine aI ?_;obtain ⟨x49,h50,h⟩:=aC h;obtain ⟨f51,h⟩:=cK h;have f52:x41.1.length+1<=1073741824:=by first | omega | (simp only [List.length_append,List.length_cons,List.length_nil] at f51 ⊢;omega)
    have f53:x41.1.length<=1073741823:=by first | omega | (simp only [List.length_append,List.length_cons,List.length_nil] at f51 ⊢;omega)
    refine bW (tbl:=[0,1,0,4,12,31,63,127]) (ord:=[(2,0),(3,0),(0,0),(1,1),(4,0),(5,0),(6,0),(7,0)]) 37 rfl (by kernel_rfl) (by kernel_rfl) fun _ z=>?_;simp only [go_sem,seval];refine bS (gQ n x46.2 (1:Int) _ h50 _ _ _ P0 (by simp only [go_sem,↓reduceIte,cF hpP0,hg2,hg4])) rfl ?_;simp only [go_sem,seval,cF hpP0,f52];apply z;simp only [aE];refine aL fun _ z=>?_;simp only [go_sem,seval,cF hpP0];apply z;refine aU ?_;obtain rfl:=aJ h;refine ⟨by simp,?_⟩;simp only [go_sem,seval,aQ,cQ,cC,aK,aW hpP0,s_x2,s_x41]
   ·replace h:=bD c48 h;refine aI ?_;obtain ⟨x54,h55,h⟩:=aC h;refine aM fun _ z=>?_;simp only [go_sem,seval,c48];refine SC.by_ (bH n x46.2 ([117,54,52]:cD) _ h55 _ _ _ P0 (by simp only [go_sem,↓reduceIte,hg2])) ?_;simp only [go_sem,Nat.reduceAdd];apply z;refine gF fun _ z=>?_;simp only [go_sem,seval,cF hpP0];apply z;simp only [aE,aT];refine aI ?_;obtain ⟨x56,h57,h⟩:=aC h;obtain ⟨f58,h⟩:=cK h;have f59:x41.1.length+1<=1073741824:=by first | omega | (simp only [List.length_append,List.length_cons,List.length_nil] at f58 ⊢;omega)
    have f60:x41.1.length<=1073741823:=by first | omega | (simp only [List.length_append,List.length_cons,List.length_nil] at f58 ⊢;omega)
    refine bW (tbl:=[0,1,0,4,12,31,63,127]) (ord:=[(2,0),(3,0),(0,0),(1,1),(4,0),(5,0),(6,0),(7,0)]) 39 rfl (by kernel_rfl) (by kernel_rfl) fun _ z=>?_;simp only [go_sem,seval];refine bS (gQ n x54 (1:Int) _ h57 _ _ _ P0 (by simp only [go_sem,↓reduceIte,cF hpP0,hg2,hg4])) rfl ?_;simp only [go_sem,seval,cF hpP0,f59];apply z;simp only [aE];refine aL fun _ z=>?_;simp only [go_sem,seval,cF hpP0];apply z;refine aU ?_;obtain rfl:=aJ h;refine ⟨by simp,?_⟩;simp only [go_sem,seval,aQ,cQ,cC,aK,aW hpP0,s_x2,s_x41]
  ·replace h:=bD c45 h;refine bB ?_
   try simp only [aE]
   refine aI ?_;obtain ⟨x61,h62,h⟩:=aC h;obtain ⟨f63,h⟩:=cK h;have f64:x41.1.length+1<=1073741824:=by first | omega | (simp only [List.length_append,List.length_cons,List.length_nil] at f63 ⊢;omega)
   have f65:x41.1.length<=1073741823:=by first | omega | (simp only [List.length_append,List.length_cons,List.length_nil] at f63 ⊢;omega)
   refine bW (tbl:=[0,1,0,4,12,31,63,127]) (ord:=[(2,0),(3,0),(0,0),(1,1),(4,0),(5,0),(6,0),(7,0)]) 29 rfl (by kernel_rfl) (by kernel_rfl) fun _ z=>?_;simp only [go_sem,seval,c45];refine bS (gQ n x43.2 (1:Int) _ h62 _ _ _ P0 (by simp only [go_sem,↓reduceIte,hg2,hg4])) rfl ?_;simp only [go_sem,seval,cF hpP0,f64];apply z;simp only [aE];refine aL fun _ z=>?_;simp only [go_sem,seval,cF hpP0];apply z;refine aU ?_;obtain rfl:=aJ h;refine ⟨by simp,?_⟩;simp only [go_sem,seval,aQ,cQ,cC,aK,aW hpP0,s_x2,s_x41]
def Co (f:cD->Option (aA × Int × Int)):Prop:=∀a0 r,f a0=some r->∀(q:Pa) (m:M) (vs:List V),vs.map V.weak1=[.list .none (lN a0)]/\m.gl 1=.eptr [(cA cS eF)] 0 0/\m.gl 2=.eptr [(cA cS bT)] 0 0/\m.gl 4=.eptr [(cA (cA cS) cT)] 0 0->SC Tryd.prog 9 vs q m (fun v m'=>v=.tup [.agg ((aA.C r.1)),.lit (.int .i64 r.2.1),.lit (.int .i64 r.2.2)]/\m'=m)
theorem BJ (n:Nat):Co (rL n):=by
 rintro a0 r h q m vs ⟨hv,hg1,hg2,hg4⟩;refine SC.weak ?_;rw [hv];refine eN Tryd.func9 rfl (fun xs w=>Tryd.call9 xs w) Tryd.ntmps9 (by kernel_rfl) Tryd.results9 ?_;unfold rL at h;refine aL fun _ z=>?_;simp only [go_sem,Nat.reduceAdd];apply z;refine aI ?_;obtain ⟨x2,h3,h⟩:=aC h;refine aM fun _ z=>?_;simp only [go_sem,seval];refine SC.by_ (Cr n a0 _ h3 _ _ _ (by simp only [go_sem,hg1])) ?_;simp only [go_sem,seval];apply z;refine aI ?_;refine aL fun _ z=>?_;simp only [go_sem,seval];apply z;refine dA (x2.2.1 != (0:Int)) (fun c4=>?_) (fun c4=>?_)
 ·replace h:=bC c4 h;refine aL fun _ z=>?_;simp only [go_sem,seval,c4];apply z;refine aU ?_
  try simp only [bE]
  obtain rfl:=aJ h;refine ⟨by simp,?_⟩;simp only [go_sem,seval,aQ,cQ,aK]
 ·replace h:=bD c4 h;refine bB ?_
  try simp only [aE]
  refine aL fun _ z=>?_;simp only [go_sem,seval,c4];apply z;refine aI ?_;obtain ⟨x6,h8,h⟩:=aC h;refine aM fun _ z=>?_;simp only [go_sem,seval];refine SC.mono (fF (aB.mk x2.1 (0:Int) (0:Int) (0:Int) (0:Int)) (1:Int) _ h8 _ _ _ (16::q) (by simp only [go_sem,↓reduceIte])) ?_;rintro _ _ ⟨o_x6,j_x6,s_x6,rfl,rfl⟩;replace s_x6:q <:+ o_x6:=List.IsSuffix.trans (by simp only [go_sem]) s_x6;simp only [go_sem,seval];apply z;refine aI ?_;refine bK ?_;obtain ⟨y12,hy12,h⟩:=aC h;refine dE [] [] rfl (fun c E' m'=>∃v10 v11,kW n c v10 v11=some y12/\E' 2=.ptr (0::q) 0/\E' 8=.ptr (16::q) 0/\E' 9=.ptr (20::q) 0/\m'.blk (0::q)=some ([.lit (.int .i64 (0:Int)),.lit (.int .i64 (0:Int)),.lit (.string (bs [])),.lit (.int .u32 (0:Int)),.list .self ([].map aA.C)])/\m'.blk (16::q)=some ((aB.C v10))/\m'.blk (20::q)=some ([.lit (.int .i64 v11.bN),.lit (.int .i64 v11.eH),.lit (.string (bs v11.bP)),.lit (.int .u32 v11.jC),.list .self (v11.aN.map aA.C)])/\m'.gl=m.gl/\m.back q m'=m) n ⟨x6.2,x6.1,hy12,?_⟩ ?_
  ·simp only [go_sem,seval,aQ,cQ,cC,aK,s_x6]
  rintro i9 c13 E14 m15 ⟨v10,v11,hy12,e16⟩ _
  rcases c13 with _ | c13
  ·exact absurd hy12 (by rw [kW];exact fun e=>nomatch e)
  rw [kW] at hy12;refine aI ?_;refine aI ?_;obtain ⟨y17,hy17,hy12⟩:=aC hy12;refine cZ 11 [] [] rfl (fun E' m'=>E' 2=.ptr (0::q) 0/\E' 8=.ptr (16::q) 0/\E' 9=.ptr (20::q) 0/\E' 36=.lit (.bool y17)/\m'.blk (0::q)=some ([.lit (.int .i64 (0:Int)),.lit (.int .i64 (0:Int)),.lit (.string (bs [])),.lit (.int .u32 (0:Int)),.list .self ([].map aA.C)])/\m'.blk (16::q)=some ((aB.C v10))/\m'.blk (20::q)=some ([.lit (.int .i64 v11.bN),.lit (.int .i64 v11.eH),.lit (.string (bs v11.bP)),.lit (.int .u32 v11.jC),.list .self (v11.aN.map aA.C)])/\m'.gl=m.gl/\m.back q m'=m) ?_ ?_
  ·rcases cY (v10.e_ == (0:Int)) with c18 | c18
   ·replace hy17:=bC c18 hy17;obtain ⟨x19,h20,hy17⟩:=aC hy17;refine aM fun _ z=>?_;simp only [go_sem,seval,c18,e16];refine SC.by_ (eV v10 _ h20 _ _ _ (16::q) (by simp only [go_sem,e16])) ?_;simp only [go_sem,seval];apply z;obtain rfl:=aJ hy17;refine ⟨by decide,?_⟩;simp only [go_sem,seval,e16]
   ·replace hy17:=bD c18 hy17;refine aM fun _ z=>?_;simp only [go_sem,seval,c18,e16];apply z;obtain rfl:=aJ hy17;refine ⟨by decide,?_⟩;simp only [go_sem,seval,e16]
  ·intro E21 m22 e23 _;simp only [aE];refine eK y17 (by simp only [go_sem,e23]) (fun c24=>?_) (fun c24=>?_)
   ·replace hy12:=bC c24 hy12;refine bB ?_
    try simp only [aE]
    refine bK ?_;obtain ⟨x25,h26,hy12⟩:=aC hy12;obtain ⟨f27,hy12⟩:=cK hy12;have f28:v11.aN.length+1<=1073741824:=by first | omega | (simp only [List.length_append,List.length_cons,List.length_nil] at f27 ⊢;omega)
    have f29:v11.aN.length<=1073741823:=by first | omega | (simp only [List.length_append,List.length_cons,List.length_nil] at f27 ⊢;omega)
    refine bW (tbl:=[0,1,0,4,12,31,63,127]) (ord:=[(2,0),(3,0),(0,0),(1,1),(4,0),(5,0),(6,0),(7,0)]) 19 rfl (by kernel_rfl) (by kernel_rfl) fun _ z=>?_;simp only [go_sem,seval,e23];refine bS (sP n v10 _ h26 _ _ _ (16::q) (by simp only [go_sem,e23,hg2,hg4])) rfl ?_;simp only [go_sem,seval,f28,e23];apply z;simp only [aE,aT];refine ⟨c13,Nat.lt_succ_self _,x25.2,({ v11 with aN:=(v11.aN++[x25.1]) }:aA),hy12,?_⟩;simp only [go_sem,seval,aQ,cQ,cC,e23]
   ·replace hy12:=bD c24 hy12;refine eG ?_
    try simp only [bZ,bQ,↓reduceIte,aE]
    obtain rfl:=aJ hy12;refine aI ?_;refine aL fun _ z=>?_;simp only [go_sem,seval,e23];apply z;refine dA (v10.e_ != (0:Int)) (fun c30=>?_) (fun c30=>?_)
    ·replace h:=bC c30 h;refine aI ?_;refine bW (tbl:=[0,0,2,6,14,0,32,96,224,1,543,2047]) (ord:=[(0,0),(9,0),(1,0),(2,0),(3,0),(4,1),(5,0),(6,0),(7,0),(8,1),(10,0),(11,0)]) 40 rfl (by kernel_rfl) (by kernel_rfl) fun _ z=>?_;simp only [go_sem,seval,c30,e23];apply z;simp only [aE];refine aU ?_
     try simp only [bE]
     obtain rfl:=aJ h;refine ⟨by simp,?_⟩;simp only [go_sem,seval,aQ,cQ,e23]
    ·replace h:=bD c30 h;refine bB ?_
     try simp only [aE]
     refine aL fun _ z=>?_;simp only [go_sem,seval,c30,e23];apply z;refine aU ?_;obtain rfl:=aJ h;refine ⟨by simp,?_⟩;simp only [go_sem,seval,aQ,e23]
end Go.Proofs.YtncembphlfbgoaaDoor.Abs
