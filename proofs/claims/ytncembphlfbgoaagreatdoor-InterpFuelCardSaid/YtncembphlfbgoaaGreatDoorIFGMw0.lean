/- Lemmas of ours. -/
import Derived.Test.YtncembphlfbgoaaGreatDoorIFH4
namespace Go.Proofs.YtncembphlfbgoaaGreatDoor.Abs
open Go.RowKit Tryz
open IntKind (i64 u32 u64 u8)
set_option linter.unusedVariables false
set_option maxRecDepth 10000
def Kx (f:Int->Option Bool):Prop:=∀a0 r,f a0=some r->∀(q:Pa) (m:M) (vs:List V),vs.map V.weak1=[.lit (.int .u8 a0)]->SC prog 126 vs q m (fun v m'=>v=.lit (.bool r)/\m'=m)
theorem IW:Kx (Bt):=by
 intro a0 r h q m vs hv;refine SC.wv hv (dZ func126 call126 ntmps126 results126 ?_);unfold Bt at h;refine aM ?_;simp only [go_sem];refine aF ?_;obtain ⟨y1,hy1,h⟩:=aA h;refine gN 16 (fun E' m'=>E' 2=.lit (.bool y1)/\m'.gl=m.gl/\m.back q m'=m) ?_ ?_
 ·rcases dH hy1 with ⟨c2,hy1⟩ | ⟨c2,hy1⟩
  ·refine aN fun _ z=>?_;simp only [go_sem,seval,c2];apply z;cases hy1;refine ⟨by decide,?_⟩;simp only [go_sem,seval,aJ]
  ·
   rcases dH hy1 with ⟨c3,hy1⟩ | ⟨c3,hy1⟩
   ·refine aN fun _ z=>?_;simp only [go_sem,seval,c2,c3];apply z;cases hy1;refine ⟨by decide,?_⟩;simp only [go_sem,seval,aJ]
   ·
    rcases dH hy1 with ⟨c4,hy1⟩ | ⟨c4,hy1⟩
    ·refine aN fun _ z=>?_;simp only [go_sem,seval,c2,c3,c4];apply z;cases hy1;refine ⟨by decide,?_⟩;simp only [go_sem,seval,aJ]
    ·refine aN fun _ z=>?_;simp only [go_sem,seval,c2,c3,c4];apply z;cases hy1;refine ⟨by decide,?_⟩;simp only [go_sem,seval,aJ]
 ·intro E5 m6 e7 _;refine aQ ?_;cases h;refine ⟨by simp,?_⟩;simp only [go_sem,e7]
def uY (f:cR->cR->Option Bool):Prop:=∀a0 a1 r,f a0 a1=some r->∀(q:Pa) (m:M) (vs:List V),vs.map V.weak1=[.lit (.string (bs a0)),.lit (.string (bs a1))]->SC prog 168 vs q m (fun v m'=>v=.lit (.bool r)/\m'=m)
theorem pH:uY (gE):=by
 intro a0 a1 r h q m vs hv;refine SC.wv hv (dZ func168 call168 ntmps168 results168 ?_);unfold gE at h;refine aM ?_;simp only [go_sem];refine aF ?_;obtain ⟨y1,hy1,h⟩:=aA h;refine gN 15 (fun E' m'=>E' 4=.lit (.bool y1)/\m'.gl=m.gl/\m.back q m'=m) ?_ ?_
 ·rcases dH hy1 with ⟨c2,hy1⟩ | ⟨c2,hy1⟩
  ·obtain ⟨⟨f3,f4⟩,hy1⟩:=bS hy1;refine aN fun _ z=>?_;simp only [go_sem,seval,f3,f4];apply z;cases hy1;refine ⟨by decide,?_⟩;simp only [go_sem,seval,aJ]
  ·refine aN fun _ z=>?_;simp only [go_sem,seval,c2];apply z;cases hy1;refine ⟨by decide,?_⟩;simp only [go_sem,seval,aJ]
 ·intro E5 m6 e7 _;refine aQ ?_;cases h;refine ⟨by simp,?_⟩;simp only [go_sem,e7]
def DZ (f:cR->cR->Option Bool):Prop:=∀a0 a1 r,f a0 a1=some r->∀(q:Pa) (m:M) (vs:List V),vs.map V.weak1=[.lit (.string (bs a0)),.lit (.string (bs a1))]->SC prog 127 vs q m (fun v m'=>v=.lit (.bool r)/\m'=m)
theorem wH:DZ (oD):=by
 intro a0 a1 r h q m vs hv;refine SC.wv hv (dZ func127 call127 ntmps127 results127 ?_);unfold oD at h;refine aM ?_;simp only [go_sem];refine aF ?_;obtain ⟨x1,h2,h⟩:=aA h;refine aN fun _ z=>?_;simp only [go_sem,seval];refine SC.by_ (pH a0 a1 _ h2 _ _ _ (by simp only [go_sem])) ?_;simp only [go_sem,seval];apply z;refine aQ ?_;cases h;refine ⟨by simp,?_⟩;simp only [go_sem,seval,aJ]
def tN (f:cR->Int->Option Int):Prop:=∀a0 a1 r,f a0 a1=some r->∀(q:Pa) (m:M) (vs:List V),vs.map V.weak1=[.lit (.string (bs a0)),.lit (.int .u8 a1)]->SC prog 199 vs q m (fun v m'=>v=.lit (.int .i64 r)/\m'=m)
theorem tD:tN pV:=by
 intro a0 a1 r h q m vs hv;refine SC.weak ?_;rw [hv];cases h;intro c xs w h1 h2 h3;obtain ⟨x,xs,rfl,k1,k2⟩:=h2.uncons;obtain ⟨y,rfl,k3⟩:=k2.inv_one;obtain rfl:=k1.inv_lit;obtain rfl:=k3.inv_lit;refine .inr ⟨.int .i64 (Lib.indexByte a0 a1.toNat.toUInt8),w,?_,_,c,_,m,rfl,⟨rfl,rfl⟩,h1,.refl q c m w,.lit .nil⟩;rw [run_callFunc_extern (fn:=f199) (e:=Extern.BytealgIndexByte.indexByte) func199 (by kernel_rfl) (by kernel_rfl) (by kernel_rfl) (by rfl)];have:=Lib.run_indexByteString (P:=prog) (bs a0) a1 w;rw [this];rfl
def uX (f:cR->Int->Option Int):Prop:=∀a0 a1 r,f a0 a1=some r->∀(q:Pa) (m:M) (vs:List V),vs.map V.weak1=[.lit (.string (bs a0)),.lit (.int .u8 a1)]->SC prog 169 vs q m (fun v m'=>v=.lit (.int .i64 r)/\m'=m)
theorem uN:uX (nI):=by
 intro a0 a1 r h q m vs hv;refine SC.wv hv (dZ func169 call169 ntmps169 results169 ?_);unfold nI at h;refine aM ?_;simp only [go_sem];refine aF ?_;obtain ⟨x1,h2,h⟩:=aA h;refine aN fun _ z=>?_;simp only [go_sem,seval];refine SC.by_ (tD a0 a1 _ h2 _ _ _ (by simp only [go_sem])) ?_;simp only [go_sem,seval];apply z;refine aQ ?_;cases h;refine ⟨by simp,?_⟩;simp only [go_sem,seval,aJ]
def DY (f:cR->Int->Option Int):Prop:=∀a0 a1 r,f a0 a1=some r->∀(q:Pa) (m:M) (vs:List V),vs.map V.weak1=[.lit (.string (bs a0)),.lit (.int .u8 a1)]->SC prog 128 vs q m (fun v m'=>v=.lit (.int .i64 r)/\m'=m)
theorem sB:DY (oC):=by
 intro a0 a1 r h q m vs hv;refine SC.wv hv (dZ func128 call128 ntmps128 results128 ?_);unfold oC at h;refine aM ?_;simp only [go_sem];refine aF ?_;obtain ⟨x1,h2,h⟩:=aA h;refine aN fun _ z=>?_;simp only [go_sem,seval];refine SC.by_ (uN a0 a1 _ h2 _ _ _ (by simp only [go_sem])) ?_;simp only [go_sem,seval];apply z;refine aQ ?_;cases h;refine ⟨by simp,?_⟩;simp only [go_sem,seval,aJ]
def LN (f:cR->Int->Option Int):Prop:=∀a0 a1 r,f a0 a1=some r->∀(q:Pa) (m:M) (vs:List V),vs.map V.weak1=[.lit (.string (bs a0)),.lit (.int .i64 a1)]->SC prog 78 vs q m (fun v m'=>v=.lit (.int .i64 r)/\m'=m)
theorem FR (n:Nat):LN (Bs n):=by
 intro a0 a1 r h q m vs hv;refine SC.wv hv (dZ func78 call78 ntmps78 results78 ?_);unfold Bs at h;refine aM ?_;simp only [go_sem];refine aF (bN ?_);obtain ⟨y3,hy3,h⟩:=aA h;refine kN (fun c E' m'=>∃v2,sE a0 c v2=some y3/\E' 0=.lit (.string (bs a0))/\E' 1=.lit (.int .i64 v2)/\m'.gl=m.gl/\m.back q m'=m) n ⟨a1,hy3,?_⟩ ?_
 ·simp only [go_sem,seval,aJ]
 rintro i1 c4 E5 m6 ⟨v2,hy3,e7⟩ _
 rcases c4 with _ | c4
 ·cases hy3
 rw [sE] at hy3;refine aF (aM ?_);simp only [go_sem,seval,e7];refine bJ hy3 (fun c8 hy3=>?_) (fun c8 hy3=>?_)
 ·refine aV ?_
  refine bN (bN (aF ?_));obtain ⟨x9,h14,hy3⟩:=aA hy3;obtain ⟨f11,f12,f13⟩:=aX h14;obtain ⟨x10,h15,hy3⟩:=aA hy3;refine aN fun _ z=>?_;simp only [go_sem,seval,f11,f12,f13,e7];refine SC.by_ (IW (x9.toNat:Int) _ h15 _ _ _ (by simp only [go_sem])) ?_;simp only [go_sem,seval];apply z;refine bJ hy3 (fun c16 hy3=>?_) (fun c16 hy3=>?_)
  ·refine fB fun _ z=>?_;simp only [go_sem,seval,c16,e7];apply z;simp only [aL,aS];refine ⟨c4,xH _,(i64.wrap (v2+1)),hy3,?_⟩;simp only [go_sem,seval,e7]
  ·refine aF ?_;obtain ⟨⟨f18,f19⟩,hy3⟩:=bS hy3;obtain ⟨x17,h20,hy3⟩:=aA hy3;refine aN fun _ z=>?_;simp only [go_sem,seval,f11,c16,f19,e7];refine SC.by_ (wH (a0.drop v2.toNat) ([47,47]:cR) _ h20 _ _ _ (by simp only [go_sem])) ?_;simp only [go_sem,seval];apply z;refine bJ hy3 (fun c21 hy3=>?_) (fun c21 hy3=>?_)
   ·refine aF ?_;obtain ⟨⟨f23,f24⟩,hy3⟩:=bS hy3;obtain ⟨x22,h25,hy3⟩:=aA hy3;refine aN fun _ z=>?_;simp only [go_sem,seval,f11,f19,c21,e7];refine SC.by_ (sB (a0.drop v2.toNat) 10 _ h25 _ _ _ (by simp only [go_sem])) ?_;simp only [go_sem,seval];apply z;refine aF (aM ?_);simp only [go_sem,seval];refine bJ hy3 (fun c26 hy3=>?_) (fun c26 hy3=>?_)
    ·refine aM ?_;simp only [go_sem,seval,c26,e7];refine aQ ?_
     try simp only [aU,bK]
     cases hy3;simp only [DX] at h;cases h;refine ⟨by simp,?_⟩;simp only [go_sem,seval,e7]
    ·refine aV ?_
     refine fB fun _ z=>?_;simp only [go_sem,seval,c26,e7];apply z;simp only [aL,aS];refine ⟨c4,xH _,(i64.wrap (v2+x22)),hy3,?_⟩;simp only [go_sem,seval,e7]
   ·refine aM ?_;simp only [go_sem,seval,c21,e7];refine aQ ?_
    try simp only [aU,bK]
    cases hy3;simp only [DX] at h;cases h;refine ⟨by simp,?_⟩;simp only [go_sem,seval,e7]
 ·refine dQ ?_
  try simp only [bZ,bR,↓reduceIte,aL]
  cases hy3;simp only [FW] at h;refine aM ?_;simp only [go_sem,seval,c8,e7];refine aQ ?_;cases h;refine ⟨by simp,?_⟩;simp only [go_sem,seval,e7]
def IY (f:Int->Option Bool):Prop:=∀a0 r,f a0=some r->∀(q:Pa) (m:M) (vs:List V),vs.map V.weak1=[.lit (.int .u8 a0)]->SC prog 130 vs q m (fun v m'=>v=.lit (.bool r)/\m'=m)
theorem AL:IY (vW):=by
 intro a0 r h q m vs hv;refine SC.wv hv (dZ func130 call130 ntmps130 results130 ?_);unfold vW at h;refine aM ?_;simp only [go_sem];refine aF ?_;obtain ⟨y1,hy1,h⟩:=aA h;refine gN 12 (fun E' m'=>E' 2=.lit (.bool y1)/\m'.gl=m.gl/\m.back q m'=m) ?_ ?_
 ·rcases dH hy1 with ⟨c2,hy1⟩ | ⟨c2,hy1⟩
  ·
   rcases dH hy1 with ⟨c3,hy1⟩ | ⟨c3,hy1⟩
   ·refine aN fun _ z=>?_;simp only [go_sem,seval,c2,c3];apply z;cases hy1;refine ⟨by decide,?_⟩;simp only [go_sem,seval,aJ]
   ·refine aN fun _ z=>?_;simp only [go_sem,seval,c2,c3];apply z;cases hy1;refine ⟨by decide,?_⟩;simp only [go_sem,seval,aJ]
  ·refine aN fun _ z=>?_;simp only [go_sem,seval,c2];apply z;cases hy1;refine ⟨by decide,?_⟩;simp only [go_sem,seval,aJ]
 ·intro E4 m5 e6 _;refine aQ ?_;cases h;refine ⟨by simp,?_⟩;simp only [go_sem,e6]
def Ky (f:Int->Option Bool):Prop:=∀a0 r,f a0=some r->∀(q:Pa) (m:M) (vs:List V),vs.map V.weak1=[.lit (.int .u8 a0)]->SC prog 131 vs q m (fun v m'=>v=.lit (.bool r)/\m'=m)
theorem EU:Ky (xT):=by
 intro a0 r h q m vs hv;refine SC.wv hv (dZ func131 call131 ntmps131 results131 ?_);unfold xT at h;refine aM ?_;simp only [go_sem];refine aF ?_;obtain ⟨y1,hy1,h⟩:=aA h;refine gN 8 (fun E' m'=>E' 2=.lit (.bool y1)/\m'.gl=m.gl/\m.back q m'=m) ?_ ?_
 ·rcases dH hy1 with ⟨c2,hy1⟩ | ⟨c2,hy1⟩
  ·refine aN fun _ z=>?_;simp only [go_sem,seval,c2];apply z;cases hy1;refine ⟨by decide,?_⟩;simp only [go_sem,seval,aJ]
  ·refine aN fun _ z=>?_;simp only [go_sem,seval,c2];apply z;cases hy1;refine ⟨by decide,?_⟩;simp only [go_sem,seval,aJ]
 ·intro E3 m4 e5 _;refine aQ ?_;cases h;refine ⟨by simp,?_⟩;simp only [go_sem,e5]
def LM (f:cR->Option cR):Prop:=∀a0 r,f a0=some r->∀(q:Pa) (m:M) (vs:List V),vs.map V.weak1=[.lit (.string (bs a0))]->SC prog 129 vs q m (fun v m'=>v=.lit (.string (bs r))/\m'=m)
theorem Kt (n:Nat):LM (Ds n):=by
 intro a0 r h q m vs hv;refine SC.wv hv (dZ func129 call129 ntmps129 results129 ?_);unfold Ds at h;refine aM ?_;simp only [go_sem];refine aF (aM ?_);simp only [go_sem,seval];refine bN ?_;obtain ⟨y3,hy3,h⟩:=aA h;refine kN (fun c E' m'=>∃v2,uC a0 c v2=some y3/\E' 0=.lit (.string (bs a0))/\E' 5=.lit (.int .i64 (a0.length:Int))/\E' 6=.lit (.int .i64 v2)/\m'.gl=m.gl/\m.back q m'=m) n ⟨0,hy3,?_⟩ ?_
 ·simp only [go_sem,seval,aJ]
 rintro i1 c4 E5 m6 ⟨v2,hy3,e7⟩ _
 rcases c4 with _ | c4
 ·cases hy3
 rw [uC] at hy3;refine aM ?_;simp only [go_sem,e7];refine aF (bJ hy3 (fun c8 hy3=>?_) (fun c8 hy3=>?_))
 ·refine aV ?_
  refine aF (bN (aM ?_));simp only [go_sem,seval,c8,e7];refine aF ?_;obtain ⟨y9,hy9,hy3⟩:=aA hy3;refine gN 15 (fun E' m'=>E' 0=.lit (.string (bs a0))/\E' 3=.lit (.int .i64 v2)/\E' 5=.lit (.int .i64 (a0.length:Int))/\E' 6=.lit (.int .i64 v2)/\E' 20=.lit (.bool y9)/\m'.gl=m.gl/\m.back q m'=m) ?_ ?_
  ·obtain ⟨x10,h15,hy9⟩:=aA hy9;obtain ⟨f12,f13,f14⟩:=aX h15;obtain ⟨x11,h16,hy9⟩:=aA hy9
   rcases dH hy9 with ⟨c17,hy9⟩ | ⟨c17,hy9⟩
   ·obtain ⟨x18,h19,hy9⟩:=aA hy9;refine aN fun _ z=>?_;simp only [go_sem,seval,f12,f14,e7];refine SC.by_ (AL (x10.toNat:Int) _ h16 _ _ _ (by simp only [go_sem])) ?_;simp only [go_sem,seval,f12,f14,c17,e7];refine SC.by_ (EU (x10.toNat:Int) _ h19 _ _ _ (by simp only [go_sem])) ?_;simp only [go_sem,seval];apply z;cases hy9;refine ⟨by decide,?_⟩;simp only [go_sem,seval,e7]
   ·refine aN fun _ z=>?_;simp only [go_sem,seval,f12,f14,e7];refine SC.by_ (AL (x10.toNat:Int) _ h16 _ _ _ (by simp only [go_sem])) ?_;simp only [go_sem,seval,c17];apply z;cases hy9;refine ⟨by decide,?_⟩;simp only [go_sem,seval,e7]
  ·intro E20 m21 e22 _;refine bJ hy3 (fun c23 hy3=>?_) (fun c23 hy3=>?_)
   ·refine aF ?_;obtain ⟨⟨f24,f25⟩,hy3⟩:=bS hy3;refine aN fun _ z=>?_;simp only [go_sem,seval,f24,f25,e22];apply z;refine aQ ?_
    try simp only [aU,bK]
    cases hy3;simp only [DX] at h;cases h;refine ⟨by simp,?_⟩;simp only [go_sem,seval,e22]
   ·refine aV ?_
    try simp only [aL,aS]
    refine aN fun _ z=>?_;simp only [go_sem,seval,e22];apply z;refine ⟨c4,xH _,(i64.wrap (v2+1)),hy3,?_⟩;simp only [go_sem,seval,e22]
 ·refine dQ ?_
  try simp only [bZ,bR,↓reduceIte,aL]
  cases hy3;simp only [FW] at h;refine aM ?_;simp only [go_sem,seval,c8,e7];refine aQ ?_;cases h;refine ⟨by simp,?_⟩;simp only [go_sem,seval,e7]
def uZ (f:cR->cR->Option (cR × Bool)):Prop:=∀a0 a1 r,f a0 a1=some r->∀(q:Pa) (m:M) (vs:List V),vs.map V.weak1=[.lit (.string (bs a0)),.lit (.string (bs a1))]->SC prog 200 vs q m (fun v m'=>v=.tup [.lit (.string (bs r.1)),.lit (.bool r.2)]/\m'=m)
theorem uO:uZ (jV):=by
 intro a0 a1 r h q m vs hv;refine SC.wv hv (dZ func200 call200 ntmps200 results200 ?_);unfold jV at h;refine aM ?_;simp only [go_sem,seval];refine aF (aF ?_);obtain ⟨x1,h2,h⟩:=aA h;refine aN fun _ z=>?_;simp only [go_sem,seval];refine SC.by_ (pH a0 a1 _ h2 _ _ _ (by simp only [go_sem])) ?_;simp only [go_sem,seval];apply z;refine bJ h (fun c3 h=>?_) (fun c3 h=>?_)
 ·refine aM ?_;simp only [go_sem,seval,c3];refine aQ ?_
  try simp only [aU]
  cases h;refine ⟨by simp,?_⟩;simp only [go_sem,seval,aJ]
 ·refine aV ?_
  refine aF ?_;obtain ⟨⟨f4,f5⟩,h⟩:=bS h;refine aN fun _ z=>?_;simp only [go_sem,seval,c3,f4,f5];apply z;refine aQ ?_;cases h;refine ⟨by simp,?_⟩;simp only [go_sem,seval,aJ]
def Ea (f:cR->cR->Option (cR × Bool)):Prop:=∀a0 a1 r,f a0 a1=some r->∀(q:Pa) (m:M) (vs:List V),vs.map V.weak1=[.lit (.string (bs a0)),.lit (.string (bs a1))]->SC prog 170 vs q m (fun v m'=>v=.tup [.lit (.string (bs r.1)),.lit (.bool r.2)]/\m'=m)
theorem De:Ea (pR):=by
 intro a0 a1 r h q m vs hv;refine SC.wv hv (dZ func170 call170 ntmps170 results170 ?_);unfold pR at h;refine aM ?_;simp only [go_sem,seval];refine aF ?_;obtain ⟨x1,h2,h⟩:=aA h;refine aN fun _ z=>?_;simp only [go_sem,seval];refine SC.by_ (uO a0 a1 _ h2 _ _ _ (by simp only [go_sem])) ?_;simp only [go_sem,seval];apply z;refine aQ ?_;cases h;refine ⟨by simp,?_⟩;simp only [go_sem,seval,aJ]
def Ku (f:cR->Option (Int × Bool)):Prop:=∀a0 r,f a0=some r->∀(q:Pa) (m:M) (vs:List V),vs.map V.weak1=[.lit (.string (bs a0))]->SC prog 132 vs q m (fun v m'=>v=.tup [.lit (.int .u32 r.1),.lit (.bool r.2)]/\m'=m)
theorem IV (n:Nat):Ku (Br n):=by
 intro a0 r h q m vs hv;refine SC.wv hv (dZ func132 call132 ntmps132 results132 ?_);unfold Br at h;refine aM ?_;simp only [go_sem,seval];refine aM ?_;simp only [go_sem,seval];refine aF (aF ?_);obtain ⟨x1,h2,h⟩:=aA h;refine aN fun _ z=>?_;simp only [go_sem,seval];refine SC.by_ (De a0 ([48,120]:cR) _ h2 _ _ _ (by simp only [go_sem])) ?_;simp only [go_sem,seval];apply z;refine aM ?_;simp only [go_sem,seval];refine bJ h (fun c3 h=>?_) (fun c3 h=>?_)
 ·refine aN fun _ z=>?_;simp only [go_sem,seval,c3];apply z;refine aM ?_;simp only [go_sem,seval];refine aF (aM ?_);simp only [go_sem,seval];refine bN ?_;obtain ⟨y7,hy7,h⟩:=aA h;refine kN (fun c E' m'=>∃v5 v6,sL x1 c v5 v6=some y7/\E' 0=.lit (.string (bs x1.1))/\E' 4=.lit (.int .i64 16)/\E' 7=.lit (.int .i64 v5)/\E' 18=.lit (.int .i64 (x1.1.length:Int))/\E' 19=.lit (.int .i64 v6)/\m'.gl=m.gl/\m.back q m'=m) n ⟨0,0,hy7,?_⟩ ?_
  ·simp only [go_sem,seval,aJ]
  rintro i4 c8 E9 m10 ⟨v5,v6,hy7,e11⟩ _
  rcases c8 with _ | c8
  ·cases hy7
  rw [sL] at hy7;refine aM ?_;simp only [go_sem,e11];refine aF (bJ hy7 (fun c12 hy7=>?_) (fun c12 hy7=>?_))
  ·refine aV ?_
   refine aF (bN (aM ?_));simp only [go_sem,seval,c12,e11];refine aF ?_;obtain ⟨⟨f15,f16⟩,hy7⟩:=bS hy7;obtain ⟨x13,h20,hy7⟩:=aA hy7;obtain ⟨f17,f18,f19⟩:=aX h20;obtain ⟨x14,h21,hy7⟩:=aA hy7;refine dR (o0 [0,1,2,3,4,5,6]) 10 fun _ z=>?_;simp only [go_sem,seval,f15,f17,f19,e11];refine cB (sB (([48,49,50,51,52,53,54,55,56,57,97,98,99,100,101,102]:cR).take (16:Int).toNat) (x13.toNat:Int) _ h21 _ _ _ (by simp only [go_sem,seval])) rfl ?_;simp only [go_sem,seval];apply z;refine aM ?_;simp only [go_sem,seval,e11];refine aF ?_;obtain ⟨y22,hy22,hy7⟩:=aA hy7;refine gN 22 (fun E' m'=>E' 0=.lit (.string (bs x1.1))/\E' 4=.lit (.int .i64 16)/\E' 7=.lit (.int .i64 (i64.wrap ((i64.wrap (v5*16))+x14)))/\E' 18=.lit (.int .i64 (x1.1.length:Int))/\E' 19=.lit (.int .i64 v6)/\E' 38=.lit (.bool y22)/\m'.gl=m.gl/\m.back q m'=m) ?_ ?_
   ·rcases dH hy22 with ⟨c23,hy22⟩ | ⟨c23,hy22⟩
    ·refine aN fun _ z=>?_;simp only [go_sem,seval,c23];apply z;cases hy22;refine ⟨by decide,?_⟩;simp only [go_sem,seval,e11]
    ·refine aN fun _ z=>?_;simp only [go_sem,seval,c23];apply z;cases hy22;refine ⟨by decide,?_⟩;simp only [go_sem,seval,e11]
   ·intro E24 m25 e26 _;refine bJ hy7 (fun c27 hy7=>?_) (fun c27 hy7=>?_)
    ·refine aM ?_;simp only [go_sem,seval];refine aQ ?_
     try simp only [aU,bK]
     cases hy7;simp only [DX] at h;cases h;refine ⟨by simp,?_⟩;simp only [go_sem,seval,e26]
    ·refine aV ?_
     try simp only [aL,aS]
     refine aN fun _ z=>?_;simp only [go_sem,seval,e26];apply z;refine ⟨c8,xH _,(i64.wrap ((i64.wrap (v5*16))+x14)),(i64.wrap (v6+1)),hy7,?_⟩;simp only [go_sem,seval,e26]
  ·refine dQ ?_
   try simp only [bZ,bR,↓reduceIte,aL]
   cases hy7;simp only [FW] at h;refine aM ?_;simp only [go_sem,seval,c12,e11];refine aQ ?_;cases h;refine ⟨by simp,?_⟩;simp only [go_sem,seval,e11]
 ·refine aV ?_
  refine aM ?_;simp only [go_sem,seval,c3];refine aF (aM ?_);simp only [go_sem,seval];refine bN ?_;obtain ⟨y31,hy31,h⟩:=aA h;refine kN (fun c E' m'=>∃v29 v30,sK a0 c v29 v30=some y31/\E' 0=.lit (.string (bs a0))/\E' 4=.lit (.int .i64 10)/\E' 7=.lit (.int .i64 v29)/\E' 18=.lit (.int .i64 (a0.length:Int))/\E' 19=.lit (.int .i64 v30)/\m'.gl=m.gl/\m.back q m'=m) n ⟨0,0,hy31,?_⟩ ?_
  ·simp only [go_sem,seval,aJ]
  rintro i28 c32 E33 m34 ⟨v29,v30,hy31,e35⟩ _
  rcases c32 with _ | c32
  ·cases hy31
  rw [sK] at hy31;refine aM ?_;simp only [go_sem,e35];refine aF (bJ hy31 (fun c36 hy31=>?_) (fun c36 hy31=>?_))
  ·refine aV ?_
   refine aF (bN (aM ?_));simp only [go_sem,seval,c36,e35];refine aF ?_;obtain ⟨⟨f39,f40⟩,hy31⟩:=bS hy31;obtain ⟨x37,h44,hy31⟩:=aA hy31;obtain ⟨f41,f42,f43⟩:=aX h44;obtain ⟨x38,h45,hy31⟩:=aA hy31;refine dR (o0 [0,1,2,3,4,5,6]) 10 fun _ z=>?_;simp only [go_sem,seval,f39,f41,f43,e35];refine cB (sB (([48,49,50,51,52,53,54,55,56,57,97,98,99,100,101,102]:cR).take (10:Int).toNat) (x37.toNat:Int) _ h45 _ _ _ (by simp only [go_sem,seval])) rfl ?_;simp only [go_sem,seval];apply z;refine aM ?_;simp only [go_sem,seval,e35];refine aF ?_;obtain ⟨y46,hy46,hy31⟩:=aA hy31;refine gN 22 (fun E' m'=>E' 0=.lit (.string (bs a0))/\E' 4=.lit (.int .i64 10)/\E' 7=.lit (.int .i64 (i64.wrap ((i64.wrap (v29*10))+x38)))/\E' 18=.lit (.int .i64 (a0.length:Int))/\E' 19=.lit (.int .i64 v30)/\E' 38=.lit (.bool y46)/\m'.gl=m.gl/\m.back q m'=m) ?_ ?_
   ·rcases dH hy46 with ⟨c47,hy46⟩ | ⟨c47,hy46⟩
    ·refine aN fun _ z=>?_;simp only [go_sem,seval,c47];apply z;cases hy46;refine ⟨by decide,?_⟩;simp only [go_sem,seval,e35]
    ·refine aN fun _ z=>?_;simp only [go_sem,seval,c47];apply z;cases hy46;refine ⟨by decide,?_⟩;simp only [go_sem,seval,e35]
   ·intro E48 m49 e50 _;refine bJ hy31 (fun c51 hy31=>?_) (fun c51 hy31=>?_)
    ·refine aM ?_;simp only [go_sem,seval];refine aQ ?_
     try simp only [aU,bK]
     cases hy31;simp only [DX] at h;cases h;refine ⟨by simp,?_⟩;simp only [go_sem,seval,e50]
    ·refine aV ?_
     try simp only [aL,aS]
     refine aN fun _ z=>?_;simp only [go_sem,seval,e50];apply z;refine ⟨c32,xH _,(i64.wrap ((i64.wrap (v29*10))+x38)),(i64.wrap (v30+1)),hy31,?_⟩;simp only [go_sem,seval,e50]
  ·refine dQ ?_
   try simp only [bZ,bR,↓reduceIte,aL]
   cases hy31;simp only [FW] at h;refine aM ?_;simp only [go_sem,seval,c36,e35];refine aQ ?_;cases h;refine ⟨by simp,?_⟩;simp only [go_sem,seval,e35]
def LO (f:cR->Option cR):Prop:=∀a0 r,f a0=some r->∀(q:Pa) (m:M) (vs:List V),vs.map V.weak1=[.lit (.string (bs a0))]/\m.gl 1=.eptr [(cA cS fN)] 0 0->SC prog 133 vs q m (fun v m'=>v=.lit (.string (bs r))/\m'=m)
theorem Kv (n:Nat):LO (Dt n):=by
 rintro a0 r h q m vs ⟨hv,hg1⟩;refine SC.wv hv (dZ func133 call133 ntmps133 results133 ?_);unfold Dt at h;refine aM ?_;simp only [go_sem];refine aF (aM ?_);simp only [go_sem,seval,hg1];refine bN ?_;obtain ⟨y3,hy3,h⟩:=aA h;refine kN (fun c E' m'=>∃v2,uD a0 c v2=some y3/\E' 0=.lit (.string (bs a0))/\E' 5=.agg ((cA cS fN))/\E' 6=.lit (.int .i64 v2)/\m'.gl=m.gl/\m.back q m'=m) n ⟨0,hy3,?_⟩ ?_
 ·simp only [go_sem,seval,aJ]
 rintro i1 c4 E5 m6 ⟨v2,hy3,e7⟩ _
 rcases c4 with _ | c4
 ·cases hy3
 rw [uD] at hy3;refine aM ?_;simp only [go_sem,e7];refine aF (bJ hy3 (fun c8 hy3=>?_) (fun c8 hy3=>?_))
 ·refine aV ?_
  refine aF (bN (aF ?_));obtain ⟨x9,h13,hy3⟩:=aA hy3;obtain ⟨f10,f11,f12⟩:=aX h13;have f14:v2<26:=f11;obtain ⟨w15,d16⟩:=Co (f:=cS) (s:=1) (fun _ _=>rfl) f12;simp only [go_sem] at d16;refine aN fun _ z=>?_;simp only [go_sem,seval,f10,f14,d16,e7];apply z;refine aF ?_;obtain ⟨x17,h18,hy3⟩:=aA hy3;refine aN fun _ z=>?_;simp only [go_sem,seval,e7];refine SC.by_ (wH a0 x9 _ h18 _ _ _ (by simp only [go_sem])) ?_;simp only [go_sem,seval];apply z;refine bJ hy3 (fun c19 hy3=>?_) (fun c19 hy3=>?_)
  ·refine aM ?_;simp only [go_sem,seval,c19];refine aQ ?_
   try simp only [aU,bK]
   cases hy3;simp only [DX] at h;cases h;refine ⟨by simp,?_⟩;simp only [go_sem,seval,e7]
  ·refine aV ?_
   try simp only [aL,aS]
   refine aN fun _ z=>?_;simp only [go_sem,seval,c19,e7];apply z;refine ⟨c4,xH _,(i64.wrap (v2+1)),hy3,?_⟩;simp only [go_sem,seval,e7]
 ·refine dQ ?_
  try simp only [bZ,bR,↓reduceIte,aL]
  cases hy3;simp only [FW] at h;refine aM ?_;simp only [go_sem,seval,c8];refine aQ ?_;cases h;refine ⟨by simp,?_⟩;simp only [go_sem,seval,e7]
def LP (f:cR->Int->Option (dK × Int)):Prop:=∀a0 a1 r,f a0 a1=some r->∀(q:Pa) (m:M) (vs:List V),vs.map V.weak1=[.lit (.string (bs a0)),.lit (.int .i64 a1)]/\m.gl 1=.eptr [(cA cS fN)] 0 0->SC prog 79 vs q m (fun v m'=>v=.tup [.agg ((dK.C r.1)),.lit (.int .i64 r.2)]/\m'=m)
theorem Kw (n:Nat):LP (Du n):=by
 rintro a0 a1 r h q m vs ⟨hv,hg1⟩;refine SC.wv hv (dZ func79 call79 ntmps79 results79 ?_);unfold Du at h;refine aM ?_;simp only [go_sem,seval];refine aF ?_;obtain ⟨⟨f4,f5⟩,h⟩:=bS h;obtain ⟨x2,h6,h⟩:=aA h;refine aN fun _ z=>?_;simp only [go_sem,seval,f4,f5];refine SC.by_ (Kt n (a0.drop a1.toNat) _ h6 _ _ _ (by simp only [go_sem])) ?_;simp only [go_sem,seval];apply z;refine aF (bN (aF ?_));obtain ⟨x7,h12,h⟩:=aA h;obtain ⟨f9,f10,f11⟩:=aX h12;obtain ⟨x8,h13,h⟩:=aA h;refine aN fun _ z=>?_;simp only [go_sem,seval,f4,f11];refine SC.by_ (AL (x7.toNat:Int) _ h13 _ _ _ (by simp only [go_sem])) ?_;simp only [go_sem,seval];apply z;refine bJ h (fun c14 h=>?_) (fun c14 h=>?_)
 ·refine aF (aM ?_);simp only [go_sem,seval,c14];refine bJ h (fun c15 h=>?_) (fun c15 h=>?_)
  ·refine aM ?_;simp only [go_sem,seval,c15];refine aQ ?_
   try simp only [aU,bK]
   cases h;refine ⟨by simp,?_⟩;simp only [go_sem,seval,aO,aJ]
  ·refine aV ?_
   refine aM ?_;simp only [go_sem,seval,c15];refine aQ ?_
   try simp only [aU,bK]
   cases h;refine ⟨by simp,?_⟩;simp only [go_sem,seval,aO,aJ]
 ·refine aF ?_;obtain ⟨x16,h17,h⟩:=aA h;refine aN fun _ z=>?_;simp only [go_sem,seval,f4,f11,c14];refine SC.by_ (EU (x7.toNat:Int) _ h17 _ _ _ (by simp only [go_sem])) ?_;simp only [go_sem,seval];apply z;refine bJ h (fun c18 h=>?_) (fun c18 h=>?_)
  ·refine aF ?_;obtain ⟨x19,h20,h⟩:=aA h;refine aN fun _ z=>?_;simp only [go_sem,seval,c18];refine SC.by_ (IV n x2 _ h20 _ _ _ (by simp only [go_sem])) ?_;simp only [go_sem,seval];apply z;refine aF (aM ?_);simp only [go_sem,seval];refine bJ h (fun c21 h=>?_) (fun c21 h=>?_)
   ·refine aM ?_;simp only [go_sem,seval,c21];refine aQ ?_
    try simp only [aU,bK]
    cases h;refine ⟨by simp,?_⟩;simp only [go_sem,seval,aO,aJ]
   ·refine aV ?_
    refine aM ?_;simp only [go_sem,seval,c21];refine aM ?_;simp only [go_sem,seval];refine aQ ?_
    try simp only [aU,bK]
    cases h;refine ⟨by simp,?_⟩;simp only [go_sem,seval,aO,aJ]
  ·refine aV ?_
   try simp only [aL,aS]
   refine aF ?_;obtain ⟨⟨f23,f24⟩,h⟩:=bS h;obtain ⟨x22,h25,h⟩:=aA h;refine aN fun _ z=>?_;simp only [go_sem,seval,f4,f5,c18];refine SC.by_ (Kv n (a0.drop a1.toNat) _ h25 _ _ _ (by simp only [go_sem,hg1])) ?_;simp only [go_sem,seval];apply z;refine aF (aM ?_);simp only [go_sem,seval];refine bJ h (fun c26 h=>?_) (fun c26 h=>?_)
   ·refine aM ?_;simp only [go_sem,seval,c26];refine aQ ?_
    try simp only [aU]
    cases h;refine ⟨by simp,?_⟩;simp only [go_sem,seval,aO,aJ]
   ·refine aV ?_
    refine aM ?_;simp only [go_sem,seval,c26];refine aQ ?_;cases h;refine ⟨by simp,?_⟩;simp only [go_sem,seval,aO,aJ]
def IX (f:cR->Option ((List dK) × Int × Int)):Prop:=∀a0 r,f a0=some r->∀(q:Pa) (m:M) (vs:List V),vs.map V.weak1=[.list .none (nG a0)]/\m.gl 1=.eptr [(cA cS fN)] 0 0->SC prog 49 vs q m (fun v m'=>v=.tup [.list .none (r.1.map dK.C),.lit (.int .i64 r.2.1),.lit (.int .i64 r.2.2)]/\m'=m)
theorem Hz (n:Nat):IX (yS n):=by
 rintro a0 r h q m vs ⟨hv,hg1⟩;refine SC.wv hv (dZ func49 call49 ntmps49 results49 ?_);unfold yS at h;refine aM ?_;simp only [go_sem,seval];refine aF (aM ?_);simp only [go_sem,seval];refine bJ h (fun c1 h=>?_) (fun c1 h=>?_)
 ·refine aM ?_;simp only [go_sem,seval,c1];refine aQ ?_
  try simp only [aU]
  cases h;refine ⟨by simp,?_⟩;simp only [go_sem,seval,aJ]
 ·refine aV ?_
  refine aM ?_;simp only [go_sem,seval,c1];refine aM ?_;simp only [go_sem,seval];refine aF (aF ?_);obtain ⟨x2,h3,h⟩:=aA h;refine aN fun _ z=>?_;simp only [go_sem,seval];refine SC.by_ (FR n a0 0 _ h3 _ _ _ (by simp only [go_sem])) ?_;simp only [go_sem,seval];apply z;refine bN ?_;obtain ⟨y7,hy7,h⟩:=aA h;refine zA 6 ([].map dK.C) rfl (by simp only [go_sem,seval]) ?_;refine kN (fun c E' m'=>∃v5 v6 o_v5 j_v5,rP n a0 c v5 v6=some y7/\E' 5=.lit (.string (bs a0))/\E' 6=.list (.st (.anon o_v5 j_v5)) (v5.map dK.C)/\m'.tok o_v5 j_v5=true/\q <:+ o_v5/\E' 7=.lit (.int .i64 v6)/\m'.gl=m.gl/\m.back q m'=m) n ⟨[],x2,(13::q),0,hy7,?_⟩ ?_
  ·simp only [go_sem,seval,cH,aJ]
  rintro i4 c8 E9 m10 ⟨v5,v6,o_v5,j_v5,hy7,e11⟩ _
  rcases c8 with _ | c8
  ·cases hy7
  rw [rP] at hy7;refine aF (aM ?_);simp only [go_sem,seval,e11];refine bJ hy7 (fun c12 hy7=>?_) (fun c12 hy7=>?_)
  ·refine aV ?_
   refine aF (bN (aF ?_));obtain ⟨x13,h15,hy7⟩:=aA hy7;refine aN fun _ z=>?_;simp only [go_sem,seval,c12,e11];refine SC.by_ (Kw n a0 v6 _ h15 _ _ _ (by simp only [go_sem,e11,hg1])) ?_;simp only [go_sem,seval];apply z;refine aF (aM ?_);simp only [go_sem,seval];refine bJ hy7 (fun c16 hy7=>?_) (fun c16 hy7=>?_)
   ·refine aM ?_;simp only [go_sem,seval,c16,e11];refine aQ ?_
    try simp only [aU,bK]
    cases hy7;simp only [DX] at h;cases h;refine ⟨by simp,?_⟩;simp only [go_sem,seval,aO,e11]
   ·refine aV ?_
    refine aF ?_;obtain ⟨f17,hy7⟩:=bS hy7;have f18:v5.length+1<=1073741824:=by first | omega | (simp only [nL,jK,lD] at f17 ⊢;omega)
    have f19:v5.length<=1073741823:=by first | omega | (simp only [nL,jK,lD] at f17 ⊢;omega)
    refine aN fun _ z=>?_;simp only [go_sem,seval,c16,f18,e11];apply z;refine fB fun _ z=>?_;simp only [go_sem,seval,e11];apply z;simp only [aL,aS];obtain ⟨x20,h21,hy7⟩:=aA hy7;refine aN fun _ z=>?_;simp only [go_sem,seval,e11];refine SC.by_ (FR n a0 (i64.wrap (v6+(x13.1.cP.length:Int))) _ h21 _ _ _ (by simp only [go_sem])) ?_;simp only [go_sem,seval];apply z;refine ⟨c8,xH _,(v5++[x13.1]),x20,(18::i4::14::q),0,hy7,?_⟩;simp only [go_sem,seval,aO,cH,e11]
  ·refine dQ ?_
   try simp only [bZ,bR,↓reduceIte,aL]
   cases hy7;simp only [FW] at h;refine aF ?_;obtain ⟨f22,h⟩:=bS h;have f23:v5.length+1<=1073741824:=by first | omega | (simp only [nL,jK,lD] at f22 ⊢;omega)
   have f24:v5.length<=1073741823:=by first | omega | (simp only [nL,jK,lD] at f22 ⊢;omega)
   refine aN fun _ z=>?_;simp only [go_sem,seval,c12,f23,e11];apply z;refine aQ ?_;cases h;refine ⟨by simp,?_⟩;simp only [go_sem,seval,cH,e11]
def BO (f:aC->Option dK):Prop:=∀a0 r,f a0=some r->∀(q:Pa) (m:M) (vs:List V) (P0:Pa),vs.map V.weak1=[.ptr P0 0]/\m.blk P0=some ((aC.C a0))->SC prog 51 vs q m (fun v m'=>v=.agg ((dK.C r))/\m'=m)
theorem gJ:BO (eQ):=by
 rintro a0 r h q m vs P0 ⟨hv,hmP0⟩;refine SC.wv hv ?_;refine SC.apart hmP0 fun hpP0=>?_
 try simp only [go_sem] at hmP0
 refine dZ func51 call51 ntmps51 results51 ?_;unfold eQ at h;refine aM ?_;simp only [go_sem];refine aF ?_;obtain ⟨x2,h6,h⟩:=aA h;obtain ⟨f3,f4,f5⟩:=aX h6;refine dR (o0 [0,1,2,3,4,5,6,7,8,9,10]) 12 fun _ z=>?_;simp only [go_sem,seval,cQ hpP0,f3,f4,f5,hmP0];apply z;refine aQ ?_;cases h;refine ⟨by simp,?_⟩;simp only [go_sem,seval,aO,aJ]
def CH (f:aC->Int->Option aC):Prop:=∀a0 a1 r,f a0 a1=some r->∀(q:Pa) (m:M) (vs:List V) (P0:Pa),vs.map V.weak1=[.ptr P0 0,.lit (.int .i64 a1)]/\m.blk P0=some ((aC.C a0))->SC prog 80 vs q m (fun v m'=>v=.tup []/\m'=(m.set P0 ((aC.C r))))
theorem lM:CH (gX):=by
 rintro a0 a1 r h q m vs P0 ⟨hv,hmP0⟩;refine SC.wv hv ?_;refine SC.ap hmP0 fun hpP0 l0=>?_
 try simp only [go_sem] at hmP0 l0
 refine dZ func80 call80 ntmps80 results80 ?_;unfold gX at h;refine aM ?_;simp only [go_sem,seval,hmP0];refine bJ h (fun c1 h=>?_) (fun c1 h=>?_)
 ·obtain ⟨x2,h3,h⟩:=aA h;refine fB fun _ z=>?_;simp only [go_sem,seval,c1];refine SC.by_ (gJ a0 _ h3 _ _ _ P0 (by simp only [go_sem,hmP0])) ?_;simp only [go_sem,seval,hmP0];apply z;simp only [];cases h;refine ⟨by simp,?_⟩;simp only [go_sem,aJ,bF hpP0]
 ·refine aV ?_;cases h;refine ⟨by simp,?_⟩;simp only [go_sem,aJ,l0,c1]
def CE (f:aC->Int->Option (aB × aC)):Prop:=∀a0 a1 r,f a0 a1=some r->∀(q:Pa) (m:M) (vs:List V) (P0:Pa),vs.map V.weak1=[.ptr P0 0,.lit (.int .i64 a1)]/\m.blk P0=some ((aC.C a0))->SC prog 50 vs q m (fun v m'=>∃(id:Pa) (j:Nat),q <:+ id/\v=.agg ([.lit (.int .i64 r.1.cF),.lit (.int .i64 r.1.fQ),.lit (.string (bs r.1.cP)),.lit (.int .u32 r.1.mE),.list (.st (.anon id j)) (r.1.aP.map aB.C)])/\m'=(m.set P0 ((aC.C r.2))).tokset id j true)
theorem gO:CE (fD):=by
 rintro a0 a1 r h q m vs P0 ⟨hv,hmP0⟩;refine SC.wv hv ?_;refine SC.ap hmP0 fun hpP0 l0=>?_
 try simp only [go_sem] at hmP0 l0
 refine Ry func50 rfl (fun xs w=>call50 xs w) ntmps50 (by kernel_rfl) ?_;unfold fD at h;refine aM ?_;simp only [go_sem];refine aF (aM ?_);simp only [go_sem,seval,cQ hpP0,hmP0];refine aM ?_;simp only [go_sem,seval];refine bJ h (fun c2 h=>?_) (fun c2 h=>?_)
 ·obtain ⟨x3,h4,h⟩:=aA h;refine aN fun _ z=>?_;simp only [go_sem,seval,c2];refine SC.by_ (lM ({ a0 with sD:=(i64.wrap (a0.sD+1)) }:aC) 136 _ h4 _ _ _ P0 (by simp only [go_sem,seval])) ?_;simp only [go_sem,seval];apply z;refine aF ?_;obtain ⟨x5,h6,h⟩:=aA h;refine aN fun _ z=>?_;simp only [go_sem,seval];refine SC.by_ (gJ x3 _ h6 _ _ _ P0 (by simp only [go_sem,seval])) ?_;simp only [go_sem,seval,cQ hpP0];apply z;refine aQ ?_;cases h;refine ⟨by simp,?_⟩;refine ⟨(22::q),0,_,(by simp only [go_sem]),.cell (t:=4) (T:=79) (b:=(0::q)) (cs:=[.lit (.int .i64 a1),.lit (.int .i64 x5.fQ),.lit (.string (bs [])),.lit (.int .u32 0),.list .self ([].map aB.C)]) (off:=4) (rows:=([].map aB.C)) (congrArg Array.toList results50) (by simp only [go_sem,seval]) (by simp only [go_sem]) (by simp only [go_sem,seval]) (by simp only [go_sem]) (by simp only [go_sem,seval]) rfl,(22::q),0,(by simp only [go_sem]),?_,?_⟩ <;> simp only [go_sem,aO,cM,aJ,bF hpP0]
 ·refine aV ?_
  refine aF ?_;obtain ⟨x7,h8,h⟩:=aA h;refine aN fun _ z=>?_;simp only [go_sem,seval,c2];refine SC.by_ (gJ ({ a0 with sD:=(i64.wrap (a0.sD+1)) }:aC) _ h8 _ _ _ P0 (by simp only [go_sem,seval])) ?_;simp only [go_sem,seval,cQ hpP0];apply z;refine aQ ?_;cases h;refine ⟨by simp,?_⟩;refine ⟨(20::q),0,_,(by simp only [go_sem]),.cell (t:=4) (T:=79) (b:=(0::q)) (cs:=[.lit (.int .i64 a1),.lit (.int .i64 x7.fQ),.lit (.string (bs [])),.lit (.int .u32 0),.list .self ([].map aB.C)]) (off:=4) (rows:=([].map aB.C)) (congrArg Array.toList results50) (by simp only [go_sem,seval]) (by simp only [go_sem]) (by simp only [go_sem,seval]) (by simp only [go_sem]) (by simp only [go_sem,seval]) rfl,(20::q),0,(by simp only [go_sem]),?_,?_⟩ <;> simp only [go_sem,aO,cM,aJ,bF hpP0]
def vO (f:(List cR)->cR->Option Int):Prop:=∀a0 a1 r,f a0 a1=some r->∀(q:Pa) (m:M) (vs:List V),vs.map V.weak1=[.list .none (a0.map cS),.lit (.string (bs a1))]->SC prog 201 vs q m (fun v m'=>v=.lit (.int .i64 r)/\m'=m)
theorem vF (n:Nat):vO (kO n):=by
 intro a0 a1 r h q m vs hv;refine SC.wv hv (dZ func201 call201 ntmps201 results201 ?_);unfold kO at h;refine aM ?_;simp only [go_sem];refine aF (aM ?_);simp only [go_sem,seval];refine bN ?_;obtain ⟨y3,hy3,h⟩:=aA h;refine kN (fun c E' m'=>∃v2,fX a0 a1 c v2=some y3/\E' 0=.list .none (a0.map cS)/\E' 1=.lit (.string (bs a1))/\E' 7=.lit (.int .i64 (a0.length:Int))/\E' 8=.lit (.int .i64 v2)/\m'.gl=m.gl/\m.back q m'=m) n ⟨0,hy3,?_⟩ ?_
 ·simp only [go_sem,seval,aJ]
 rintro i1 c4 E5 m6 ⟨v2,hy3,e7⟩ _
 rcases c4 with _ | c4
 ·cases hy3
 rw [fX] at hy3;refine aM ?_;simp only [go_sem,e7];refine aF (bJ hy3 (fun c8 hy3=>?_) (fun c8 hy3=>?_))
 ·refine aV ?_
  refine aF (bN (aM ?_));simp only [go_sem,seval,c8,e7];refine aF ?_;obtain ⟨x9,h13,hy3⟩:=aA hy3;obtain ⟨f10,f11,f12⟩:=aX h13;refine aN fun _ z=>?_;simp only [go_sem,seval,f10,f11,f12,e7];apply z;refine bJ hy3 (fun c14 hy3=>?_) (fun c14 hy3=>?_)
  ·refine aM ?_;simp only [go_sem,seval,c14];refine aQ ?_
   try simp only [aU,bK]
   cases hy3;simp only [DX] at h;cases h;refine ⟨by simp,?_⟩;simp only [go_sem,seval,e7]
  ·refine aV ?_
   try simp only [aL,aS]
   refine aN fun _ z=>?_;simp only [go_sem,seval,c14,e7];apply z;refine ⟨c4,xH _,(i64.wrap (v2+1)),hy3,?_⟩;simp only [go_sem,seval,e7]
 ·refine dQ ?_
  try simp only [bZ,bR,↓reduceIte,aL]
  cases hy3;simp only [FW] at h;refine aM ?_;simp only [go_sem,seval,c8];refine aQ ?_;cases h;refine ⟨by simp,?_⟩;simp only [go_sem,seval,e7]
def uM (f:(List cR)->cR->Option Bool):Prop:=∀a0 a1 r,f a0 a1=some r->∀(q:Pa) (m:M) (vs:List V),vs.map V.weak1=[.list .none (a0.map cS),.lit (.string (bs a1))]->SC prog 171 vs q m (fun v m'=>v=.lit (.bool r)/\m'=m)
theorem tM (n:Nat):uM (jI n):=by
 intro a0 a1 r h q m vs hv;refine SC.wv hv (dZ func171 call171 ntmps171 results171 ?_);unfold jI at h;refine aM ?_;simp only [go_sem];refine aF ?_;obtain ⟨x1,h2,h⟩:=aA h;refine aN fun _ z=>?_;simp only [go_sem,seval];refine SC.by_ (vF n a0 a1 _ h2 _ _ _ (by simp only [go_sem])) ?_;simp only [go_sem,seval];apply z;refine aQ ?_;cases h;refine ⟨by simp,?_⟩;simp only [go_sem,seval,aJ]
def IS (f:cR->Option Bool):Prop:=∀a0 r,f a0=some r->∀(q:Pa) (m:M) (vs:List V),vs.map V.weak1=[.lit (.string (bs a0))]/\m.gl 2=.eptr [(cA cS cN)] 0 0->SC prog 135 vs q m (fun v m'=>v=.lit (.bool r)/\m'=m)
theorem Eg (n:Nat):IS (vR n):=by
 rintro a0 r h q m vs ⟨hv,hg2⟩;refine SC.wv hv (dZ func135 call135 ntmps135 results135 ?_);unfold vR at h;refine aM ?_;simp only [go_sem];refine aF ?_;obtain ⟨x1,h2,h⟩:=aA h;refine aN fun _ z=>?_;simp only [go_sem,seval,hg2];refine SC.by_ (tM n cN a0 _ h2 _ _ _ (by simp only [go_sem])) ?_;simp only [go_sem,seval];apply z;refine aQ ?_;cases h;refine ⟨by simp,?_⟩;simp only [go_sem,seval,aJ]
def Ec (f:aC->cR->Option Bool):Prop:=∀a0 a1 r,f a0 a1=some r->∀(q:Pa) (m:M) (vs:List V) (P0:Pa),vs.map V.weak1=[.ptr P0 0,.lit (.string (bs a1))]/\m.blk P0=some ((aC.C a0))/\m.gl 2=.eptr [(cA cS cN)] 0 0->SC prog 134 vs q m (fun v m'=>v=.lit (.bool r)/\m'=m)
theorem oA (n:Nat):Ec (iT n):=by
 rintro a0 a1 r h q m vs P0 ⟨hv,hmP0,hg2⟩;refine SC.wv hv ?_;refine SC.apart hmP0 fun hpP0=>?_
 try simp only [go_sem] at hmP0
 refine dZ func134 call134 ntmps134 results134 ?_;unfold iT at h;refine aM ?_;simp only [go_sem];refine aF ?_;obtain ⟨x1,h3,h⟩:=aA h;refine aN fun _ z=>?_;simp only [go_sem,seval];refine SC.by_ (gJ a0 _ h3 _ _ _ P0 (by simp only [go_sem,hmP0])) ?_;simp only [go_sem,seval];apply z;refine aF ?_;obtain ⟨y4,hy4,h⟩:=aA h;refine gN 31 (fun E' m'=>E' 4=.lit (.bool y4)/\m'.blk P0=some ((aC.C a0))/\m'.gl=m.gl/\m.back q m'=m) ?_ ?_
 ·rcases dH hy4 with ⟨c5,hy4⟩ | ⟨c5,hy4⟩
  ·
   rcases dH hy4 with ⟨c6,hy4⟩ | ⟨c6,hy4⟩
   ·
    rcases dH hy4 with ⟨c7,hy4⟩ | ⟨c7,hy4⟩
    ·refine aN fun _ z=>?_;simp only [go_sem,seval,cQ hpP0,c5,c6,c7,hmP0];apply z;cases hy4;refine ⟨by decide,?_⟩;simp only [go_sem,seval,aO,aJ,cQ hpP0,hmP0]
    ·
     rcases dH hy4 with ⟨c8,hy4⟩ | ⟨c8,hy4⟩
     ·obtain ⟨x9,h10,hy4⟩:=aA hy4;refine aN fun _ z=>?_;simp only [go_sem,seval,cQ hpP0,c5,c6,c7,c8,hmP0];refine SC.by_ (Eg n a1 _ h10 _ _ _ (by simp only [go_sem,hg2])) ?_;simp only [go_sem,seval];apply z;cases hy4;refine ⟨by decide,?_⟩;simp only [go_sem,seval,aO,aJ,cQ hpP0,hmP0]
     ·refine aN fun _ z=>?_;simp only [go_sem,seval,cQ hpP0,c5,c6,c7,c8,hmP0];apply z;cases hy4;refine ⟨by decide,?_⟩;simp only [go_sem,seval,aO,aJ,cQ hpP0,hmP0]
   ·refine aN fun _ z=>?_;simp only [go_sem,seval,cQ hpP0,c5,c6,hmP0];apply z;cases hy4;refine ⟨by decide,?_⟩;simp only [go_sem,seval,aO,aJ,cQ hpP0,hmP0]
  ·refine aN fun _ z=>?_;simp only [go_sem,seval,cQ hpP0,c5,hmP0];apply z;cases hy4;refine ⟨by decide,?_⟩;simp only [go_sem,seval,aO,aJ,cQ hpP0,hmP0]
 ·intro E11 m12 e13 _;refine aQ ?_;cases h;refine ⟨by simp,?_⟩;simp only [go_sem,e13]
def CB (f:aC->cR->Option (Bool × aC)):Prop:=∀a0 a1 r,f a0 a1=some r->∀(q:Pa) (m:M) (vs:List V) (P0:Pa),vs.map V.weak1=[.ptr P0 0,.lit (.string (bs a1))]/\m.blk P0=some ((aC.C a0))/\m.gl 2=.eptr [(cA cS cN)] 0 0->SC prog 81 vs q m (fun v m'=>v=.lit (.bool r.1)/\m'=(m.set P0 ((aC.C r.2))))
theorem cD (n:Nat):CB (bX n):=by
 rintro a0 a1 r h q m vs P0 ⟨hv,hmP0,hg2⟩;refine SC.wv hv ?_;refine SC.ap hmP0 fun hpP0 l0=>?_
 try simp only [go_sem] at hmP0 l0
 refine dZ func81 call81 ntmps81 results81 ?_;unfold bX at h;refine aM ?_;simp only [go_sem];refine aF (aF ?_);obtain ⟨x1,h2,h⟩:=aA h;refine aN fun _ z=>?_;simp only [go_sem,seval];refine SC.by_ (oA n a0 a1 _ h2 _ _ _ P0 (by simp only [go_sem,hmP0,hg2])) ?_;simp only [go_sem,seval];apply z;refine bJ h (fun c3 h=>?_) (fun c3 h=>?_)
 ·refine aM ?_;simp only [go_sem,seval,c3];refine aQ ?_
  try simp only [aU]
  cases h;refine ⟨by simp,?_⟩;simp only [go_sem,seval,aJ,l0]
 ·refine aV ?_
  refine aM ?_;simp only [go_sem,seval,c3,hmP0];refine aM ?_;simp only [go_sem,seval];refine aQ ?_;cases h;refine ⟨by simp,?_⟩;simp only [go_sem,seval,aJ,bF hpP0]
def CF (f:aC->cR->Option aC):Prop:=∀a0 a1 r,f a0 a1=some r->∀(q:Pa) (m:M) (vs:List V) (P0:Pa),vs.map V.weak1=[.ptr P0 0,.lit (.string (bs a1))]/\m.blk P0=some ((aC.C a0))/\m.gl 2=.eptr [(cA cS cN)] 0 0->SC prog 82 vs q m (fun v m'=>v=.tup []/\m'=(m.set P0 ((aC.C r))))
theorem bU (n:Nat):CF (bQ n):=by
 rintro a0 a1 r h q m vs P0 ⟨hv,hmP0,hg2⟩;refine SC.wv hv ?_;refine SC.ap hmP0 fun hpP0 l0=>?_
 try simp only [go_sem] at hmP0 l0
 refine dZ func82 call82 ntmps82 results82 ?_;unfold bQ at h;refine aF ?_;obtain ⟨x1,h2,h⟩:=aA h;refine aN fun _ z=>?_;simp only [go_sem,seval];refine SC.by_ (cD n a0 a1 _ h2 _ _ _ P0 (by simp only [go_sem,hmP0,hg2])) ?_;simp only [go_sem,seval];apply z;refine bJ h (fun c3 h=>?_) (fun c3 h=>?_)
 ·obtain ⟨x4,h5,h⟩:=aA h;refine fB fun _ z=>?_;simp only [go_sem,seval,c3];refine SC.by_ (lM x1.2 110 _ h5 _ _ _ P0 (by simp only [go_sem,seval])) ?_;simp only [go_sem,seval];apply z;simp only [];cases h;refine ⟨by simp,?_⟩;simp only [go_sem,aJ,bF hpP0]
 ·refine aV ?_;cases h;refine ⟨by simp,?_⟩;simp only [go_sem,aJ,bF hpP0,c3]
def CG (f:aC->Option (cR × aC)):Prop:=∀a0 r,f a0=some r->∀(q:Pa) (m:M) (vs:List V) (P0:Pa),vs.map V.weak1=[.ptr P0 0]/\m.blk P0=some ((aC.C a0))/\m.gl 2=.eptr [(cA cS cN)] 0 0->SC prog 83 vs q m (fun v m'=>v=.lit (.string (bs r.1))/\m'=(m.set P0 ((aC.C r.2))))
theorem gP (n:Nat):CG (eN n):=by
 rintro a0 r h q m vs P0 ⟨hv,hmP0,hg2⟩;refine SC.wv hv ?_;refine SC.ap hmP0 fun hpP0 l0=>?_
 try simp only [go_sem] at hmP0 l0
 refine dZ func83 call83 ntmps83 results83 ?_;unfold eN at h;refine aM ?_;simp only [go_sem];refine aF ?_;obtain ⟨x1,h3,h⟩:=aA h;refine aN fun _ z=>?_;simp only [go_sem,seval];refine SC.by_ (gJ a0 _ h3 _ _ _ P0 (by simp only [go_sem,hmP0])) ?_;simp only [go_sem,seval];apply z;refine aF (aF ?_);obtain ⟨y4,hy4,h⟩:=aA h;refine gN 20 (fun E' m'=>E' 0=.ptr P0 0/\E' 3=.ptr (3::q) 0/\E' 20=.lit (.bool y4)/\m'.blk P0=some ((aC.C a0))/\m'.blk (3::q)=some ((dK.C x1))/\m'.gl=m.gl/\m.back q m'=(m.set P0 ((aC.C a0)))) ?_ ?_
 ·rcases dH hy4 with ⟨c5,hy4⟩ | ⟨c5,hy4⟩
  ·refine aN fun _ z=>?_;simp only [go_sem,seval,cQ hpP0,c5,hmP0];apply z;cases hy4;refine ⟨by decide,?_⟩;simp only [go_sem,seval,aO,aJ,l0,cQ hpP0,hmP0]
  ·
   rcases dH hy4 with ⟨c6,hy4⟩ | ⟨c6,hy4⟩
   ·refine aN fun _ z=>?_;simp only [go_sem,seval,cQ hpP0,c5,c6,hmP0];apply z;cases hy4;refine ⟨by decide,?_⟩;simp only [go_sem,seval,aO,aJ,l0,cQ hpP0,hmP0]
   ·obtain ⟨x7,h8,hy4⟩:=aA hy4;refine aN fun _ z=>?_;simp only [go_sem,seval,cQ hpP0,c5,c6,hmP0];refine SC.by_ (Eg n x1.cP _ h8 _ _ _ (by simp only [go_sem,hg2])) ?_;simp only [go_sem,seval];apply z;cases hy4;refine ⟨by decide,?_⟩;simp only [go_sem,seval,aO,aJ,l0,cQ hpP0,hmP0]
 ·intro E9 m10 e11 _;refine bJ h (fun c12 h=>?_) (fun c12 h=>?_)
  ·refine aF ?_;obtain ⟨x13,h14,h⟩:=aA h;refine aN fun _ z=>?_;simp only [go_sem,seval,e11];refine SC.by_ (lM a0 110 _ h14 _ _ _ P0 (by simp only [go_sem,e11])) ?_;simp only [go_sem,seval];apply z;refine aM ?_;simp only [go_sem,seval];refine aQ ?_
   try simp only [aU]
   cases h;refine ⟨by simp,?_⟩;simp only [go_sem,seval,bF hpP0,l0,e11]
  ·refine aV ?_
   refine aM ?_;simp only [go_sem,seval,e11];refine aM ?_;simp only [go_sem,seval,cQ hpP0,e11];refine aQ ?_;cases h;refine ⟨by simp,?_⟩;simp only [go_sem,seval,bF hpP0,l0,e11]
def Bb (f:aC->Option (Int × aC)):Prop:=∀a0 r,f a0=some r->∀(q:Pa) (m:M) (vs:List V) (P0:Pa),vs.map V.weak1=[.ptr P0 0]/\m.blk P0=some ((aC.C a0))->SC prog 172 vs q m (fun v m'=>v=.lit (.int .u32 r.1)/\m'=(m.set P0 ((aC.C r.2))))
theorem tA:Bb (kE):=by
 rintro a0 r h q m vs P0 ⟨hv,hmP0⟩;refine SC.wv hv ?_;refine SC.ap hmP0 fun hpP0 l0=>?_
 try simp only [go_sem] at hmP0 l0
 refine dZ func172 call172 ntmps172 results172 ?_;unfold kE at h;refine aM ?_;simp only [go_sem];refine aF ?_;obtain ⟨x1,h3,h⟩:=aA h;refine aN fun _ z=>?_;simp only [go_sem,seval];refine SC.by_ (gJ a0 _ h3 _ _ _ P0 (by simp only [go_sem,hmP0])) ?_;simp only [go_sem,seval];apply z;refine aF (aF ?_);obtain ⟨y4,hy4,h⟩:=aA h;refine gN 15 (fun E' m'=>E' 0=.ptr P0 0/\E' 3=.ptr (3::q) 0/\E' 15=.lit (.bool y4)/\m'.blk P0=some ((aC.C a0))/\m'.blk (3::q)=some ((dK.C x1))/\m'.gl=m.gl/\m.back q m'=(m.set P0 ((aC.C a0)))) ?_ ?_
 ·rcases dH hy4 with ⟨c5,hy4⟩ | ⟨c5,hy4⟩
  ·refine aN fun _ z=>?_;simp only [go_sem,seval,cQ hpP0,c5,hmP0];apply z;cases hy4;refine ⟨by decide,?_⟩;simp only [go_sem,seval,aO,aJ,l0,cQ hpP0,hmP0]
  ·refine aN fun _ z=>?_;simp only [go_sem,seval,cQ hpP0,c5,hmP0];apply z;cases hy4;refine ⟨by decide,?_⟩;simp only [go_sem,seval,aO,aJ,l0,cQ hpP0,hmP0]
 ·intro E6 m7 e8 _;refine bJ h (fun c9 h=>?_) (fun c9 h=>?_)
  ·refine aF ?_;obtain ⟨x10,h11,h⟩:=aA h;refine aN fun _ z=>?_;simp only [go_sem,seval,e8];refine SC.by_ (lM a0 110 _ h11 _ _ _ P0 (by simp only [go_sem,e8])) ?_;simp only [go_sem,seval];apply z;refine aM ?_;simp only [go_sem,seval];refine aQ ?_
   try simp only [aU]
   cases h;refine ⟨by simp,?_⟩;simp only [go_sem,seval,bF hpP0,l0,e8]
  ·refine aV ?_
   refine aM ?_;simp only [go_sem,seval,e8];refine aM ?_;simp only [go_sem,seval,cQ hpP0,e8];refine aQ ?_;cases h;refine ⟨by simp,?_⟩;simp only [go_sem,seval,bF hpP0,l0,e8]
def CC (f:aC->Option (Int × aC)):Prop:=∀a0 r,f a0=some r->∀(q:Pa) (m:M) (vs:List V) (P0:Pa),vs.map V.weak1=[.ptr P0 0]/\m.blk P0=some ((aC.C a0))/\m.gl 2=.eptr [(cA cS cN)] 0 0->SC prog 136 vs q m (fun v m'=>v=.lit (.int .u32 r.1)/\m'=(m.set P0 ((aC.C r.2))))
theorem uS (n:Nat):CC (mF n):=by
 rintro a0 r h q m vs P0 ⟨hv,hmP0,hg2⟩;refine SC.wv hv ?_;refine SC.ap hmP0 fun hpP0 l0=>?_
 try simp only [go_sem] at hmP0 l0
 refine dZ func136 call136 ntmps136 results136 ?_;unfold mF at h;refine aM ?_;simp only [go_sem];refine aF ?_;obtain ⟨x1,h2,h⟩:=aA h;refine aN fun _ z=>?_;simp only [go_sem,seval];refine SC.by_ (bU n a0 ([91]:cR) _ h2 _ _ _ P0 (by simp only [go_sem,hmP0,hg2])) ?_;simp only [go_sem,seval];apply z;refine aF ?_;obtain ⟨x3,h4,h⟩:=aA h;refine aN fun _ z=>?_;simp only [go_sem,seval];refine SC.by_ (tA x1 _ h4 _ _ _ P0 (by simp only [go_sem,seval])) ?_;simp only [go_sem,seval];apply z;refine aF ?_;obtain ⟨x5,h6,h⟩:=aA h;refine aN fun _ z=>?_;simp only [go_sem,seval];refine SC.by_ (bU n x3.2 ([93]:cR) _ h6 _ _ _ P0 (by simp only [go_sem,seval,hg2])) ?_;simp only [go_sem,seval];apply z;refine aM ?_;simp only [go_sem,seval];refine aQ ?_;cases h;refine ⟨by simp,?_⟩;simp only [go_sem,seval,aJ,bF hpP0]
def BQ (f:aC->Option (aB × aC)):Prop:=∀a0 r,f a0=some r->∀(q:Pa) (m:M) (vs:List V) (P0:Pa),vs.map V.weak1=[.ptr P0 0]/\m.blk P0=some ((aC.C a0))/\m.gl 2=.eptr [(cA cS cN)] 0 0->SC prog 85 vs q m (fun v m'=>v=.agg ((aB.C r.1))/\m'=(m.set P0 ((aC.C r.2))))
theorem Ba (n:Nat):BQ (nZ n):=by
 rintro a0 r h q m vs P0 ⟨hv,hmP0,hg2⟩;refine SC.wv hv ?_;refine SC.ap hmP0 fun hpP0 l0=>?_
 try simp only [go_sem] at hmP0 l0
 refine dZ func85 call85 ntmps85 results85 ?_;unfold nZ at h;refine aM ?_;simp only [go_sem];refine aF ?_;obtain ⟨x2,h4,h⟩:=aA h;refine aN fun _ z=>?_;simp only [go_sem,seval];refine SC.mono (gO a0 3 _ h4 _ _ _ P0 (by simp only [go_sem,seval,fC hpP0,hmP0])) ?_;rintro _ _ ⟨o_x2,j_x2,s_x2,rfl,rfl⟩;replace s_x2:q <:+ o_x2:=List.IsSuffix.trans (by simp only [go_sem]) s_x2;simp only [go_sem,seval];apply z;refine aF ?_;obtain ⟨x5,h6,h⟩:=aA h;refine aN fun _ z=>?_;simp only [go_sem,seval];refine SC.by_ (gP n x2.2 _ h6 _ _ _ P0 (by simp only [go_sem,seval,fC hpP0,hg2])) ?_;simp only [go_sem,seval,fC hpP0];apply z;refine aF ?_;obtain ⟨x7,h8,h⟩:=aA h;refine aN fun _ z=>?_;simp only [go_sem,seval];refine SC.by_ (bU n x5.2 ([58]:cR) _ h8 _ _ _ P0 (by simp only [go_sem,seval,fC hpP0,hg2])) ?_;simp only [go_sem,seval];apply z;refine aF (aM ?_);simp only [go_sem,seval];refine bN ?_;obtain ⟨y14,hy14,h⟩:=aA h;refine kN (fun c E' m'=>∃v10 v11 v12 v13,iZ n c v10 v11 v12 v13=some y14/\E' 0=.ptr P0 0/\E' 2=.ptr (0::q) 0/\E' 3=.ptr (3::q) 0/\E' 14=.agg ((cA cS qJ))/\E' 15=.lit (.int .i64 v10)/\m'.blk P0=some ((aC.C v11))/\m'.blk (0::q)=some ([.lit (.int .i64 v12.cF),.lit (.int .i64 v12.fQ),.lit (.string (bs v12.cP)),.lit (.int .u32 v12.mE),.list .self (v12.aP.map aB.C)])/\m'.blk (3::q)=some ([.lit (.int .i64 v13.cF),.lit (.int .i64 v13.fQ),.lit (.string (bs v13.cP)),.lit (.int .u32 v13.mE),.list .self (v13.aP.map aB.C)])/\m'.gl=m.gl/\m.back q m'=(m.set P0 ((aC.C v11)))) n ⟨0,x7,(aB.mk 0 0 [] 0 []),({ x2.1 with cP:=x5.1 }:aB),hy14,?_⟩ ?_
 ·(simp only [go_sem,seval,aO,cM,cH,aJ,bF hpP0,fC hpP0,s_x2]) <;> (try and_intros) <;> rfl
 rintro i9 c15 E16 m17 ⟨v10,v11,v12,v13,hy14,e18⟩ _
 rcases c15 with _ | c15
 ·cases hy14
 rw [iZ] at hy14;refine aM ?_;simp only [go_sem,e18];refine aF (bJ hy14 (fun c19 hy14=>?_) (fun c19 hy14=>?_))
 ·refine aV ?_
  refine aF (bN (aF ?_));obtain ⟨x20,h24,hy14⟩:=aA hy14;obtain ⟨f21,f22,f23⟩:=aX h24;have f25:v10<3:=f22;obtain ⟨w26,d27⟩:=Co (f:=cS) (s:=1) (fun _ _=>rfl) f23;simp only [go_sem] at d27;have d28:List.drop (v10.toNat) [V.lit (.string (bs ([112,117,98]:cR))),V.lit (.string (bs ([117,51,50]:cR))),V.lit (.string (bs ([117,54,52]:cR)))]=_:=d27;refine aN fun _ z=>?_;simp only [go_sem,seval,f21,f25,d27,e18];apply z;refine aF ?_;obtain ⟨x29,h30,hy14⟩:=aA hy14;refine aN fun _ z=>?_;simp only [go_sem,seval,e18];refine SC.by_ (cD n v11 x20 _ h30 _ _ _ P0 (by simp only [go_sem,e18,hg2])) ?_;simp only [go_sem,seval];apply z;refine bJ hy14 (fun c31 hy14=>?_) (fun c31 hy14=>?_)
  ·refine aM ?_;simp only [go_sem,seval,fC hpP0,c31,e18];refine aM ?_;simp only [go_sem,seval,fC hpP0,e18];refine aQ ?_
   try simp only [aU,bK]
   cases hy14;simp only [DX] at h;cases h;refine ⟨by simp,?_⟩;simp only [go_sem,seval,aO,bF hpP0,e18]
  ·refine aV ?_
   try simp only [aL,aS]
   refine aN fun _ z=>?_;simp only [go_sem,seval,c31,e18];apply z;refine ⟨c15,xH _,(i64.wrap (v10+1)),x29.2,v12,v13,hy14,?_⟩
   (simp only [go_sem,seval,bF hpP0,fC hpP0,e18]) <;> (try and_intros) <;> rfl
 ·refine dQ ?_
  try simp only [bZ,bR,↓reduceIte,aL]
  cases hy14;simp only [FW] at h;refine aM ?_;simp only [go_sem,seval,c19,e18];refine aF ?_;obtain ⟨x32,h34,h⟩:=aA h;refine aN fun _ z=>?_;simp only [go_sem,seval,e18];refine SC.mono (gO v11 14 _ h34 _ _ _ P0 (by simp only [go_sem,seval,fC hpP0,e18])) ?_;rintro _ _ ⟨o_x32,j_x32,s_x32,rfl,rfl⟩;replace s_x32:q <:+ o_x32:=List.IsSuffix.trans (by simp only [go_sem]) s_x32;simp only [go_sem,seval];apply z;refine aF ?_;obtain ⟨x35,h36,h⟩:=aA h;refine aN fun _ z=>?_;simp only [go_sem,seval,e18];refine SC.by_ (uS n x32.2 _ h36 _ _ _ P0 (by simp only [go_sem,seval,fC hpP0,e18,hg2])) ?_;simp only [go_sem,seval,fC hpP0];apply z;refine aM ?_;simp only [go_sem,seval,fC hpP0,e18];refine aM ?_;simp only [go_sem,seval,fC hpP0,e18];refine aQ ?_;cases h;refine ⟨by simp,?_⟩;simp only [go_sem,seval,aO,cM,cH,bF hpP0,s_x32,e18]
def wX (f:aC->Option ((List aB) × aC)):Prop:=∀a0 r,f a0=some r->∀(q:Pa) (m:M) (vs:List V) (P0:Pa),vs.map V.weak1=[.ptr P0 0,.fn (.func 85) [.ptr P0 0] []]/\m.blk P0=some ((aC.C a0))/\m.gl 2=.eptr [(cA cS cN)] 0 0->SC prog 84 vs q m (fun v m'=>∃(id:Pa) (j:Nat),q <:+ id/\v=.list (.st (.anon id j)) (r.1.map aB.C)/\m'=(m.set P0 ((aC.C r.2))).tokset id j true)
theorem qW (n:Nat):wX (gH n):=by
 rintro a0 r h q m vs P0 ⟨hv,hmP0,hg2⟩;refine SC.wv hv ?_;refine SC.ap hmP0 fun hpP0 l0=>?_
 try simp only [go_sem] at hmP0 l0
 refine Ry func84 rfl (fun xs w=>call84 xs w) ntmps84 (by kernel_rfl) ?_;unfold gH at h;refine aM ?_;simp only [go_sem];refine aM ?_;simp only [go_sem,seval];refine aF ?_;obtain ⟨x1,h2,h⟩:=aA h;refine aN fun _ z=>?_;simp only [go_sem,seval];refine SC.by_ (bU n a0 ([40]:cR) _ h2 _ _ _ P0 (by simp only [go_sem,hmP0,hg2])) ?_;simp only [go_sem,seval];apply z;refine aF (aF ?_);obtain ⟨x3,h4,h⟩:=aA h;refine aN fun _ z=>?_;simp only [go_sem,seval];refine SC.by_ (cD n x1 ([41]:cR) _ h4 _ _ _ P0 (by simp only [go_sem,seval,hg2])) ?_;simp only [go_sem,seval];apply z;refine bJ h (fun c5 h=>?_) (fun c5 h=>?_)
 ·refine aM ?_;simp only [go_sem,seval,c5];refine aQ ?_
  try simp only [aU]
  cases h;refine ⟨by simp,?_⟩;refine ⟨(7::q),0,_,(by simp only [go_sem]),.exact (t:=4) (rows:=([].map aB.C)) (congrArg Array.toList results84) (by simp only [go_sem,seval]),(7::q),0,(by simp only [go_sem]),?_,?_⟩ <;> simp only [go_sem,aJ,bF hpP0]
 ·refine aV ?_
  refine aF ?_;obtain ⟨y6,hy6,h⟩:=aA h;refine gN 8 (fun E' m'=>∃(oy6_5:Pa) (jy6_5:Nat),E' 0=.ptr P0 0/\E' 5=.list (.st (.anon oy6_5 jy6_5)) (y6.1.map aB.C)/\m'.tok oy6_5 jy6_5=true/\q <:+ oy6_5/\m'.blk P0=some ((aC.C y6.2))/\m'.gl=m.gl/\m.back q m'=(m.set P0 ((aC.C y6.2)))) ?_ ?_
  ·refine bN ?_;obtain ⟨y10,hy10,hy6⟩:=aA hy6;refine zA 5 ([].map aB.C) rfl (by simp only [go_sem,seval,c5]) ?_;refine kN (fun c E' m'=>∃v8 v9 o_v8 j_v8,gK n c v8 v9=some y10/\E' 0=.ptr P0 0/\E' 1=.fn (.func 85) [.ptr P0 0] []/\E' 5=.list (.st (.anon o_v8 j_v8)) (v8.map aB.C)/\m'.tok o_v8 j_v8=true/\q <:+ o_v8/\m'.blk P0=some ((aC.C v9))/\m'.gl=m.gl/\m.back q m'=(m.set P0 ((aC.C v9)))) n ⟨[],x3.2,(6::q),0,hy10,?_⟩ ?_
   ·simp only [go_sem,seval,cH,aJ,bF hpP0,c5]
   rintro i7 c11 E12 m13 ⟨v8,v9,o_v8,j_v8,hy10,e14⟩ _
   rcases c11 with _ | c11
   ·cases hy10
   rw [gK] at hy10;refine aF (aM ?_);simp only [go_sem,seval,e14];refine bJ hy10 (fun c15 hy10=>?_) (fun c15 hy10=>?_)
   ·refine aV ?_
    refine bN (aF ?_);obtain ⟨x16,h17,hy10⟩:=aA hy10;obtain ⟨f18,hy10⟩:=bS hy10;have f19:v8.length+1<=1073741824:=by first | omega | (simp only [nL,jK,lD] at f18 ⊢;omega)
    have f20:v8.length<=1073741823:=by first | omega | (simp only [nL,jK,lD] at f18 ⊢;omega)
    refine aN fun _ z=>?_;simp only [go_sem,seval,c15,e14];refine SC.by_ (Ba n v9 _ h17 _ _ _ P0 (by simp only [go_sem,e14,hg2])) ?_;simp only [go_sem,seval,f19,e14];apply z;refine aF ?_;obtain ⟨x21,h22,hy10⟩:=aA hy10;refine aN fun _ z=>?_;simp only [go_sem,seval,e14];refine SC.by_ (cD n x16.2 ([44]:cR) _ h22 _ _ _ P0 (by simp only [go_sem,seval,e14,hg2])) ?_;simp only [go_sem,seval];apply z;refine bJ hy10 (fun c23 hy10=>?_) (fun c23 hy10=>?_)
    ·refine dQ ?_
     try simp only [seval,bZ,bR,aL]
     cases hy10;cases hy6;refine ⟨by decide,(9::i7::7::q),0,?_⟩;simp only [go_sem,seval,cH,bF hpP0,c23,e14]
    ·refine aV ?_
     try simp only [aL,aS]
     refine ⟨c11,xH _,(v8++[x16.1]),x21.2,(9::i7::7::q),0,hy10,?_⟩;simp only [go_sem,seval,cH,bF hpP0,c23,e14]
   ·refine dQ ?_
    try simp only [bZ,bR,↓reduceIte,aL]
    cases hy10;cases hy6;refine ⟨by decide,o_v8,j_v8,?_⟩;simp only [go_sem,seval,c15,e14]
  ·rintro E24 m25 ⟨oy6_5,jy6_5,e26⟩ _;refine aF ?_;obtain ⟨x27,h28,h⟩:=aA h;refine aN fun _ z=>?_;simp only [go_sem,seval,e26];refine SC.by_ (bU n y6.2 ([41]:cR) _ h28 _ _ _ P0 (by simp only [go_sem,e26,hg2])) ?_;simp only [go_sem,seval];apply z;refine aM ?_;simp only [go_sem,seval,e26];refine aQ ?_;cases h;refine ⟨by simp,?_⟩;refine ⟨oy6_5,jy6_5,_,(by simp only [go_sem,e26]),.mine (t:=4) (rows:=(y6.1.map aB.C)) (congrArg Array.toList results84) (by simp only [go_sem,seval]) (by simp only [go_sem,e26]),oy6_5,jy6_5,(by simp only [go_sem,e26]),?_,?_⟩ <;> simp only [go_sem,bF hpP0,e26]
def CJ (f:aC->Int->Option aC):Prop:=∀a0 a1 r,f a0 a1=some r->∀(q:Pa) (m:M) (vs:List V) (P0:Pa),vs.map V.weak1=[.ptr P0 0,.lit (.int .i64 a1)]/\m.blk P0=some ((aC.C a0))->SC prog 137 vs q m (fun v m'=>v=.tup []/\m'=(m.set P0 ((aC.C r))))
theorem uU:CJ (mH):=by
 rintro a0 a1 r h q m vs P0 ⟨hv,hmP0⟩;refine SC.wv hv ?_;refine SC.ap hmP0 fun hpP0 l0=>?_
 try simp only [go_sem] at hmP0 l0
 refine dZ func137 call137 ntmps137 results137 ?_;unfold mH at h;refine aM ?_;simp only [go_sem,seval];refine bJ h (fun c1 h=>?_) (fun c1 h=>?_)
 ·obtain ⟨x2,h3,h⟩:=aA h;refine fB fun _ z=>?_;simp only [go_sem,seval,c1];refine SC.by_ (lM a0 111 _ h3 _ _ _ P0 (by simp only [go_sem,hmP0])) ?_;simp only [go_sem,seval];apply z;simp only [];cases h;refine ⟨by simp,?_⟩;simp only [go_sem,aJ,bF hpP0]
 ·refine aV ?_;cases h;refine ⟨by simp,?_⟩;simp only [go_sem,aJ,l0,c1]
def CD (f:aC->Int->Option cR):Prop:=∀a0 a1 r,f a0 a1=some r->∀(q:Pa) (m:M) (vs:List V) (P0:Pa),vs.map V.weak1=[.ptr P0 0,.lit (.int .i64 a1)]/\m.blk P0=some ((aC.C a0))/\m.gl 2=.eptr [(cA cS cN)] 0 0/\m.gl 5=.eptr [(cA (cA cS) dE)] 0 0->SC prog 221 vs q m (fun v m'=>v=.lit (.string (bs r))/\m'=m)
theorem uT (n:Nat):CD (mG n):=by
 rintro a0 a1 r h q m vs P0 ⟨hv,hmP0,hg2,hg5⟩;refine SC.wv hv ?_;refine SC.apart hmP0 fun hpP0=>?_
 try simp only [go_sem] at hmP0
 refine dZ func221 call221 ntmps221 results221 ?_;unfold mG at h;refine aM ?_;simp only [go_sem];refine aF (aF ?_);obtain ⟨x1,h5,h⟩:=aA h;obtain ⟨f2,f3,f4⟩:=aX h5;have f6:a1<7:=f3;obtain ⟨w7,d8⟩:=Co (f:=(cA cS)) (s:=3) (Rh (f:=(cA cS)) (s:=3) _ (by kernel_rfl)) f4;have d9:=(Rh (f:=(cA cS)) (s:=3) _ (by kernel_rfl)) _ (AT f4);have d10:=List.take_left' (l₂:=w7) d9;have d11:(3<=(cA cS x1).length+w7.length)=True:=eq_true (by omega);refine aN fun _ z=>?_;simp only [go_sem,seval,f2,f6,d10,d11,d8,hg5];apply z;refine bN ?_;obtain ⟨y14,hy14,h⟩:=aA h;refine kN (fun c E' m'=>∃v13,jS n x1 a0 c v13=some y14/\E' 0=.ptr P0 0/\E' 9=.agg ((cA cS x1))/\E' 10=.lit (.int .i64 v13)/\m'.blk P0=some ((aC.C a0))/\m'.gl=m.gl/\m.back q m'=m) n ⟨0,hy14,?_⟩ ?_
 ·simp only [go_sem,seval,aJ,hmP0]
 rintro i12 c15 E16 m17 ⟨v13,hy14,e18⟩ _
 rcases c15 with _ | c15
 ·cases hy14
 rw [jS] at hy14;refine aM ?_;simp only [go_sem,e18];refine aF (bJ hy14 (fun c19 hy14=>?_) (fun c19 hy14=>?_))
 ·refine aV ?_
  refine aF (bN (aF ?_));obtain ⟨x20,h24,hy14⟩:=aA hy14;obtain ⟨f21,f22,f23⟩:=aX h24;have f25:=(qS.1 f23).1;have f26:v13<3:=by have:=cA_one d9;omega
  obtain ⟨w27,d28⟩:=Co (f:=cS) (s:=1) (fun _ _=>rfl) f23;simp only [go_sem] at d28;refine aN fun _ z=>?_;simp only [go_sem,seval,f21,f26,d28,e18];apply z;refine aF ?_;obtain ⟨y29,hy29,hy14⟩:=aA hy14;refine gN 10 (fun E' m'=>E' 0=.ptr P0 0/\E' 6=.lit (.string (bs x20))/\E' 9=.agg ((cA cS x1))/\E' 10=.lit (.int .i64 v13)/\E' 19=.lit (.bool y29)/\m'.blk P0=some ((aC.C a0))/\m'.gl=m.gl/\m.back q m'=m) ?_ ?_
  ·rcases dH hy29 with ⟨c30,hy29⟩ | ⟨c30,hy29⟩
   ·obtain ⟨x31,h32,hy29⟩:=aA hy29;refine aN fun _ z=>?_;simp only [go_sem,seval,c30,e18];refine SC.by_ (oA n a0 x20 _ h32 _ _ _ P0 (by simp only [go_sem,e18,hg2])) ?_;simp only [go_sem,seval];apply z;cases hy29;refine ⟨by decide,?_⟩;simp only [go_sem,seval,e18]
   ·refine aN fun _ z=>?_;simp only [go_sem,seval,c30];apply z;cases hy29;refine ⟨by decide,?_⟩;simp only [go_sem,seval,e18]
  ·intro E33 m34 e35 _;refine bJ hy14 (fun c36 hy14=>?_) (fun c36 hy14=>?_)
   ·refine aM ?_;simp only [go_sem,seval,e35];refine aQ ?_
    try simp only [aU,bK]
    cases hy14;simp only [DX] at h;cases h;refine ⟨by simp,?_⟩;simp only [go_sem,seval,e35]
   ·refine aV ?_
    try simp only [aL,aS]
    refine aN fun _ z=>?_;simp only [go_sem,seval,e35];apply z;refine ⟨c15,xH _,(i64.wrap (v13+1)),hy14,?_⟩;simp only [go_sem,seval,e35]
 ·refine dQ ?_
  try simp only [bZ,bR,↓reduceIte,aL]
  cases hy14;simp only [FW] at h;refine aM ?_;simp only [go_sem,seval,c19];refine aQ ?_;cases h;refine ⟨by simp,?_⟩;simp only [go_sem,seval,e18]
def lK (f:aC->Int->Option ((List aB) × aC)):Prop:=∀a0 a1 r,f a0 a1=some r->∀(q:Pa) (m:M) (vs:List V) (P0:Pa) (P1:Pa) (P2:Pa),vs.map V.weak1=[.ptr P0 0,.fn (.func 231) [] [.ptr P1 0,.ptr P2 0]]/\m.blk P0=some ((aC.C a0))/\m.blk P1=some ([.ptr P0 0])/\m.blk P2=some ([.lit (.int .i64 a1)])/\(P0=P1)=False/\(P0=P2)=False/\(P1=P0)=False/\(P1=P2)=False/\(P2=P0)=False/\(P2=P1)=False/\m.gl 2=.eptr [(cA cS cN)] 0 0/\m.gl 5=.eptr [(cA (cA cS) dE)] 0 0->SC prog 84 vs q m (fun v m'=>v=.list .none (r.1.map aB.C)/\m'=(m.set P0 ((aC.C r.2))))
def mY (f:aC->Int->Option (aB × aC)):Prop:=∀a0 a1 r,f a0 a1=some r->∀(q:Pa) (m:M) (vs:List V) (P0:Pa),vs.map V.weak1=[.ptr P0 0,.lit (.int .i64 a1)]/\m.blk P0=some ((aC.C a0))/\m.gl 2=.eptr [(cA cS cN)] 0 0/\m.gl 5=.eptr [(cA (cA cS) dE)] 0 0->SC prog 174 vs q m (fun v m'=>v=.agg ((aB.C r.1))/\m'=(m.set P0 ((aC.C r.2))))
def oS (f:aC->Int->Int->Option (aB × aC)):Prop:=∀a0 a1 a2 r,f a0 a1 a2=some r->∀(q:Pa) (m:M) (vs:List V) (P0:Pa),vs.map V.weak1=[.ptr P0 0,.lit (.int .i64 a1),.lit (.int .i64 a2)]/\m.blk P0=some ((aC.C a0))/\m.gl 2=.eptr [(cA cS cN)] 0 0/\m.gl 5=.eptr [(cA (cA cS) dE)] 0 0->SC prog 202 vs q m (fun v m'=>v=.agg ((aB.C r.1))/\m'=(m.set P0 ((aC.C r.2))))
def nS (f:aC->Int->Option (aB × aC)):Prop:=∀a0 a1 r,f a0 a1=some r->∀(q:Pa) (m:M) (vs:List V) (P0:Pa),vs.map V.weak1=[.ptr P0 0,.lit (.int .i64 a1)]/\m.blk P0=some ((aC.C a0))/\m.gl 2=.eptr [(cA cS cN)] 0 0/\m.gl 5=.eptr [(cA (cA cS) dE)] 0 0->SC prog 220 vs q m (fun v m'=>v=.agg ((aB.C r.1))/\m'=(m.set P0 ((aC.C r.2))))
def pB (f:aC->Int->Option (aB × aC)):Prop:=∀a0 a1 r,f a0 a1=some r->∀(q:Pa) (m:M) (vs:List V) (P0:Pa) (P1:Pa) (P2:Pa),vs.map V.weak1=[.ptr P1 0,.ptr P2 0]/\m.blk P0=some ((aC.C a0))/\m.blk P1=some ([.ptr P0 0])/\m.blk P2=some ([.lit (.int .i64 a1)])/\(P0=P1)=False/\(P0=P2)=False/\(P1=P0)=False/\(P1=P2)=False/\(P2=P0)=False/\(P2=P1)=False/\m.gl 2=.eptr [(cA cS cN)] 0 0/\m.gl 5=.eptr [(cA (cA cS) dE)] 0 0->SC prog 231 vs q m (fun v m'=>v=.agg ((aB.C r.1))/\m'=(m.set P0 ((aC.C r.2))))
theorem tB {eP} (wQ:pB eP) (n:Nat):lK (gQ eP n):=by
 rintro a0 a1 r h q m vs P0 P1 P2 ⟨hv,hmP0,hmP1,hmP2,hn0_1,hn0_2,hn1_0,hn1_2,hn2_0,hn2_1,hg2,hg5⟩;refine SC.wv hv ?_;refine SC.apart hmP0 fun hpP0=>?_;refine SC.apart hmP1 fun hpP1=>?_;refine SC.apart hmP2 fun hpP2=>?_;have l0:=mU hmP0
 try simp only [go_sem] at hmP0 l0
 skip
 try simp only [go_sem,seval] at hmP2
 refine dZ func84 call84 ntmps84 results84 ?_;unfold gQ at h;refine aM ?_;simp only [go_sem];refine aM ?_;simp only [go_sem,seval];refine aF ?_;obtain ⟨x1,h2,h⟩:=aA h;refine aN fun _ z=>?_;simp only [go_sem,seval];refine SC.by_ (bU n a0 ([40]:cR) _ h2 _ _ _ P0 (by simp only [go_sem,hmP0,hg2])) ?_;simp only [go_sem,seval];apply z;refine aF (aF ?_);obtain ⟨x3,h4,h⟩:=aA h;refine aN fun _ z=>?_;simp only [go_sem,seval];refine SC.by_ (cD n x1 ([41]:cR) _ h4 _ _ _ P0 (by simp only [go_sem,seval,hg2])) ?_;simp only [go_sem,seval];apply z;refine bJ h (fun c5 h=>?_) (fun c5 h=>?_)
 ·refine aM ?_;simp only [go_sem,seval,c5];refine aQ ?_
  try simp only [aU]
  cases h;refine ⟨by simp,?_⟩;simp only [go_sem,seval,aJ,bF hpP0]
 ·refine aV ?_
  refine aF ?_;obtain ⟨y6,hy6,h⟩:=aA h;refine gN 8 (fun E' m'=>∃(oy6_5:Pa) (jy6_5:Nat),E' 0=.ptr P0 0/\E' 5=.list (.st (.anon oy6_5 jy6_5)) (y6.1.map aB.C)/\m'.tok oy6_5 jy6_5=true/\q <:+ oy6_5/\m'.blk P0=some ((aC.C y6.2))/\m'.blk P1=some ([.ptr P0 0])/\m'.blk P2=some ([.lit (.int .i64 a1)])/\m'.gl=m.gl/\m.back q m'=(m.set P0 ((aC.C y6.2)))) ?_ ?_
  ·refine bN ?_;obtain ⟨y10,hy10,hy6⟩:=aA hy6;refine zA 5 ([].map aB.C) rfl (by simp only [go_sem,seval,c5]) ?_;refine kN (fun c E' m'=>∃v8 v9 o_v8 j_v8,fI eP n a1 c v8 v9=some y10/\E' 0=.ptr P0 0/\E' 1=.fn (.func 231) [] [.ptr P1 0,.ptr P2 0]/\E' 5=.list (.st (.anon o_v8 j_v8)) (v8.map aB.C)/\m'.tok o_v8 j_v8=true/\q <:+ o_v8/\m'.blk P0=some ((aC.C v9))/\m'.blk P1=some ([.ptr P0 0])/\m'.blk P2=some ([.lit (.int .i64 a1)])/\m'.gl=m.gl/\m.back q m'=(m.set P0 ((aC.C v9)))) n ⟨[],x3.2,(6::q),0,hy10,?_⟩ ?_
   ·simp only [go_sem,seval,cH,aJ,bF hpP0,hn1_0,hn2_0,c5,hmP1,hmP2]
   rintro i7 c11 E12 m13 ⟨v8,v9,o_v8,j_v8,hy10,e14⟩ _
   rcases c11 with _ | c11
   ·cases hy10
   rw [fI] at hy10;refine aF (aM ?_);simp only [go_sem,seval,e14];refine bJ hy10 (fun c15 hy10=>?_) (fun c15 hy10=>?_)
   ·refine aV ?_
    refine bN (aF ?_);obtain ⟨x16,h17,hy10⟩:=aA hy10;obtain ⟨f18,hy10⟩:=bS hy10;have f19:v8.length+1<=1073741824:=by first | omega | (simp only [nL,jK,lD] at f18 ⊢;omega)
    have f20:v8.length<=1073741823:=by first | omega | (simp only [nL,jK,lD] at f18 ⊢;omega)
    refine aN fun _ z=>?_;simp only [go_sem,seval,c15,e14];refine SC.by_ (wQ v9 a1 _ h17 _ _ _ P0 P1 P2 (by simp only [go_sem,hn0_1,hn0_2,hn1_0,hn1_2,hn2_0,hn2_1,e14,hg2,hg5])) ?_;simp only [go_sem,seval,f19,e14];apply z;refine aF ?_;obtain ⟨x21,h22,hy10⟩:=aA hy10;refine aN fun _ z=>?_;simp only [go_sem,seval,e14];refine SC.by_ (cD n x16.2 ([44]:cR) _ h22 _ _ _ P0 (by simp only [go_sem,seval,e14,hg2])) ?_;simp only [go_sem,seval];apply z;refine bJ hy10 (fun c23 hy10=>?_) (fun c23 hy10=>?_)
    ·refine dQ ?_
     try simp only [seval,bZ,bR,aL]
     cases hy10;cases hy6;refine ⟨by decide,(9::i7::7::q),0,?_⟩;simp only [go_sem,seval,cH,bF hpP0,hn1_0,hn2_0,c23,e14]
    ·refine aV ?_
     try simp only [aL,aS]
     refine ⟨c11,xH _,(v8++[x16.1]),x21.2,(9::i7::7::q),0,hy10,?_⟩;simp only [go_sem,seval,cH,bF hpP0,hn1_0,hn2_0,c23,e14]
   ·refine dQ ?_
    try simp only [bZ,bR,↓reduceIte,aL]
    cases hy10;cases hy6;refine ⟨by decide,o_v8,j_v8,?_⟩;simp only [go_sem,seval,c15,e14]
  ·rintro E24 m25 ⟨oy6_5,jy6_5,e26⟩ _;refine aF ?_;obtain ⟨x27,h28,h⟩:=aA h;refine aN fun _ z=>?_;simp only [go_sem,seval,e26];refine SC.by_ (bU n y6.2 ([41]:cR) _ h28 _ _ _ P0 (by simp only [go_sem,e26,hg2])) ?_;simp only [go_sem,seval];apply z;refine aM ?_;simp only [go_sem,seval,e26];refine aQ ?_;cases h;refine ⟨by simp,?_⟩;simp only [go_sem,seval,bF hpP0,e26]
theorem Au {dC} (mS:oS dC) (n:Nat):mY (mX dC n):=by
 rintro a0 a1 r h q m vs P0 ⟨hv,hmP0,hg2,hg5⟩;refine SC.wv hv ?_;refine SC.ap hmP0 fun hpP0 l0=>?_
 try simp only [go_sem] at hmP0 l0
 refine dZ func174 call174 ntmps174 results174 ?_;unfold mX at h;refine aM ?_;simp only [go_sem];refine aF ?_;obtain ⟨x2,h3,h⟩:=aA h;refine aN fun _ z=>?_;simp only [go_sem,seval];refine SC.by_ (mS a0 0 a1 _ h3 _ _ _ P0 (by simp only [go_sem,seval,cQ hpP0,hmP0,hg2,hg5])) ?_;simp only [go_sem,seval,cQ hpP0];apply z;refine aQ ?_;cases h;refine ⟨by simp,?_⟩;simp only [go_sem,seval,aO,aJ,bF hpP0]
theorem zF {dB} (oW:nS dB) {dC} (mS:oS dC) (n:Nat):oS (lL dB dC n):=by
 rintro a0 a1 a2 r h q m vs P0 ⟨hv,hmP0,hg2,hg5⟩;refine SC.wv hv ?_;refine SC.ap hmP0 fun hpP0 l0=>?_
 try simp only [go_sem] at hmP0 l0
 refine dZ func202 call202 ntmps202 results202 ?_;unfold lL at h;refine aM ?_;simp only [go_sem];refine aF (aM ?_);simp only [go_sem,seval];refine bJ h (fun c2 h=>?_) (fun c2 h=>?_)
 ·refine aF ?_;obtain ⟨x3,h4,h⟩:=aA h;refine aN fun _ z=>?_;simp only [go_sem,seval,c2];refine SC.by_ (oW a0 a2 _ h4 _ _ _ P0 (by simp only [go_sem,seval,fC hpP0,hmP0,hg2,hg5])) ?_;simp only [go_sem,seval,fC hpP0];apply z;refine aQ ?_
  try simp only [aU]
  cases h;refine ⟨by simp,?_⟩;simp only [go_sem,seval,aO,aJ,bF hpP0]
 ·refine aV ?_
  refine aF ?_;obtain ⟨x5,h7,h⟩:=aA h;refine aN fun _ z=>?_;simp only [go_sem,seval,c2];refine SC.by_ (mS a0 (i64.wrap (a1+1)) a2 _ h7 _ _ _ P0 (by simp only [go_sem,seval,fC hpP0,hmP0,hg2,hg5])) ?_;simp only [go_sem,seval];apply z;refine aF (aF ?_);obtain ⟨x8,h9,h⟩:=aA h;refine aN fun _ z=>?_;simp only [go_sem,seval];refine SC.by_ (uT n x5.2 a1 _ h9 _ _ _ P0 (by simp only [go_sem,seval,fC hpP0,hg2,hg5])) ?_;simp only [go_sem,seval];apply z;refine bN ?_;obtain ⟨y14,hy14,h⟩:=aA h;refine kN (fun c E' m'=>∃v11 v12 v13,jA dC n a1 a2 c v11 v12 v13=some y14/\E' 0=.ptr P0 0/\E' 1=.lit (.int .i64 a1)/\E' 2=.lit (.int .i64 a2)/\E' 6=.ptr (0::q) 0/\E' 7=.ptr (8::q) 0/\E' 8=.lit (.string (bs v11))/\m'.blk P0=some ((aC.C v12))/\m'.blk (0::q)=some ([.lit (.int .i64 0),.lit (.int .i64 0),.lit (.string (bs [])),.lit (.int .u32 0),.list .self ([].map aB.C)])/\m'.blk (8::q)=some ((aB.C v13))/\m'.gl=m.gl/\m.back q m'=(m.set P0 ((aC.C v12)))) n ⟨x8,x5.2,x5.1,hy14,?_⟩ ?_
  ·simp only [go_sem,seval,aO,aJ,bF hpP0,fC hpP0]
  rintro i10 c15 E16 m17 ⟨v11,v12,v13,hy14,e18⟩ _
  rcases c15 with _ | c15
  ·cases hy14
  rw [jA] at hy14;refine aF (aM ?_);simp only [go_sem,seval,e18];refine bJ hy14 (fun c19 hy14=>?_) (fun c19 hy14=>?_)
  ·refine aV ?_
   refine aF (bN (aF ?_));obtain ⟨x20,h22,hy14⟩:=aA hy14;refine aN fun _ z=>?_;simp only [go_sem,seval,c19,e18];refine SC.mono (gO v12 19 _ h22 _ _ _ P0 (by simp only [go_sem,e18])) ?_;rintro _ _ ⟨o_x20,j_x20,s_x20,rfl,rfl⟩;replace s_x20:q <:+ o_x20:=List.IsSuffix.trans (by simp only [go_sem]) s_x20;simp only [go_sem,seval];apply z;refine aF ?_;obtain ⟨x23,h24,hy14⟩:=aA hy14;refine aN fun _ z=>?_;simp only [go_sem,seval,e18];refine SC.by_ (bU n x20.2 v11 _ h24 _ _ _ P0 (by simp only [go_sem,seval,fC hpP0,e18,hg2])) ?_;simp only [go_sem,seval];apply z;refine aF ?_;obtain ⟨x25,h26,hy14⟩:=aA hy14;refine dR [(2,0),(3,0),(4,0),(5,0),(6,0),(0,0),(8,0),(9,0),(1,2),(7,0),(10,0),(11,0)] 21 fun _ z=>?_;simp only [go_sem,seval,e18];refine cB (mS x23 (i64.wrap (a1+1)) a2 _ h26 _ _ _ P0 (by simp only [go_sem,seval,e18,hg2,hg5])) rfl ?_;simp only [go_sem,seval,fC hpP0,e18];apply z;refine aM ?_;simp only [go_sem,seval,fC hpP0,e18];refine aM ?_;simp only [go_sem,seval,e18];refine bJ hy14 (fun c27 hy14=>?_) (fun c27 hy14=>?_)
   ·refine dQ ?_
    try simp only [seval,bZ,bR,aL]
    cases hy14;refine aM ?_;simp only [go_sem,seval,fC hpP0,c27,e18];refine aQ ?_;cases h;refine ⟨by simp,?_⟩;simp only [go_sem,seval,aO,cM,cH,bF hpP0,s_x20,e18]
   ·refine aV ?_
    try simp only [aL,aS]
    obtain ⟨x28,h29,hy14⟩:=aA hy14;refine aN fun _ z=>?_;simp only [go_sem,seval,c27,e18];refine SC.by_ (uT n x25.2 a1 _ h29 _ _ _ P0 (by simp only [go_sem,seval,fC hpP0,e18,hg2,hg5])) ?_;simp only [go_sem,seval];apply z;refine ⟨c15,xH _,x28,x25.2,({ x20.1 with cP:=v11,aP:=[v13,x25.1] }:aB),hy14,?_⟩;simp only [go_sem,seval,aO,cM,cH,bF hpP0,fC hpP0,s_x20,e18]
  ·refine dQ ?_
   try simp only [bZ,bR,↓reduceIte,aL]
   cases hy14;refine aM ?_;simp only [go_sem,seval,c19,e18];refine aQ ?_;cases h;refine ⟨by simp,?_⟩;simp only [go_sem,seval,aO,e18]
theorem xJ {eS} (nT:mY eS) {dB} (oW:nS dB) {iI} (tE:lK iI) (n:Nat):nS (kI eS dB iI n):=by
 rintro a0 a1 r h q m vs P0 ⟨hv,hmP0,hg2,hg5⟩;refine SC.wv hv ?_;refine SC.ap hmP0 fun hpP0 l0=>?_
 try simp only [go_sem] at hmP0 l0
 refine dZ func220 call220 ntmps220 results220 ?_;unfold kI at h;refine aM ?_;simp only [go_sem,seval];refine aF ?_;obtain ⟨x4,h5,h⟩:=aA h;refine aN fun _ z=>?_;simp only [go_sem,seval];refine SC.by_ (uU a0 a1 _ h5 _ _ _ P0 (by simp only [go_sem,seval,fC hpP0,hmP0])) ?_;simp only [go_sem,seval];apply z;refine aF (aF ?_);obtain ⟨x6,h7,h⟩:=aA h;refine aN fun _ z=>?_;simp only [go_sem,seval,fC hpP0];refine SC.by_ (cD n x4 ([40]:cR) _ h7 _ _ _ P0 (by simp only [go_sem,seval,hg2])) ?_;simp only [go_sem,seval];apply z;refine bJ h (fun c8 h=>?_) (fun c8 h=>?_)
 ·refine aF ?_;obtain ⟨x9,h11,h⟩:=aA h;refine aN fun _ z=>?_;simp only [go_sem,seval,fC hpP0,c8];refine SC.by_ (nT x6.2 (i64.wrap (a1+1)) _ h11 _ _ _ P0 (by simp only [go_sem,seval,hg2,hg5])) ?_;simp only [go_sem,seval];apply z;refine aF ?_;obtain ⟨x12,h13,h⟩:=aA h;refine aN fun _ z=>?_;simp only [go_sem,seval,fC hpP0];refine SC.by_ (bU n x9.2 ([41]:cR) _ h13 _ _ _ P0 (by simp only [go_sem,seval,fC hpP0,hg2])) ?_;simp only [go_sem,seval];apply z;refine aM ?_;simp only [go_sem,seval,fC hpP0];refine aQ ?_
  try simp only [aU]
  cases h;refine ⟨by simp,?_⟩;simp only [go_sem,seval,aO,aJ,bF hpP0]
 ·refine aV ?_
  refine aF ?_;obtain ⟨x14,h16,h⟩:=aA h;refine aN fun _ z=>?_;simp only [go_sem,seval,fC hpP0,c8];refine SC.mono (gO x6.2 15 _ h16 _ _ _ P0 (by simp only [go_sem,seval])) ?_;rintro _ _ ⟨o_x14,j_x14,s_x14,rfl,rfl⟩;replace s_x14:q <:+ o_x14:=List.IsSuffix.trans (by simp only [go_sem]) s_x14;simp only [go_sem,seval];apply z;refine aF (aM ?_);simp only [go_sem,seval];refine bN ?_;obtain ⟨y22,hy22,h⟩:=aA h;refine kN (fun c E' m'=>∃v18 v19 v20 v21,iE dB n a1 c v18 v19 v20 v21=some y22/\E' 2=.ptr (0::q) 0/\E' 3=.ptr (1::q) 0/\E' 4=.ptr (2::q) 0/\E' 6=.ptr (10::q) 0/\E' 23=.agg ((cA cS mQ))/\E' 24=.lit (.int .i64 v18)/\m'.blk P0=some ((aC.C v19))/\m'.blk (10::q)=some ([.lit (.int .i64 v20.cF),.lit (.int .i64 v20.fQ),.lit (.string (bs v20.cP)),.lit (.int .u32 v20.mE),.list .self (v20.aP.map aB.C)])/\m'.blk (0::q)=some ([.ptr P0 0])/\m'.blk (1::q)=some ([.lit (.int .i64 a1)])/\m'.blk (2::q)=some ([.lit (.int .i64 v21.cF),.lit (.int .i64 v21.fQ),.lit (.string (bs v21.cP)),.lit (.int .u32 v21.mE),.list .self (v21.aP.map aB.C)])/\m'.gl=m.gl/\m.back q m'=(m.set P0 ((aC.C v19)))) n ⟨0,x14.2,x14.1,(aB.mk 0 0 [] 0 []),hy22,?_⟩ ?_
  ·(simp only [go_sem,seval,aO,cM,cH,aJ,bF hpP0,fC hpP0,s_x14]) <;> (try and_intros) <;> rfl
  rintro i17 c23 E24 m25 ⟨v18,v19,v20,v21,hy22,e26⟩ _
  rcases c23 with _ | c23
  ·cases hy22
  rw [iE] at hy22;refine aM ?_;simp only [go_sem,e26];refine aF (bJ hy22 (fun c27 hy22=>?_) (fun c27 hy22=>?_))
  ·refine aV ?_
   refine aF (bN (aF ?_));obtain ⟨x28,h32,hy22⟩:=aA hy22;obtain ⟨f29,f30,f31⟩:=aX h32;have f33:v18<2:=f30;obtain ⟨w34,d35⟩:=Co (f:=cS) (s:=1) (fun _ _=>rfl) f31;simp only [go_sem] at d35;have d36:List.drop (v18.toNat) [V.lit (.string (bs ([126]:cR))),V.lit (.string (bs ([45]:cR)))]=_:=d35;refine aN fun _ z=>?_;simp only [go_sem,seval,f29,f33,d35,e26];apply z;refine aF ?_;obtain ⟨x37,h38,hy22⟩:=aA hy22;refine aN fun _ z=>?_;simp only [go_sem,seval,e26];refine SC.by_ (cD n v19 x28 _ h38 _ _ _ P0 (by simp only [go_sem,e26,hg2])) ?_;simp only [go_sem,seval];apply z;refine bJ hy22 (fun c39 hy22=>?_) (fun c39 hy22=>?_)
   ·refine aF ?_;obtain ⟨x40,h41,hy22⟩:=aA hy22;refine aN fun _ z=>?_;simp only [go_sem,seval,fC hpP0,c39,e26];refine SC.by_ (oW x37.2 (i64.wrap (a1+1)) _ h41 _ _ _ P0 (by simp only [go_sem,seval,e26,hg2,hg5])) ?_;simp only [go_sem,seval,fC hpP0,e26];apply z;refine aM ?_;simp only [go_sem,seval,fC hpP0,e26];refine aQ ?_
    try simp only [aU,bK]
    cases hy22;simp only [DX] at h;cases h;refine ⟨by simp,?_⟩;simp only [go_sem,seval,aO,cM,bF hpP0,e26]
   ·refine aV ?_
    try simp only [aL,aS]
    refine aN fun _ z=>?_;simp only [go_sem,seval,c39,e26];apply z;refine ⟨c23,xH _,(i64.wrap (v18+1)),x37.2,v20,v21,hy22,?_⟩
    (simp only [go_sem,seval,bF hpP0,fC hpP0,e26]) <;> (try and_intros) <;> rfl
  ·refine dQ ?_
   try simp only [bZ,bR,↓reduceIte,aL]
   cases hy22;simp only [FW] at h;refine aF (aF ?_);obtain ⟨y42,hy42,h⟩:=aA h;refine gN 26 (fun E' m'=>E' 2=.ptr (0::q) 0/\E' 3=.ptr (1::q) 0/\E' 4=.ptr (2::q) 0/\E' 6=.ptr (10::q) 0/\E' 51=.lit (.bool y42)/\m'.blk P0=some ((aC.C v19))/\m'.blk (10::q)=some ([.lit (.int .i64 v20.cF),.lit (.int .i64 v20.fQ),.lit (.string (bs v20.cP)),.lit (.int .u32 v20.mE),.list .self (v20.aP.map aB.C)])/\m'.blk (0::q)=some ([.ptr P0 0])/\m'.blk (1::q)=some ([.lit (.int .i64 a1)])/\m'.blk (2::q)=some ([.lit (.int .i64 v21.cF),.lit (.int .i64 v21.fQ),.lit (.string (bs v21.cP)),.lit (.int .u32 v21.mE),.list .self (v21.aP.map aB.C)])/\m'.gl=m.gl/\m.back q m'=(m.set P0 ((aC.C v19)))) ?_ ?_
   ·rcases dH hy42 with ⟨c43,hy42⟩ | ⟨c43,hy42⟩
    ·obtain ⟨x44,h45,hy42⟩:=aA hy42;refine aN fun _ z=>?_;simp only [go_sem,seval,c27,c43,e26];refine SC.by_ (gJ v19 _ h45 _ _ _ P0 (by simp only [go_sem,e26])) ?_;simp only [go_sem,seval];apply z;cases hy42;refine ⟨by decide,?_⟩
     (simp only [go_sem,seval,e26]) <;> (try and_intros) <;> rfl
    ·refine aN fun _ z=>?_;simp only [go_sem,seval,c27,c43,e26];apply z;cases hy42;refine ⟨by decide,?_⟩
     (simp only [go_sem,seval,e26]) <;> (try and_intros) <;> rfl
   ·intro E46 m47 e48 _;refine bJ h (fun c49 h=>?_) (fun c49 h=>?_)
    ·refine aF ?_;obtain ⟨x50,h51,h⟩:=aA h;refine aN fun _ z=>?_;simp only [go_sem,seval,e48];refine SC.by_ (tA v19 _ h51 _ _ _ P0 (by simp only [go_sem,e48])) ?_;simp only [go_sem,seval,fC hpP0,e48];apply z;refine aM ?_;simp only [go_sem,seval,fC hpP0,e48];refine aQ ?_
     try simp only [aU]
     cases h;refine ⟨by simp,?_⟩;simp only [go_sem,seval,aO,bF hpP0,e48]
    ·refine aV ?_
     refine aF ?_;obtain ⟨x52,h53,h⟩:=aA h;refine aN fun _ z=>?_;simp only [go_sem,seval,e48];refine SC.by_ (gP n v19 _ h53 _ _ _ P0 (by simp only [go_sem,e48,hg2])) ?_;simp only [go_sem,seval,fC hpP0,e48];apply z;refine aF ?_;obtain ⟨y54,hy54,h⟩:=aA h;refine Hk 47 [] [((10::q),4)] rfl (fun E' m'=>E' 4=.ptr (2::q) 0/\E' 6=.ptr (10::q) 0/\m'.blk P0=some ((aC.C y54.1))/\m'.blk (10::q)=some ((aB.C y54.2))/\m'.blk (2::q)=some ([.lit (.int .i64 v21.cF),.lit (.int .i64 v21.fQ),.lit (.string (bs v21.cP)),.lit (.int .u32 v21.mE),.list .self (v21.aP.map aB.C)])/\m'.gl=m.gl/\m.back q m'=(m.set P0 ((aC.C y54.1)))) ?_ ?_
     ·refine bN (aF ?_);obtain ⟨x55,h56,hy54⟩:=aA hy54;refine aN fun _ z=>?_;simp only [go_sem,seval,fC hpP0,e48];refine SC.by_ (oA n x52.2 ([40]:cR) _ h56 _ _ _ P0 (by simp only [go_sem,seval,fC hpP0,e48,hg2])) ?_;simp only [go_sem,seval];apply z;refine bJ hy54 (fun c57 hy54=>?_) (fun c57 hy54=>?_)
      ·obtain ⟨x58,h59,hy54⟩:=aA hy54;refine fB fun _ z=>?_;simp only [go_sem,seval,fC hpP0,c57,e48];refine SC.by_ (tE x52.2 a1 _ h59 _ _ _ P0 (0::q) (1::q) (by simp only [go_sem,seval,fC hpP0,e48,hg2,hg5])) ?_;simp only [go_sem,seval,fC hpP0,e48];apply z;simp only [aL,aS];cases hy54;refine ⟨by decide,?_⟩
       (simp only [go_sem,seval,aO,bF hpP0,fC hpP0,e48]) <;> (try and_intros) <;> rfl
      ·refine aF ?_;obtain ⟨x60,h61,hy54⟩:=aA hy54;refine aN fun _ z=>?_;simp only [go_sem,seval,fC hpP0,c57,e48];refine SC.by_ (cD n x52.2 ([91]:cR) _ h61 _ _ _ P0 (by simp only [go_sem,seval,fC hpP0,e48,hg2])) ?_;simp only [go_sem,seval];apply z;refine bJ hy54 (fun c62 hy54=>?_) (fun c62 hy54=>?_)
       ·refine aF ?_;obtain ⟨x63,h64,hy54⟩:=aA hy54;refine aN fun _ z=>?_;simp only [go_sem,seval,fC hpP0,c62,e48];refine SC.by_ (nT x60.2 (i64.wrap (a1+1)) _ h64 _ _ _ P0 (by simp only [go_sem,seval,e48,hg2,hg5])) ?_;simp only [go_sem,seval,fC hpP0,e48];apply z;obtain ⟨x65,h66,hy54⟩:=aA hy54;refine fB fun _ z=>?_;simp only [go_sem,seval,fC hpP0,e48];refine SC.by_ (bU n x63.2 ([93]:cR) _ h66 _ _ _ P0 (by simp only [go_sem,seval,fC hpP0,e48,hg2])) ?_;simp only [go_sem,seval];apply z;simp only [aL,aS];cases hy54;refine ⟨by decide,?_⟩
        (simp only [go_sem,seval,aO,cM,bF hpP0,fC hpP0,e48]) <;> (try and_intros) <;> rfl
       ·refine aV ?_
        try simp only [aL,aS]
        cases hy54;refine ⟨by decide,?_⟩
        (simp only [go_sem,seval,aO,bF hpP0,fC hpP0,c62,e48]) <;> (try and_intros) <;> rfl
     ·intro E67 m68 e69 _;refine aM ?_;simp only [go_sem,seval,e69];refine aQ ?_;cases h;refine ⟨by simp,?_⟩;simp only [go_sem,seval,aO,e69]
theorem wM {eS} (nT:mY eS) (n:Nat):pB (jM eS n):=by
 rintro a0 a1 r h q m vs P0 P1 P2 ⟨hv,hmP0,hmP1,hmP2,hn0_1,hn0_2,hn1_0,hn1_2,hn2_0,hn2_1,hg2,hg5⟩;refine SC.wv hv ?_;refine SC.apart hmP0 fun hpP0=>?_;refine SC.apart hmP1 fun hpP1=>?_;refine SC.apart hmP2 fun hpP2=>?_;have l0:=mU hmP0
 try simp only [go_sem] at hmP0 l0
 skip
 try simp only [go_sem,seval] at hmP2
 refine dZ func231 call231 ntmps231 results231 ?_;unfold jM at h;refine aM ?_;simp only [go_sem];refine aF ?_;obtain ⟨x2,h3,h⟩:=aA h;refine aN fun _ z=>?_;simp only [go_sem,seval,cQ hpP1,cQ hpP2,hmP1,hmP2];refine SC.by_ (nT a0 (i64.wrap (a1+1)) _ h3 _ _ _ P0 (by simp only [go_sem,seval,cQ hpP0,hmP0,hg2,hg5])) ?_;simp only [go_sem,seval,cQ hpP0];apply z;refine aQ ?_;cases h;refine ⟨by simp,?_⟩;simp only [go_sem,seval,aO,aJ,bF hpP0]
theorem oG:∀n,lK (vT n)/\mY (fE n)/\oS (Dl n)/\nS (BR n)/\pB (As n)
 | 0=>⟨fun _ _ _ h=>fL h,fun _ _ _ h=>fL h,fun _ _ _ _ h=>fL h,fun _ _ _ h=>fL h,fun _ _ _ h=>fL h⟩
 | n+1=>
   have ih:=oG n
   ⟨tB ih.2.2.2.2 n,Au ih.2.2.1 n,zF ih.2.2.2.1 ih.2.2.1 n,xJ ih.2.1 ih.2.2.2.1 ih.1 n,wM ih.2.1 n⟩
theorem fZ (n:Nat):mY (fE n):=(oG n).2.1
def BS (f:aC->aB->Int->Option (aB × aC)):Prop:=∀a0 a1 a2 r,f a0 a1 a2=some r->∀(q:Pa) (m:M) (vs:List V) (P0:Pa),vs.map V.weak1=[.ptr P0 0,.agg ((aB.C a1)),.lit (.int .i64 a2)]/\m.blk P0=some ((aC.C a0))/\m.gl 2=.eptr [(cA cS cN)] 0 0/\m.gl 5=.eptr [(cA (cA cS) dE)] 0 0->SC prog 173 vs q m (fun v m'=>v=.agg ((aB.C r.1))/\m'=(m.set P0 ((aC.C r.2))))
theorem tZ (n:Nat):BS (kP n):=by
 rintro a0 a1 a2 r h q m vs P0 ⟨hv,hmP0,hg2,hg5⟩;refine SC.wv hv ?_;refine SC.ap hmP0 fun hpP0 l0=>?_
 try simp only [go_sem] at hmP0 l0
 refine dZ func173 call173 ntmps173 results173 ?_;unfold kP at h;refine aM ?_;simp only [go_sem,seval];refine aF ?_;obtain ⟨x3,h4,h⟩:=aA h;refine aN fun _ z=>?_;simp only [go_sem,seval];refine SC.by_ (gP n a0 _ h4 _ _ _ P0 (by simp only [go_sem,seval,cQ hpP0,hmP0,hg2])) ?_;simp only [go_sem,seval,cQ hpP0];apply z;refine aF ?_;obtain ⟨x5,h6,h⟩:=aA h;refine aN fun _ z=>?_;simp only [go_sem,seval];refine SC.by_ (bU n x3.2 ([61]:cR) _ h6 _ _ _ P0 (by simp only [go_sem,seval,cQ hpP0,hg2])) ?_;simp only [go_sem,seval];apply z;refine aF ?_;obtain ⟨x7,h8,h⟩:=aA h;refine aN fun _ z=>?_;simp only [go_sem,seval];refine SC.by_ (fZ n x5 a2 _ h8 _ _ _ P0 (by simp only [go_sem,seval,hg2,hg5])) ?_;simp only [go_sem,seval,cQ hpP0];apply z;refine aF ?_;obtain ⟨x9,h10,h⟩:=aA h;refine aN fun _ z=>?_;simp only [go_sem,seval];refine SC.by_ (bU n x7.2 ([59]:cR) _ h10 _ _ _ P0 (by simp only [go_sem,seval,cQ hpP0,hg2])) ?_;simp only [go_sem,seval];apply z;refine aM ?_;simp only [go_sem,seval,cQ hpP0];refine aQ ?_;cases h;refine ⟨by simp,?_⟩;simp only [go_sem,seval,aO,cM,aJ,bF hpP0]
def Ar (f:aC->Int->Option (aB × aC)):Prop:=∀a0 a1 r,f a0 a1=some r->∀(q:Pa) (m:M) (vs:List V) (P0:Pa) (P1:Pa) (P2:Pa),vs.map V.weak1=[.ptr P1 0,.ptr P2 0]/\m.blk P0=some ((aC.C a0))/\m.blk P1=some ([.ptr P0 0])/\m.blk P2=some ([.lit (.int .i64 a1)])/\(P0=P1)=False/\(P0=P2)=False/\(P1=P0)=False/\(P1=P2)=False/\(P2=P0)=False/\(P2=P1)=False/\m.gl 2=.eptr [(cA cS cN)] 0 0/\m.gl 5=.eptr [(cA (cA cS) dE)] 0 0->SC prog 203 vs q m (fun v m'=>v=.agg ((aB.C r.1))/\m'=(m.set P0 ((aC.C r.2))))
theorem zE (n:Nat):Ar (lJ n):=by
 rintro a0 a1 r h q m vs P0 P1 P2 ⟨hv,hmP0,hmP1,hmP2,hn0_1,hn0_2,hn1_0,hn1_2,hn2_0,hn2_1,hg2,hg5⟩;refine SC.wv hv ?_;refine SC.apart hmP0 fun hpP0=>?_;refine SC.apart hmP1 fun hpP1=>?_;refine SC.apart hmP2 fun hpP2=>?_;have l0:=mU hmP0
 try simp only [go_sem] at hmP0 l0
 skip
 try simp only [go_sem,seval] at hmP2
 refine dZ func203 call203 ntmps203 results203 ?_;unfold lJ at h;refine aM ?_;simp only [go_sem];refine aF ?_;obtain ⟨x2,h3,h⟩:=aA h;refine aN fun _ z=>?_;simp only [go_sem,seval,cQ hpP1,cQ hpP2,hmP1,hmP2];refine SC.by_ (fZ n a0 (i64.wrap (a1+2)) _ h3 _ _ _ P0 (by simp only [go_sem,seval,cQ hpP0,hmP0,hg2,hg5])) ?_;simp only [go_sem,seval,cQ hpP0];apply z;refine aQ ?_;cases h;refine ⟨by simp,?_⟩;simp only [go_sem,seval,aO,aJ,bF hpP0]
def vS (f:aC->Int->Option ((List aB) × aC)):Prop:=∀a0 a1 r,f a0 a1=some r->∀(q:Pa) (m:M) (vs:List V) (P0:Pa) (P1:Pa) (P2:Pa),vs.map V.weak1=[.ptr P0 0,.fn (.func 203) [] [.ptr P1 0,.ptr P2 0]]/\m.blk P0=some ((aC.C a0))/\m.blk P1=some ([.ptr P0 0])/\m.blk P2=some ([.lit (.int .i64 a1)])/\(P0=P1)=False/\(P0=P2)=False/\(P1=P0)=False/\(P1=P2)=False/\(P2=P0)=False/\(P2=P1)=False/\m.gl 2=.eptr [(cA cS cN)] 0 0/\m.gl 5=.eptr [(cA (cA cS) dE)] 0 0->SC prog 84 vs q m (fun v m'=>v=.list .none (r.1.map aB.C)/\m'=(m.set P0 ((aC.C r.2))))
theorem vG (n:Nat):vS (iL n):=by
 rintro a0 a1 r h q m vs P0 P1 P2 ⟨hv,hmP0,hmP1,hmP2,hn0_1,hn0_2,hn1_0,hn1_2,hn2_0,hn2_1,hg2,hg5⟩;refine SC.wv hv ?_;refine SC.apart hmP0 fun hpP0=>?_;refine SC.apart hmP1 fun hpP1=>?_;refine SC.apart hmP2 fun hpP2=>?_;have l0:=mU hmP0
 try simp only [go_sem] at hmP0 l0
 skip
 try simp only [go_sem,seval] at hmP2
 refine dZ func84 call84 ntmps84 results84 ?_;unfold iL at h;refine aM ?_;simp only [go_sem];refine aM ?_;simp only [go_sem,seval];refine aF ?_;obtain ⟨x1,h2,h⟩:=aA h;refine aN fun _ z=>?_;simp only [go_sem,seval];refine SC.by_ (bU n a0 ([40]:cR) _ h2 _ _ _ P0 (by simp only [go_sem,hmP0,hg2])) ?_;simp only [go_sem,seval];apply z;refine aF (aF ?_);obtain ⟨x3,h4,h⟩:=aA h;refine aN fun _ z=>?_;simp only [go_sem,seval];refine SC.by_ (cD n x1 ([41]:cR) _ h4 _ _ _ P0 (by simp only [go_sem,seval,hg2])) ?_;simp only [go_sem,seval];apply z;refine bJ h (fun c5 h=>?_) (fun c5 h=>?_)
 ·refine aM ?_;simp only [go_sem,seval,c5];refine aQ ?_
  try simp only [aU]
  cases h;refine ⟨by simp,?_⟩;simp only [go_sem,seval,aJ,bF hpP0]
 ·refine aV ?_
  refine aF ?_;obtain ⟨y6,hy6,h⟩:=aA h;refine gN 8 (fun E' m'=>∃(oy6_5:Pa) (jy6_5:Nat),E' 0=.ptr P0 0/\E' 5=.list (.st (.anon oy6_5 jy6_5)) (y6.1.map aB.C)/\m'.tok oy6_5 jy6_5=true/\q <:+ oy6_5/\m'.blk P0=some ((aC.C y6.2))/\m'.blk P1=some ([.ptr P0 0])/\m'.blk P2=some ([.lit (.int .i64 a1)])/\m'.gl=m.gl/\m.back q m'=(m.set P0 ((aC.C y6.2)))) ?_ ?_
  ·refine bN ?_;obtain ⟨y10,hy10,hy6⟩:=aA hy6;refine zA 5 ([].map aB.C) rfl (by simp only [go_sem,seval,c5]) ?_;refine kN (fun c E' m'=>∃v8 v9 o_v8 j_v8,fY n a1 c v8 v9=some y10/\E' 0=.ptr P0 0/\E' 1=.fn (.func 203) [] [.ptr P1 0,.ptr P2 0]/\E' 5=.list (.st (.anon o_v8 j_v8)) (v8.map aB.C)/\m'.tok o_v8 j_v8=true/\q <:+ o_v8/\m'.blk P0=some ((aC.C v9))/\m'.blk P1=some ([.ptr P0 0])/\m'.blk P2=some ([.lit (.int .i64 a1)])/\m'.gl=m.gl/\m.back q m'=(m.set P0 ((aC.C v9)))) n ⟨[],x3.2,(6::q),0,hy10,?_⟩ ?_
   ·simp only [go_sem,seval,cH,aJ,bF hpP0,hn1_0,hn2_0,c5,hmP1,hmP2]
   rintro i7 c11 E12 m13 ⟨v8,v9,o_v8,j_v8,hy10,e14⟩ _
   rcases c11 with _ | c11
   ·cases hy10
   rw [fY] at hy10;refine aF (aM ?_);simp only [go_sem,seval,e14];refine bJ hy10 (fun c15 hy10=>?_) (fun c15 hy10=>?_)
   ·refine aV ?_
    refine bN (aF ?_);obtain ⟨x16,h17,hy10⟩:=aA hy10;obtain ⟨f18,hy10⟩:=bS hy10;have f19:v8.length+1<=1073741824:=by first | omega | (simp only [nL,jK,lD] at f18 ⊢;omega)
    have f20:v8.length<=1073741823:=by first | omega | (simp only [nL,jK,lD] at f18 ⊢;omega)
    refine aN fun _ z=>?_;simp only [go_sem,seval,c15,e14];refine SC.by_ (zE n v9 a1 _ h17 _ _ _ P0 P1 P2 (by simp only [go_sem,hn0_1,hn0_2,hn1_0,hn1_2,hn2_0,hn2_1,e14,hg2,hg5])) ?_;simp only [go_sem,seval,f19,e14];apply z;refine aF ?_;obtain ⟨x21,h22,hy10⟩:=aA hy10;refine aN fun _ z=>?_;simp only [go_sem,seval,e14];refine SC.by_ (cD n x16.2 ([44]:cR) _ h22 _ _ _ P0 (by simp only [go_sem,seval,e14,hg2])) ?_;simp only [go_sem,seval];apply z;refine bJ hy10 (fun c23 hy10=>?_) (fun c23 hy10=>?_)
    ·refine dQ ?_
     try simp only [seval,bZ,bR,aL]
     cases hy10;cases hy6;refine ⟨by decide,(9::i7::7::q),0,?_⟩;simp only [go_sem,seval,cH,bF hpP0,hn1_0,hn2_0,c23,e14]
    ·refine aV ?_
     try simp only [aL,aS]
     refine ⟨c11,xH _,(v8++[x16.1]),x21.2,(9::i7::7::q),0,hy10,?_⟩;simp only [go_sem,seval,cH,bF hpP0,hn1_0,hn2_0,c23,e14]
   ·refine dQ ?_
    try simp only [bZ,bR,↓reduceIte,aL]
    cases hy10;cases hy6;refine ⟨by decide,o_v8,j_v8,?_⟩;simp only [go_sem,seval,c15,e14]
  ·rintro E24 m25 ⟨oy6_5,jy6_5,e26⟩ _;refine aF ?_;obtain ⟨x27,h28,h⟩:=aA h;refine aN fun _ z=>?_;simp only [go_sem,seval,e26];refine SC.by_ (bU n y6.2 ([41]:cR) _ h28 _ _ _ P0 (by simp only [go_sem,e26,hg2])) ?_;simp only [go_sem,seval];apply z;refine aM ?_;simp only [go_sem,seval,e26];refine aQ ?_;cases h;refine ⟨by simp,?_⟩;simp only [go_sem,seval,bF hpP0,e26]
def BP (f:aC->aB->Int->Option (aB × aC)):Prop:=∀a0 a1 a2 r,f a0 a1 a2=some r->∀(q:Pa) (m:M) (vs:List V) (P0:Pa),vs.map V.weak1=[.ptr P0 0,.agg ((aB.C a1)),.lit (.int .i64 a2)]/\m.blk P0=some ((aC.C a0))/\m.gl 2=.eptr [(cA cS cN)] 0 0/\m.gl 5=.eptr [(cA (cA cS) dE)] 0 0->SC prog 177 vs q m (fun v m'=>v=.agg ((aB.C r.1))/\m'=(m.set P0 ((aC.C r.2))))
theorem AZ (n:Nat):BP (nY n):=by
 rintro a0 a1 a2 r h q m vs P0 ⟨hv,hmP0,hg2,hg5⟩;refine SC.wv hv ?_;refine SC.ap hmP0 fun hpP0 l0=>?_
 try simp only [go_sem] at hmP0 l0
 refine dZ func177 call177 ntmps177 results177 ?_;unfold nY at h;refine aM ?_;simp only [go_sem,seval];refine aF ?_;obtain ⟨x5,h6,h⟩:=aA h;refine aN fun _ z=>?_;simp only [go_sem,seval];refine SC.by_ (gP n a0 _ h6 _ _ _ P0 (by simp only [go_sem,seval,cQ hpP0,hmP0,hg2])) ?_;simp only [go_sem,seval,cQ hpP0];apply z;refine aF ?_;obtain ⟨y7,hy7,h⟩:=aA h;refine Hk 37 [] [((1::q),4)] rfl (fun E' m'=>E' 3=.ptr (0::q) 0/\E' 4=.ptr (1::q) 0/\E' 6=.ptr (3::q) 0/\m'.blk P0=some ((aC.C y7.1))/\m'.blk (0::q)=some ([.ptr P0 0])/\m'.blk (1::q)=some ((aB.C y7.2))/\m'.blk (3::q)=some ([.lit (.int .i64 0),.lit (.int .i64 0),.lit (.string (bs [])),.lit (.int .u32 0),.list .self ([].map aB.C)])/\m'.gl=m.gl/\m.back q m'=(m.set P0 ((aC.C y7.1)))) ?_ ?_
 ·refine bN (aF ?_);obtain ⟨x8,h9,hy7⟩:=aA hy7;refine aN fun _ z=>?_;simp only [go_sem,seval,cQ hpP0];refine SC.by_ (oA n x5.2 ([40]:cR) _ h9 _ _ _ P0 (by simp only [go_sem,seval,cQ hpP0,hg2])) ?_;simp only [go_sem,seval];apply z;refine bJ hy7 (fun c10 hy7=>?_) (fun c10 hy7=>?_)
  ·obtain ⟨x11,h12,hy7⟩:=aA hy7;refine fB fun _ z=>?_;simp only [go_sem,seval,cQ hpP0,c10];refine SC.by_ (vG n x5.2 a2 _ h12 _ _ _ P0 (0::q) (2::q) (by simp only [go_sem,seval,cQ hpP0,hg2,hg5])) ?_;simp only [go_sem,seval,cQ hpP0];apply z;simp only [aL,aS];cases hy7;refine ⟨by decide,?_⟩;simp only [go_sem,seval,aO,aJ,bF hpP0,cQ hpP0]
  ·refine aF ?_;obtain ⟨x13,h14,hy7⟩:=aA hy7;refine aN fun _ z=>?_;simp only [go_sem,seval,cQ hpP0,c10];refine SC.by_ (cD n x5.2 ([91]:cR) _ h14 _ _ _ P0 (by simp only [go_sem,seval,cQ hpP0,hg2])) ?_;simp only [go_sem,seval];apply z;refine bJ hy7 (fun c15 hy7=>?_) (fun c15 hy7=>?_)
   ·refine aF ?_;obtain ⟨x16,h17,hy7⟩:=aA hy7;refine aN fun _ z=>?_;simp only [go_sem,seval,cQ hpP0,c15];refine SC.by_ (fZ n x13.2 (i64.wrap (a2+2)) _ h17 _ _ _ P0 (by simp only [go_sem,seval,hg2,hg5])) ?_;simp only [go_sem,seval,cQ hpP0];apply z;refine aF ?_;obtain ⟨x18,h19,hy7⟩:=aA hy7;refine aN fun _ z=>?_;simp only [go_sem,seval,cQ hpP0];refine SC.by_ (bU n x16.2 ([93]:cR) _ h19 _ _ _ P0 (by simp only [go_sem,seval,cQ hpP0,hg2])) ?_;simp only [go_sem,seval];apply z;refine aF ?_;obtain ⟨x20,h21,hy7⟩:=aA hy7;refine aN fun _ z=>?_;simp only [go_sem,seval,cQ hpP0];refine SC.by_ (bU n x18 ([61]:cR) _ h21 _ _ _ P0 (by simp only [go_sem,seval,hg2])) ?_;simp only [go_sem,seval];apply z;obtain ⟨x22,h23,hy7⟩:=aA hy7;obtain ⟨f24,hy7⟩:=bS hy7;refine dR [(2,0),(3,0),(4,0),(5,0),(0,0),(1,1),(6,0),(7,0),(8,0),(9,0)] 37 fun _ z=>?_;simp only [go_sem,seval,cQ hpP0];refine cB (fZ n x20 (i64.wrap (a2+1)) _ h23 _ _ _ P0 (by simp only [go_sem,seval,hg2,hg5])) rfl ?_;simp only [go_sem,seval,cQ hpP0];apply z;simp only [aL,aS];cases hy7;refine ⟨by decide,?_⟩;simp only [go_sem,seval,aO,cM,cH,aJ,bF hpP0,cQ hpP0]
   ·refine aF ?_;obtain ⟨x25,h26,hy7⟩:=aA hy7;refine aN fun _ z=>?_;simp only [go_sem,seval,cQ hpP0,c15];refine SC.by_ (bU n x13.2 ([61]:cR) _ h26 _ _ _ P0 (by simp only [go_sem,seval,hg2])) ?_;simp only [go_sem,seval];apply z;obtain ⟨x27,h28,hy7⟩:=aA hy7;refine fB fun _ z=>?_;simp only [go_sem,seval,cQ hpP0];refine SC.by_ (fZ n x25 (i64.wrap (a2+1)) _ h28 _ _ _ P0 (by simp only [go_sem,seval,hg2,hg5])) ?_;simp only [go_sem,seval,cQ hpP0];apply z;simp only [aL,aS];cases hy7;refine ⟨by decide,?_⟩;simp only [go_sem,seval,aO,cM,aJ,bF hpP0,cQ hpP0]
 ·intro E29 m30 e31 _;refine aF ?_;obtain ⟨x32,h33,h⟩:=aA h;refine aN fun _ z=>?_;simp only [go_sem,seval,e31];refine SC.by_ (bU n y7.1 ([59]:cR) _ h33 _ _ _ P0 (by simp only [go_sem,e31,hg2])) ?_;simp only [go_sem,seval];apply z;refine aM ?_;simp only [go_sem,seval,cQ hpP0,e31];refine aQ ?_;cases h;refine ⟨by simp,?_⟩;simp only [go_sem,seval,aO,bF hpP0,e31]
def lO (f:aC->Int->Option (aB × aC)):Prop:=∀a0 a1 r,f a0 a1=some r->∀(q:Pa) (m:M) (vs:List V) (P0:Pa),vs.map V.weak1=[.ptr P0 0,.lit (.int .i64 a1)]/\m.blk P0=some ((aC.C a0))/\m.gl 2=.eptr [(cA cS cN)] 0 0/\m.gl 5=.eptr [(cA (cA cS) dE)] 0 0->SC prog 86 vs q m (fun v m'=>v=.agg ((aB.C r.1))/\m'=(m.set P0 ((aC.C r.2))))
def pA (f:aC->Int->Option (aB × aC)):Prop:=∀a0 a1 r,f a0 a1=some r->∀(q:Pa) (m:M) (vs:List V) (P0:Pa),vs.map V.weak1=[.ptr P0 0,.lit (.int .i64 a1)]/\m.blk P0=some ((aC.C a0))/\m.gl 2=.eptr [(cA cS cN)] 0 0/\m.gl 5=.eptr [(cA (cA cS) dE)] 0 0->SC prog 138 vs q m (fun v m'=>v=.agg ((aB.C r.1))/\m'=(m.set P0 ((aC.C r.2))))
def qK (f:aC->aB->Int->Option (aB × aC)):Prop:=∀a0 a1 a2 r,f a0 a1 a2=some r->∀(q:Pa) (m:M) (vs:List V) (P0:Pa),vs.map V.weak1=[.ptr P0 0,.agg ((aB.C a1)),.lit (.int .i64 a2)]/\m.blk P0=some ((aC.C a0))/\m.gl 2=.eptr [(cA cS cN)] 0 0/\m.gl 5=.eptr [(cA (cA cS) dE)] 0 0->SC prog 175 vs q m (fun v m'=>v=.agg ((aB.C r.1))/\m'=(m.set P0 ((aC.C r.2))))
def rT (f:aC->aB->Int->Option (aB × aC)):Prop:=∀a0 a1 a2 r,f a0 a1 a2=some r->∀(q:Pa) (m:M) (vs:List V) (P0:Pa),vs.map V.weak1=[.ptr P0 0,.agg ((aB.C a1)),.lit (.int .i64 a2)]/\m.blk P0=some ((aC.C a0))/\m.gl 2=.eptr [(cA cS cN)] 0 0/\m.gl 5=.eptr [(cA (cA cS) dE)] 0 0->SC prog 176 vs q m (fun v m'=>v=.agg ((aB.C r.1))/\m'=(m.set P0 ((aC.C r.2))))
theorem zH {eO} (wP:pA eO) (n:Nat):lO (lN eO n):=by
 rintro a0 a1 r h q m vs P0 ⟨hv,hmP0,hg2,hg5⟩;refine SC.wv hv ?_;refine SC.ap hmP0 fun hpP0 l0=>?_
 try simp only [go_sem] at hmP0 l0
 refine dZ func86 call86 ntmps86 results86 ?_;unfold lN at h;refine aM ?_;simp only [go_sem];refine aF ?_;obtain ⟨x2,h3,h⟩:=aA h;refine aN fun _ z=>?_;simp only [go_sem,seval];refine SC.by_ (uU a0 a1 _ h3 _ _ _ P0 (by simp only [go_sem,seval,fC hpP0,hmP0])) ?_;simp only [go_sem,seval];apply z;refine aF ?_;obtain ⟨x4,h6,h⟩:=aA h;refine aN fun _ z=>?_;simp only [go_sem,seval];refine SC.mono (gO x2 4 _ h6 _ _ _ P0 (by simp only [go_sem,seval])) ?_;rintro _ _ ⟨o_x4,j_x4,s_x4,rfl,rfl⟩;replace s_x4:q <:+ o_x4:=List.IsSuffix.trans (by simp only [go_sem]) s_x4;simp only [go_sem,seval];apply z;refine aF ?_;obtain ⟨x7,h8,h⟩:=aA h;refine aN fun _ z=>?_;simp only [go_sem,seval];refine SC.by_ (bU n x4.2 ([123]:cR) _ h8 _ _ _ P0 (by simp only [go_sem,seval,fC hpP0,hg2])) ?_;simp only [go_sem,seval];apply z;refine aF (bN ?_);obtain ⟨y12,hy12,h⟩:=aA h;refine kN (fun c E' m'=>∃v10 v11,gZ eO n a1 c v10 v11=some y12/\E' 0=.ptr P0 0/\E' 1=.lit (.int .i64 a1)/\E' 4=.ptr (0::q) 0/\E' 5=.ptr (6::q) 0/\m'.blk P0=some ((aC.C v10))/\m'.blk (0::q)=some ([.lit (.int .i64 0),.lit (.int .i64 0),.lit (.string (bs [])),.lit (.int .u32 0),.list .self ([].map aB.C)])/\m'.blk (6::q)=some ([.lit (.int .i64 v11.cF),.lit (.int .i64 v11.fQ),.lit (.string (bs v11.cP)),.lit (.int .u32 v11.mE),.list .self (v11.aP.map aB.C)])/\m'.gl=m.gl/\m.back q m'=(m.set P0 ((aC.C v10)))) n ⟨x7,x4.1,hy12,?_⟩ ?_
 ·simp only [go_sem,seval,aO,cM,cH,aJ,bF hpP0,fC hpP0,s_x4]
 rintro i9 c13 E14 m15 ⟨v10,v11,hy12,e16⟩ _
 rcases c13 with _ | c13
 ·cases hy12
 rw [gZ] at hy12;refine aF (aF ?_);obtain ⟨y17,hy17,hy12⟩:=aA hy12;refine gN 10 (fun E' m'=>E' 0=.ptr P0 0/\E' 1=.lit (.int .i64 a1)/\E' 4=.ptr (0::q) 0/\E' 5=.ptr (6::q) 0/\E' 22=.lit (.bool y17)/\m'.blk P0=some ((aC.C v10))/\m'.blk (0::q)=some ([.lit (.int .i64 0),.lit (.int .i64 0),.lit (.string (bs [])),.lit (.int .u32 0),.list .self ([].map aB.C)])/\m'.blk (6::q)=some ([.lit (.int .i64 v11.cF),.lit (.int .i64 v11.fQ),.lit (.string (bs v11.cP)),.lit (.int .u32 v11.mE),.list .self (v11.aP.map aB.C)])/\m'.gl=m.gl/\m.back q m'=(m.set P0 ((aC.C v10)))) ?_ ?_
 ·rcases dH hy17 with ⟨c18,hy17⟩ | ⟨c18,hy17⟩
  ·obtain ⟨x19,h20,hy17⟩:=aA hy17;refine aN fun _ z=>?_;simp only [go_sem,seval,c18,e16];refine SC.by_ (oA n v10 ([125]:cR) _ h20 _ _ _ P0 (by simp only [go_sem,e16,hg2])) ?_;simp only [go_sem,seval];apply z;cases hy17;refine ⟨by decide,?_⟩;simp only [go_sem,seval,e16]
  ·refine aN fun _ z=>?_;simp only [go_sem,seval,c18,e16];apply z;cases hy17;refine ⟨by decide,?_⟩;simp only [go_sem,seval,e16]
 ·intro E21 m22 e23 _;refine bJ hy12 (fun c24 hy12=>?_) (fun c24 hy12=>?_)
  ·refine aV ?_
   refine bN ?_;obtain ⟨x25,h26,hy12⟩:=aA hy12;obtain ⟨f27,hy12⟩:=bS hy12;have f28:v11.aP.length+1<=1073741824:=by first | omega | (simp only [nL,jK,lD] at f27 ⊢;omega)
   have f29:v11.aP.length<=1073741823:=by first | omega | (simp only [nL,jK,lD] at f27 ⊢;omega)
   refine dR [(2,0),(3,0),(4,0),(0,0),(1,1),(5,0),(6,0),(7,0),(8,0)] 19 fun _ z=>?_;simp only [go_sem,seval,e23];refine cB (wP v10 a1 _ h26 _ _ _ P0 (by simp only [go_sem,e23,hg2,hg5])) rfl ?_;simp only [go_sem,seval,fC hpP0,f28,e23];apply z;simp only [aL,aS];refine ⟨c13,xH _,x25.2,({ v11 with aP:=(v11.aP++[x25.1]) }:aB),hy12,?_⟩;simp only [go_sem,seval,aO,cM,cH,bF hpP0,fC hpP0,e23]
  ·refine dQ ?_
   try simp only [bZ,bR,↓reduceIte,aL]
   cases hy12;refine aF ?_;obtain ⟨x30,h31,h⟩:=aA h;refine aN fun _ z=>?_;simp only [go_sem,seval,e23];refine SC.by_ (bU n v10 ([125]:cR) _ h31 _ _ _ P0 (by simp only [go_sem,e23,hg2])) ?_;simp only [go_sem,seval];apply z;refine aM ?_;simp only [go_sem,seval,fC hpP0,e23];refine aQ ?_;cases h;refine ⟨by simp,?_⟩;simp only [go_sem,seval,aO,bF hpP0,e23]
theorem wL {mN} (yW:qK mN) {oF} (AM:rT oF) (n:Nat):pA (jL mN oF n):=by
 rintro a0 a1 r h q m vs P0 ⟨hv,hmP0,hg2,hg5⟩;refine SC.wv hv ?_;refine SC.ap hmP0 fun hpP0 l0=>?_
 try simp only [go_sem] at hmP0 l0
 refine dZ func138 call138 ntmps138 results138 ?_;unfold jL at h;refine aM ?_;simp only [go_sem];refine aF ?_;obtain ⟨x2,h4,h⟩:=aA h;refine aN fun _ z=>?_;simp only [go_sem,seval];refine SC.mono (gO a0 8 _ h4 _ _ _ P0 (by simp only [go_sem,seval,cQ hpP0,hmP0])) ?_;rintro _ _ ⟨o_x2,j_x2,s_x2,rfl,rfl⟩;replace s_x2:q <:+ o_x2:=List.IsSuffix.trans (by simp only [go_sem]) s_x2;simp only [go_sem,seval];apply z;refine aF ?_;obtain ⟨y5,hy5,h⟩:=aA h;refine gN 26 (fun E' m'=>∃(y5a:(aC × aB)),y5=.inl y5a/\E' 0=.ptr P0 0/\E' 4=.ptr (0::q) 0/\E' 5=.ptr (3::q) 0/\m'.blk P0=some ((aC.C y5a.1))/\m'.blk (0::q)=some ([.lit (.int .i64 0),.lit (.int .i64 0),.lit (.string (bs [])),.lit (.int .u32 0),.list .self ([].map aB.C)])/\m'.blk (3::q)=some ([.lit (.int .i64 y5a.2.cF),.lit (.int .i64 y5a.2.fQ),.lit (.string (bs y5a.2.cP)),.lit (.int .u32 y5a.2.mE),.list .self (y5a.2.aP.map aB.C)])/\m'.gl=m.gl/\m.back q m'=(m.set P0 ((aC.C y5a.1)))) ?_ ?_
 ·refine bN (aF ?_);obtain ⟨x6,h7,hy5⟩:=aA hy5;refine aN fun _ z=>?_;simp only [go_sem,seval];refine SC.by_ (cD n x2.2 ([108,101,116]:cR) _ h7 _ _ _ P0 (by simp only [go_sem,seval,cQ hpP0,hg2])) ?_;simp only [go_sem,seval];apply z;refine bJ hy5 (fun c8 hy5=>?_) (fun c8 hy5=>?_)
  ·refine aM ?_;simp only [go_sem,seval,cQ hpP0,c8];refine aF ?_;obtain ⟨x9,h10,hy5⟩:=aA hy5;refine aN fun _ z=>?_;simp only [go_sem,seval];refine SC.by_ (tZ n x6.2 ({ x2.1 with cF:=5 }:aB) (i64.wrap (a1+1)) _ h10 _ _ _ P0 (by simp only [go_sem,seval,cQ hpP0,hg2,hg5])) ?_;simp only [go_sem,seval,cQ hpP0];apply z;refine aQ ?_
   try simp only [aU,bK]
   cases hy5;simp only [DX] at h;cases h;refine ⟨by simp,?_⟩;simp only [go_sem,seval,aO,cM,cH,aJ,bF hpP0,s_x2]
  ·refine aF ?_;obtain ⟨x11,h12,hy5⟩:=aA hy5;refine aN fun _ z=>?_;simp only [go_sem,seval,c8];refine SC.by_ (cD n x6.2 ([118,97,114]:cR) _ h12 _ _ _ P0 (by simp only [go_sem,seval,hg2])) ?_;simp only [go_sem,seval];apply z;refine bJ hy5 (fun c13 hy5=>?_) (fun c13 hy5=>?_)
   ·refine aM ?_;simp only [go_sem,seval,cQ hpP0,c13];refine aF ?_;obtain ⟨x14,h15,hy5⟩:=aA hy5;refine aN fun _ z=>?_;simp only [go_sem,seval];refine SC.by_ (tZ n x11.2 ({ x2.1 with cF:=6 }:aB) (i64.wrap (a1+1)) _ h15 _ _ _ P0 (by simp only [go_sem,seval,cQ hpP0,hg2,hg5])) ?_;simp only [go_sem,seval,cQ hpP0];apply z;refine aQ ?_
    try simp only [aU,bK]
    cases hy5;simp only [DX] at h;cases h;refine ⟨by simp,?_⟩;simp only [go_sem,seval,aO,cM,cH,aJ,bF hpP0,s_x2]
   ·refine aF ?_;obtain ⟨x16,h17,hy5⟩:=aA hy5;refine aN fun _ z=>?_;simp only [go_sem,seval,c13];refine SC.by_ (cD n x11.2 ([97,114,114]:cR) _ h17 _ _ _ P0 (by simp only [go_sem,seval,hg2])) ?_;simp only [go_sem,seval];apply z;refine bJ hy5 (fun c18 hy5=>?_) (fun c18 hy5=>?_)
    ·refine aF ?_;obtain ⟨x19,h20,hy5⟩:=aA hy5;refine aN fun _ z=>?_;simp only [go_sem,seval,c18];refine SC.by_ (gP n x16.2 _ h20 _ _ _ P0 (by simp only [go_sem,seval,hg2])) ?_;simp only [go_sem,seval,cQ hpP0];apply z;obtain ⟨x21,h22,hy5⟩:=aA hy5;refine fB fun _ z=>?_;simp only [go_sem,seval];refine SC.by_ (uS n x19.2 _ h22 _ _ _ P0 (by simp only [go_sem,seval,cQ hpP0,hg2])) ?_;simp only [go_sem,seval,cQ hpP0];apply z;simp only [aL,aS];cases hy5;refine ⟨by decide,(x21.2,({ x2.1 with cF:=7,cP:=x19.1,mE:=x21.1 }:aB)),rfl,?_⟩;simp only [go_sem,seval,aO,cM,cH,aJ,bF hpP0,cQ hpP0,s_x2]
    ·refine aF ?_;obtain ⟨x23,h24,hy5⟩:=aA hy5;refine aN fun _ z=>?_;simp only [go_sem,seval,c18];refine SC.by_ (cD n x16.2 ([114,101,116,117,114,110]:cR) _ h24 _ _ _ P0 (by simp only [go_sem,seval,hg2])) ?_;simp only [go_sem,seval];apply z;refine bJ hy5 (fun c25 hy5=>?_) (fun c25 hy5=>?_)
     ·obtain ⟨x26,h27,hy5⟩:=aA hy5;refine fB fun _ z=>?_;simp only [go_sem,seval,c25];refine SC.by_ (fZ n x23.2 (i64.wrap (a1+1)) _ h27 _ _ _ P0 (by simp only [go_sem,seval,hg2,hg5])) ?_;simp only [go_sem,seval,cQ hpP0];apply z;simp only [aL,aS];cases hy5;refine ⟨by decide,(x26.2,({ x2.1 with cF:=13,aP:=[x26.1] }:aB)),rfl,?_⟩;simp only [go_sem,seval,aO,cM,cH,aJ,bF hpP0,cQ hpP0,s_x2]
     ·refine aF ?_;obtain ⟨x28,h29,hy5⟩:=aA hy5;refine aN fun _ z=>?_;simp only [go_sem,seval,c25];refine SC.by_ (cD n x23.2 ([105,102]:cR) _ h29 _ _ _ P0 (by simp only [go_sem,seval,hg2])) ?_;simp only [go_sem,seval];apply z;refine bJ hy5 (fun c30 hy5=>?_) (fun c30 hy5=>?_)
      ·refine aF ?_;obtain ⟨x31,h32,hy5⟩:=aA hy5;refine aN fun _ z=>?_;simp only [go_sem,seval,cQ hpP0,c30];refine SC.by_ (yW x28.2 x2.1 a1 _ h32 _ _ _ P0 (by simp only [go_sem,seval,hg2,hg5])) ?_;simp only [go_sem,seval,cQ hpP0];apply z;refine aQ ?_
       try simp only [aU,bK]
       cases hy5;simp only [DX] at h;cases h;refine ⟨by simp,?_⟩;simp only [go_sem,seval,aO,cM,cH,aJ,bF hpP0,s_x2]
      ·refine aF ?_;obtain ⟨x33,h34,hy5⟩:=aA hy5;refine aN fun _ z=>?_;simp only [go_sem,seval,c30];refine SC.by_ (cD n x28.2 ([102,111,114]:cR) _ h34 _ _ _ P0 (by simp only [go_sem,seval,hg2])) ?_;simp only [go_sem,seval];apply z;refine bJ hy5 (fun c35 hy5=>?_) (fun c35 hy5=>?_)
       ·refine aF ?_;obtain ⟨x36,h37,hy5⟩:=aA hy5;refine aN fun _ z=>?_;simp only [go_sem,seval,cQ hpP0,c35];refine SC.by_ (AM x33.2 x2.1 a1 _ h37 _ _ _ P0 (by simp only [go_sem,seval,hg2,hg5])) ?_;simp only [go_sem,seval,cQ hpP0];apply z;refine aQ ?_
        try simp only [aU,bK]
        cases hy5;simp only [DX] at h;cases h;refine ⟨by simp,?_⟩;simp only [go_sem,seval,aO,cM,cH,aJ,bF hpP0,s_x2]
       ·refine aF ?_;obtain ⟨x38,h39,hy5⟩:=aA hy5;refine aN fun _ z=>?_;simp only [go_sem,seval,cQ hpP0,c35];refine SC.by_ (AZ n x33.2 x2.1 a1 _ h39 _ _ _ P0 (by simp only [go_sem,seval,hg2,hg5])) ?_;simp only [go_sem,seval,cQ hpP0];apply z;refine aQ ?_
        try simp only [aU,bK]
        cases hy5;simp only [DX] at h;cases h;refine ⟨by simp,?_⟩;simp only [go_sem,seval,aO,cM,cH,aJ,bF hpP0,s_x2]
 ·rintro E40 m41 ⟨y5a,rfl,e42⟩ _;simp only [FW] at h;refine aF ?_;obtain ⟨x43,h44,h⟩:=aA h;refine aN fun _ z=>?_;simp only [go_sem,seval,e42];refine SC.by_ (bU n y5a.1 ([59]:cR) _ h44 _ _ _ P0 (by simp only [go_sem,e42,hg2])) ?_;simp only [go_sem,seval];apply z;refine aM ?_;simp only [go_sem,seval,cQ hpP0,e42];refine aQ ?_;cases h;refine ⟨by simp,?_⟩;simp only [go_sem,seval,aO,bF hpP0,e42]
theorem yH {eL} (mT:lO eL) (n:Nat):qK (kR eL n):=by
 rintro a0 a1 a2 r h q m vs P0 ⟨hv,hmP0,hg2,hg5⟩;refine SC.wv hv ?_;refine SC.ap hmP0 fun hpP0 l0=>?_
 try simp only [go_sem] at hmP0 l0
 refine dZ func175 call175 ntmps175 results175 ?_;unfold kR at h;refine aM ?_;simp only [go_sem,seval];refine aF ?_;obtain ⟨x3,h4,h⟩:=aA h;refine aN fun _ z=>?_;simp only [go_sem,seval];refine SC.by_ (fZ n a0 (i64.wrap (a2+1)) _ h4 _ _ _ P0 (by simp only [go_sem,seval,cQ hpP0,hmP0,hg2,hg5])) ?_;simp only [go_sem,seval,cQ hpP0];apply z;refine aF ?_;obtain ⟨x5,h6,h⟩:=aA h;obtain ⟨f7,h⟩:=bS h;refine dR [(2,0),(3,0),(4,0),(5,0),(0,0),(1,1),(6,0),(7,0),(8,0),(9,0)] 21 fun _ z=>?_;simp only [go_sem,seval];refine cB (mT x3.2 (i64.wrap (a2+1)) _ h6 _ _ _ P0 (by simp only [go_sem,seval,cQ hpP0,hg2,hg5])) rfl ?_;simp only [go_sem,seval,cQ hpP0];apply z;refine aF (aF ?_);obtain ⟨x8,h9,h⟩:=aA h;refine aN fun _ z=>?_;simp only [go_sem,seval];refine SC.by_ (cD n x5.2 ([101,108,115,101]:cR) _ h9 _ _ _ P0 (by simp only [go_sem,seval,cQ hpP0,hg2])) ?_;simp only [go_sem,seval];apply z;refine bJ h (fun c10 h=>?_) (fun c10 h=>?_)
 ·obtain ⟨x11,h12,h⟩:=aA h;obtain ⟨f13,h⟩:=bS h;have f14:1+1+1<=1073741824:=by first | omega | (simp only [nL,jK,lD] at f13 ⊢;omega)
  refine dR [(2,0),(3,0),(4,0),(5,0),(0,0),(1,1),(6,0),(7,0),(8,0),(9,0)] 33 fun _ z=>?_;simp only [go_sem,seval,c10];refine cB (mT x8.2 (i64.wrap (a2+1)) _ h12 _ _ _ P0 (by simp only [go_sem,seval,hg2,hg5])) rfl ?_;simp only [go_sem,seval,cQ hpP0,f14];apply z;refine aM ?_;simp only [go_sem,seval,cQ hpP0];refine aQ ?_;cases h;refine ⟨by simp,?_⟩;simp only [go_sem,seval,aO,cM,cH,aJ,bF hpP0]
 ·refine aV ?_
  refine aM ?_;simp only [go_sem,seval,cQ hpP0,c10];refine aQ ?_;cases h;refine ⟨by simp,?_⟩;simp only [go_sem,seval,aO,cM,cH,aJ,bF hpP0]
theorem At {eL} (mT:lO eL) (n:Nat):rT (mW eL n):=by
 rintro a0 a1 a2 r h q m vs P0 ⟨hv,hmP0,hg2,hg5⟩;refine SC.wv hv ?_;refine SC.ap hmP0 fun hpP0 l0=>?_
 try simp only [go_sem] at hmP0 l0
 refine dZ func176 call176 ntmps176 results176 ?_;unfold mW at h;refine aM ?_;simp only [go_sem,seval];refine aF ?_;obtain ⟨x3,h4,h⟩:=aA h;refine aN fun _ z=>?_;simp only [go_sem,seval];refine SC.by_ (gP n a0 _ h4 _ _ _ P0 (by simp only [go_sem,seval,cQ hpP0,hmP0,hg2])) ?_;simp only [go_sem,seval,cQ hpP0];apply z;refine aF ?_;obtain ⟨x5,h6,h⟩:=aA h;refine aN fun _ z=>?_;simp only [go_sem,seval];refine SC.by_ (bU n x3.2 ([105,110]:cR) _ h6 _ _ _ P0 (by simp only [go_sem,seval,cQ hpP0,hg2])) ?_;simp only [go_sem,seval];apply z;refine aF ?_;obtain ⟨x7,h8,h⟩:=aA h;refine aN fun _ z=>?_;simp only [go_sem,seval];refine SC.by_ (fZ n x5 (i64.wrap (a2+1)) _ h8 _ _ _ P0 (by simp only [go_sem,seval,hg2,hg5])) ?_;simp only [go_sem,seval,cQ hpP0];apply z;refine aF ?_;obtain ⟨x9,h10,h⟩:=aA h;refine aN fun _ z=>?_;simp only [go_sem,seval];refine SC.by_ (bU n x7.2 ([46,46]:cR) _ h10 _ _ _ P0 (by simp only [go_sem,seval,cQ hpP0,hg2])) ?_;simp only [go_sem,seval];apply z;refine aF ?_;obtain ⟨x11,h12,h⟩:=aA h;obtain ⟨f13,h⟩:=bS h;refine dR [(2,0),(3,0),(4,0),(5,0),(0,0),(1,1),(6,0),(7,0),(8,0),(9,0)] 29 fun _ z=>?_;simp only [go_sem,seval];refine cB (fZ n x9 (i64.wrap (a2+1)) _ h12 _ _ _ P0 (by simp only [go_sem,seval,hg2,hg5])) rfl ?_;simp only [go_sem,seval,cQ hpP0];apply z;refine aF ?_;obtain ⟨x14,h15,h⟩:=aA h;obtain ⟨f16,h⟩:=bS h;have f17:1+1+1<=1073741824:=by first | omega | (simp only [nL,jK,lD] at f16 ⊢;omega)
 refine dR [(2,0),(3,0),(4,0),(5,0),(0,0),(1,1),(6,0),(7,0),(8,0),(9,0)] 39 fun _ z=>?_;simp only [go_sem,seval];refine cB (mT x11.2 (i64.wrap (a2+1)) _ h15 _ _ _ P0 (by simp only [go_sem,seval,cQ hpP0,hg2,hg5])) rfl ?_;simp only [go_sem,seval,cQ hpP0,f17];apply z;refine aM ?_;simp only [go_sem,seval,cQ hpP0];refine aQ ?_;cases h;refine ⟨by simp,?_⟩;simp only [go_sem,seval,aO,cM,cH,aJ,bF hpP0]
theorem rW:∀n,lO (eR n)/\pA (Aq n)/\qK (CK n)/\rT (Eb n)
 | 0=>⟨fun _ _ _ h=>fL h,fun _ _ _ h=>fL h,fun _ _ _ _ h=>fL h,fun _ _ _ _ h=>fL h⟩
 | n+1=>
   have ih:=rW n
   ⟨zH ih.2.1 n,wL ih.2.2.1 ih.2.2.2 n,yH ih.1 n,At ih.1 n⟩
theorem jB (n:Nat):lO (eR n):=(rW n).1
def zG (f:aC->Option (aB × aC)):Prop:=∀a0 r,f a0=some r->∀(q:Pa) (m:M) (vs:List V) (P0:Pa),vs.map V.weak1=[.ptr P0 0]/\m.blk P0=some ((aC.C a0))/\m.gl 2=.eptr [(cA cS cN)] 0 0/\m.gl 5=.eptr [(cA (cA cS) dE)] 0 0->SC prog 52 vs q m (fun v m'=>v=.agg ((aB.C r.1))/\m'=(m.set P0 ((aC.C r.2))))
theorem yG (n:Nat):zG (kQ n):=by
 rintro a0 r h q m vs P0 ⟨hv,hmP0,hg2,hg5⟩;refine SC.wv hv ?_;refine SC.ap hmP0 fun hpP0 l0=>?_
 try simp only [go_sem] at hmP0 l0
 refine dZ func52 call52 ntmps52 results52 ?_;unfold kQ at h;refine aM ?_;simp only [go_sem];refine aF ?_;obtain ⟨x2,h4,h⟩:=aA h;refine aN fun _ z=>?_;simp only [go_sem,seval];refine SC.mono (gO a0 2 _ h4 _ _ _ P0 (by simp only [go_sem,seval,cQ hpP0,hmP0])) ?_;rintro _ _ ⟨o_x2,j_x2,s_x2,rfl,rfl⟩;replace s_x2:q <:+ o_x2:=List.IsSuffix.trans (by simp only [go_sem]) s_x2;simp only [go_sem,seval];apply z;refine aF (aF ?_);obtain ⟨x5,h6,h⟩:=aA h;refine aN fun _ z=>?_;simp only [go_sem,seval];refine SC.by_ (cD n x2.2 ([101,120,112,111,114,116]:cR) _ h6 _ _ _ P0 (by simp only [go_sem,seval,cQ hpP0,hg2])) ?_;simp only [go_sem,seval];apply z;refine bJ h (fun c7 h=>?_) (fun c7 h=>?_)
 ·refine aN fun _ z=>?_;simp only [go_sem,seval,cQ hpP0,c7];apply z;refine aF ?_;obtain ⟨x8,h9,h⟩:=aA h;refine aN fun _ z=>?_;simp only [go_sem,seval];refine SC.by_ (bU n x5.2 ([102,110]:cR) _ h9 _ _ _ P0 (by simp only [go_sem,seval,cQ hpP0,hg2])) ?_;simp only [go_sem,seval];apply z;refine aF ?_;obtain ⟨x10,h11,h⟩:=aA h;refine aN fun _ z=>?_;simp only [go_sem,seval];refine SC.by_ (gP n x8 _ h11 _ _ _ P0 (by simp only [go_sem,seval,hg2])) ?_;simp only [go_sem,seval,cQ hpP0];apply z;refine aF ?_;obtain ⟨x12,h13,h⟩:=aA h;refine aN fun _ z=>?_;simp only [go_sem,seval];refine SC.mono (qW n x10.2 _ h13 _ _ _ P0 (by simp only [go_sem,seval,cQ hpP0,hg2])) ?_;rintro _ _ ⟨o_x12,j_x12,s_x12,rfl,rfl⟩;replace s_x12:q <:+ o_x12:=List.IsSuffix.trans (by simp only [go_sem]) s_x12;simp only [go_sem,seval,cQ hpP0];apply z;refine aF (aF ?_);obtain ⟨x14,h15,h⟩:=aA h;refine aN fun _ z=>?_;simp only [go_sem,seval];refine SC.by_ (cD n x12.2 ([45,62]:cR) _ h15 _ _ _ P0 (by simp only [go_sem,seval,cQ hpP0,hg2])) ?_;simp only [go_sem,seval];apply z;refine bJ h (fun c16 h=>?_) (fun c16 h=>?_)
  ·refine bN (aF ?_);obtain ⟨x17,h18,h⟩:=aA h;refine aN fun _ z=>?_;simp only [go_sem,seval,c16];refine SC.by_ (cD n x14.2 ([117,51,50]:cR) _ h18 _ _ _ P0 (by simp only [go_sem,seval,hg2])) ?_;simp only [go_sem,seval];apply z;refine bJ h (fun c19 h=>?_) (fun c19 h=>?_)
   ·refine fB fun _ z=>?_;simp only [go_sem,seval,cQ hpP0,c19];apply z;simp only [aL,aS];refine aF ?_;obtain ⟨x20,h21,h⟩:=aA h;obtain ⟨f22,h⟩:=bS h;have f23:x12.1.length+1<=1073741824:=by first | omega | (simp only [nL,jK,lD] at f22 ⊢;omega)
    have f24:x12.1.length<=1073741823:=by first | omega | (simp only [nL,jK,lD] at f22 ⊢;omega)
    refine dR [(2,0),(3,0),(0,0),(1,1),(4,0),(5,0),(6,0),(7,0)] 39 fun _ z=>?_;simp only [go_sem,seval];refine cB (jB n x17.2 1 _ h21 _ _ _ P0 (by simp only [go_sem,seval,cQ hpP0,hg2,hg5])) rfl ?_;simp only [go_sem,seval,cQ hpP0,f23];apply z;refine aM ?_;simp only [go_sem,seval,cQ hpP0];refine aQ ?_;cases h;refine ⟨by simp,?_⟩;simp only [go_sem,seval,aO,cM,cH,aJ,bF hpP0,s_x2,s_x12]
   ·refine aF ?_;obtain ⟨x25,h26,h⟩:=aA h;refine aN fun _ z=>?_;simp only [go_sem,seval,c19];refine SC.by_ (bU n x17.2 ([117,54,52]:cR) _ h26 _ _ _ P0 (by simp only [go_sem,seval,hg2])) ?_;simp only [go_sem,seval];apply z;refine fB fun _ z=>?_;simp only [go_sem,seval,cQ hpP0];apply z;simp only [aL,aS];refine aF ?_;obtain ⟨x27,h28,h⟩:=aA h;obtain ⟨f29,h⟩:=bS h;have f30:x12.1.length+1<=1073741824:=by first | omega | (simp only [nL,jK,lD] at f29 ⊢;omega)
    have f31:x12.1.length<=1073741823:=by first | omega | (simp only [nL,jK,lD] at f29 ⊢;omega)
    refine dR [(2,0),(3,0),(0,0),(1,1),(4,0),(5,0),(6,0),(7,0)] 41 fun _ z=>?_;simp only [go_sem,seval];refine cB (jB n x25 1 _ h28 _ _ _ P0 (by simp only [go_sem,seval,cQ hpP0,hg2,hg5])) rfl ?_;simp only [go_sem,seval,cQ hpP0,f30];apply z;refine aM ?_;simp only [go_sem,seval,cQ hpP0];refine aQ ?_;cases h;refine ⟨by simp,?_⟩;simp only [go_sem,seval,aO,cM,cH,aJ,bF hpP0,s_x2,s_x12]
  ·refine aV ?_
   refine aF ?_;obtain ⟨x32,h33,h⟩:=aA h;obtain ⟨f34,h⟩:=bS h;have f35:x12.1.length+1<=1073741824:=by first | omega | (simp only [nL,jK,lD] at f34 ⊢;omega)
   have f36:x12.1.length<=1073741823:=by first | omega | (simp only [nL,jK,lD] at f34 ⊢;omega)
   refine dR [(2,0),(3,0),(0,0),(1,1),(4,0),(5,0),(6,0),(7,0)] 31 fun _ z=>?_;simp only [go_sem,seval,c16];refine cB (jB n x14.2 1 _ h33 _ _ _ P0 (by simp only [go_sem,seval,hg2,hg5])) rfl ?_;simp only [go_sem,seval,cQ hpP0,f35];apply z;refine aM ?_;simp only [go_sem,seval,cQ hpP0];refine aQ ?_;cases h;refine ⟨by simp,?_⟩;simp only [go_sem,seval,aO,cM,cH,aJ,bF hpP0,s_x2,s_x12]
 ·refine aV ?_
  refine aF ?_;obtain ⟨x37,h38,h⟩:=aA h;refine aN fun _ z=>?_;simp only [go_sem,seval,c7];refine SC.by_ (bU n x5.2 ([102,110]:cR) _ h38 _ _ _ P0 (by simp only [go_sem,seval,hg2])) ?_;simp only [go_sem,seval];apply z;refine aF ?_;obtain ⟨x39,h40,h⟩:=aA h;refine aN fun _ z=>?_;simp only [go_sem,seval];refine SC.by_ (gP n x37 _ h40 _ _ _ P0 (by simp only [go_sem,seval,hg2])) ?_;simp only [go_sem,seval,cQ hpP0];apply z;refine aF ?_;obtain ⟨x41,h42,h⟩:=aA h;refine aN fun _ z=>?_;simp only [go_sem,seval];refine SC.mono (qW n x39.2 _ h42 _ _ _ P0 (by simp only [go_sem,seval,cQ hpP0,hg2])) ?_;rintro _ _ ⟨o_x41,j_x41,s_x41,rfl,rfl⟩;replace s_x41:q <:+ o_x41:=List.IsSuffix.trans (by simp only [go_sem]) s_x41;simp only [go_sem,seval,cQ hpP0];apply z;refine aF (aF ?_);obtain ⟨x43,h44,h⟩:=aA h;refine aN fun _ z=>?_;simp only [go_sem,seval];refine SC.by_ (cD n x41.2 ([45,62]:cR) _ h44 _ _ _ P0 (by simp only [go_sem,seval,cQ hpP0,hg2])) ?_;simp only [go_sem,seval];apply z;refine bJ h (fun c45 h=>?_) (fun c45 h=>?_)
  ·refine bN (aF ?_);obtain ⟨x46,h47,h⟩:=aA h;refine aN fun _ z=>?_;simp only [go_sem,seval,c45];refine SC.by_ (cD n x43.2 ([117,51,50]:cR) _ h47 _ _ _ P0 (by simp only [go_sem,seval,hg2])) ?_;simp only [go_sem,seval];apply z;refine bJ h (fun c48 h=>?_) (fun c48 h=>?_)
   ·refine fB fun _ z=>?_;simp only [go_sem,seval,cQ hpP0,c48];apply z;simp only [aL,aS];refine aF ?_;obtain ⟨x49,h50,h⟩:=aA h;obtain ⟨f51,h⟩:=bS h;have f52:x41.1.length+1<=1073741824:=by first | omega | (simp only [nL,jK,lD] at f51 ⊢;omega)
    have f53:x41.1.length<=1073741823:=by first | omega | (simp only [nL,jK,lD] at f51 ⊢;omega)
    refine dR [(2,0),(3,0),(0,0),(1,1),(4,0),(5,0),(6,0),(7,0)] 37 fun _ z=>?_;simp only [go_sem,seval];refine cB (jB n x46.2 1 _ h50 _ _ _ P0 (by simp only [go_sem,seval,cQ hpP0,hg2,hg5])) rfl ?_;simp only [go_sem,seval,cQ hpP0,f52];apply z;refine aM ?_;simp only [go_sem,seval,cQ hpP0];refine aQ ?_;cases h;refine ⟨by simp,?_⟩;simp only [go_sem,seval,aO,cM,cH,aJ,bF hpP0,s_x2,s_x41]
   ·refine aF ?_;obtain ⟨x54,h55,h⟩:=aA h;refine aN fun _ z=>?_;simp only [go_sem,seval,c48];refine SC.by_ (bU n x46.2 ([117,54,52]:cR) _ h55 _ _ _ P0 (by simp only [go_sem,seval,hg2])) ?_;simp only [go_sem,seval];apply z;refine fB fun _ z=>?_;simp only [go_sem,seval,cQ hpP0];apply z;simp only [aL,aS];refine aF ?_;obtain ⟨x56,h57,h⟩:=aA h;obtain ⟨f58,h⟩:=bS h;have f59:x41.1.length+1<=1073741824:=by first | omega | (simp only [nL,jK,lD] at f58 ⊢;omega)
    have f60:x41.1.length<=1073741823:=by first | omega | (simp only [nL,jK,lD] at f58 ⊢;omega)
    refine dR [(2,0),(3,0),(0,0),(1,1),(4,0),(5,0),(6,0),(7,0)] 39 fun _ z=>?_;simp only [go_sem,seval];refine cB (jB n x54 1 _ h57 _ _ _ P0 (by simp only [go_sem,seval,cQ hpP0,hg2,hg5])) rfl ?_;simp only [go_sem,seval,cQ hpP0,f59];apply z;refine aM ?_;simp only [go_sem,seval,cQ hpP0];refine aQ ?_;cases h;refine ⟨by simp,?_⟩;simp only [go_sem,seval,aO,cM,cH,aJ,bF hpP0,s_x2,s_x41]
  ·refine aV ?_
   refine aF ?_;obtain ⟨x61,h62,h⟩:=aA h;obtain ⟨f63,h⟩:=bS h;have f64:x41.1.length+1<=1073741824:=by first | omega | (simp only [nL,jK,lD] at f63 ⊢;omega)
   have f65:x41.1.length<=1073741823:=by first | omega | (simp only [nL,jK,lD] at f63 ⊢;omega)
   refine dR [(2,0),(3,0),(0,0),(1,1),(4,0),(5,0),(6,0),(7,0)] 29 fun _ z=>?_;simp only [go_sem,seval,c45];refine cB (jB n x43.2 1 _ h62 _ _ _ P0 (by simp only [go_sem,seval,hg2,hg5])) rfl ?_;simp only [go_sem,seval,cQ hpP0,f64];apply z;refine aM ?_;simp only [go_sem,seval,cQ hpP0];refine aQ ?_;cases h;refine ⟨by simp,?_⟩;simp only [go_sem,seval,aO,cM,cH,aJ,bF hpP0,s_x2,s_x41]
def Hw (f:cR->Option (aB × Int × Int)):Prop:=∀a0 r,f a0=some r->∀(q:Pa) (m:M) (vs:List V),vs.map V.weak1=[.list .none (nG a0)]/\m.gl 1=.eptr [(cA cS fN)] 0 0/\m.gl 2=.eptr [(cA cS cN)] 0 0/\m.gl 5=.eptr [(cA (cA cS) dE)] 0 0->SC prog 25 vs q m (fun v m'=>v=.tup [.agg ((aB.C r.1)),.lit (.int .i64 r.2.1),.lit (.int .i64 r.2.2)]/\m'=m)
theorem GI (n:Nat):Hw (wK n):=by
 rintro a0 r h q m vs ⟨hv,hg1,hg2,hg5⟩;refine SC.wv hv (dZ func25 call25 ntmps25 results25 ?_);unfold wK at h;refine aM ?_;simp only [go_sem,seval];refine aF ?_;obtain ⟨x2,h3,h⟩:=aA h;refine aN fun _ z=>?_;simp only [go_sem,seval];refine SC.by_ (Hz n a0 _ h3 _ _ _ (by simp only [go_sem,hg1])) ?_;simp only [go_sem,seval];apply z;refine aF (aM ?_);simp only [go_sem,seval];refine bJ h (fun c4 h=>?_) (fun c4 h=>?_)
 ·refine aM ?_;simp only [go_sem,seval,c4];refine aQ ?_
  try simp only [aU]
  cases h;refine ⟨by simp,?_⟩;simp only [go_sem,seval,aO,cM,aJ]
 ·refine aV ?_
  refine aM ?_;simp only [go_sem,seval,c4];refine aF ?_;obtain ⟨x6,h8,h⟩:=aA h;refine aN fun _ z=>?_;simp only [go_sem,seval];refine SC.mono (gO (aC.mk x2.1 0 0 0 0) 1 _ h8 _ _ _ (16::q) (by simp only [go_sem,seval])) ?_;rintro _ _ ⟨o_x6,j_x6,s_x6,rfl,rfl⟩;replace s_x6:q <:+ o_x6:=List.IsSuffix.trans (by simp only [go_sem]) s_x6;simp only [go_sem,seval];apply z;refine aF (bN ?_);obtain ⟨y12,hy12,h⟩:=aA h;refine kN (fun c E' m'=>∃v10 v11,oZ n c v10 v11=some y12/\E' 2=.ptr (0::q) 0/\E' 8=.ptr (16::q) 0/\E' 9=.ptr (20::q) 0/\m'.blk (0::q)=some ([.lit (.int .i64 0),.lit (.int .i64 0),.lit (.string (bs [])),.lit (.int .u32 0),.list .self ([].map aB.C)])/\m'.blk (16::q)=some ((aC.C v10))/\m'.blk (20::q)=some ([.lit (.int .i64 v11.cF),.lit (.int .i64 v11.fQ),.lit (.string (bs v11.cP)),.lit (.int .u32 v11.mE),.list .self (v11.aP.map aB.C)])/\m'.gl=m.gl/\m.back q m'=m) n ⟨x6.2,x6.1,hy12,?_⟩ ?_
  ·simp only [go_sem,seval,aO,cM,cH,aJ,s_x6]
  rintro i9 c13 E14 m15 ⟨v10,v11,hy12,e16⟩ _
  rcases c13 with _ | c13
  ·cases hy12
  rw [oZ] at hy12;refine aF (aF ?_);obtain ⟨y17,hy17,hy12⟩:=aA hy12;refine gN 11 (fun E' m'=>E' 2=.ptr (0::q) 0/\E' 8=.ptr (16::q) 0/\E' 9=.ptr (20::q) 0/\E' 36=.lit (.bool y17)/\m'.blk (0::q)=some ([.lit (.int .i64 0),.lit (.int .i64 0),.lit (.string (bs [])),.lit (.int .u32 0),.list .self ([].map aB.C)])/\m'.blk (16::q)=some ((aC.C v10))/\m'.blk (20::q)=some ([.lit (.int .i64 v11.cF),.lit (.int .i64 v11.fQ),.lit (.string (bs v11.cP)),.lit (.int .u32 v11.mE),.list .self (v11.aP.map aB.C)])/\m'.gl=m.gl/\m.back q m'=m) ?_ ?_
  ·rcases dH hy17 with ⟨c18,hy17⟩ | ⟨c18,hy17⟩
   ·obtain ⟨x19,h20,hy17⟩:=aA hy17;refine aN fun _ z=>?_;simp only [go_sem,seval,c18,e16];refine SC.by_ (gJ v10 _ h20 _ _ _ (16::q) (by simp only [go_sem,e16])) ?_;simp only [go_sem,seval];apply z;cases hy17;refine ⟨by decide,?_⟩;simp only [go_sem,seval,e16]
   ·refine aN fun _ z=>?_;simp only [go_sem,seval,c18,e16];apply z;cases hy17;refine ⟨by decide,?_⟩;simp only [go_sem,seval,e16]
  ·intro E21 m22 e23 _;refine bJ hy12 (fun c24 hy12=>?_) (fun c24 hy12=>?_)
   ·refine aV ?_
    refine bN ?_;obtain ⟨x25,h26,hy12⟩:=aA hy12;obtain ⟨f27,hy12⟩:=bS hy12;have f28:v11.aP.length+1<=1073741824:=by first | omega | (simp only [nL,jK,lD] at f27 ⊢;omega)
    have f29:v11.aP.length<=1073741823:=by first | omega | (simp only [nL,jK,lD] at f27 ⊢;omega)
    refine dR [(2,0),(3,0),(0,0),(1,1),(4,0),(5,0),(6,0),(7,0)] 19 fun _ z=>?_;simp only [go_sem,seval,e23];refine cB (yG n v10 _ h26 _ _ _ (16::q) (by simp only [go_sem,e23,hg2,hg5])) rfl ?_;simp only [go_sem,seval,f28,e23];apply z;simp only [aL,aS];refine ⟨c13,xH _,x25.2,({ v11 with aP:=(v11.aP++[x25.1]) }:aB),hy12,?_⟩;simp only [go_sem,seval,aO,cM,cH,e23]
   ·refine dQ ?_
    try simp only [bZ,bR,↓reduceIte,aL]
    cases hy12;refine aF (aM ?_);simp only [go_sem,seval,e23];refine bJ h (fun c30 h=>?_) (fun c30 h=>?_)
    ·refine aF (dR [(0,0),(9,0),(1,0),(2,0),(3,0),(4,1),(5,0),(6,0),(7,0),(8,1),(10,0),(11,0)] 40 fun _ z=>?_);simp only [go_sem,seval,c30,e23];apply z;refine aQ ?_
     try simp only [aU]
     cases h;refine ⟨by simp,?_⟩;simp only [go_sem,seval,aO,cM,e23]
    ·refine aV ?_
     refine aM ?_;simp only [go_sem,seval,c30,e23];refine aQ ?_;cases h;refine ⟨by simp,?_⟩;simp only [go_sem,seval,aO,e23]
end Go.Proofs.YtncembphlfbgoaaGreatDoor.Abs
