/- Lemmas of ours. -/
import Derived.Test.YtncembphlfbgoaaGreatDoorIPH4
namespace Go.Proofs.YtncembphlfbgoaaGreatDoor.Abs
open Go.RowKit Tryz
open IntKind (i64 u32 u64 u8)
set_option linter.unusedVariables false
set_option maxRecDepth 10000
def Lh (f:Int->Option Bool):Prop:=∀a0 r,f a0=some r->∀(q:Pa) (m:M) (vs:List V),vs.map V.weak1=[.lit (.int .u8 a0)]->SC prog 126 vs q m (fun v Y=>v=.lit (.bool r)/\Y=m)
theorem Jy:Lh (BF):=by
 intro a0 r h q m vs hv;refine SC.wv hv (eD func126 call126 ntmps126 results126 ?_);unfold BF at h;refine aL ?_;refine aF ?_;obtain ⟨y1,j1,h⟩:=aA h;refine fX 16 (fun X Y=>X 2=.lit (.bool y1)/\Y.gl=m.gl/\m.back q Y=m) ?_ ?_
 ·rcases dD j1 with ⟨c2,j1⟩ | ⟨c2,j1⟩
  ·refine cH ?_;cases j1;exact jD
  ·
   rcases dD j1 with ⟨c3,j1⟩ | ⟨c3,j1⟩
   ·refine cH ?_;cases j1;exact jD
   ·
    rcases dD j1 with ⟨c4,j1⟩ | ⟨c4,j1⟩
    ·refine cH ?_;cases j1;exact jD
    ·refine cH ?_;cases j1;exact jD
 ·intro E5 m6 e7 _;refine aO ?_;cases h;exact jS
def vI (f:cQ->cQ->Option Bool):Prop:=∀a0 a1 r,f a0 a1=some r->∀(q:Pa) (m:M) (vs:List V),vs.map V.weak1=[.lit (.string (bs a0)),.lit (.string (bs a1))]->SC prog 168 vs q m (fun v Y=>v=.lit (.bool r)/\Y=m)
theorem pS:vI (gG):=by
 intro a0 a1 r h q m vs hv;refine SC.wv hv (eD func168 call168 ntmps168 results168 ?_);unfold gG at h;refine aL ?_;refine aF ?_;obtain ⟨y1,j1,h⟩:=aA h;refine fX 15 (fun X Y=>X 4=.lit (.bool y1)/\Y.gl=m.gl/\m.back q Y=m) ?_ ?_
 ·rcases dD j1 with ⟨c2,j1⟩ | ⟨c2,j1⟩
  ·obtain ⟨⟨f3,f4⟩,j1⟩:=bP j1;refine cH ?_;cases j1;exact jD
  ·refine cH ?_;cases j1;exact jD
 ·intro E5 m6 e7 _;refine aO ?_;cases h;exact jS
def El (f:cQ->cQ->Option Bool):Prop:=∀a0 a1 r,f a0 a1=some r->∀(q:Pa) (m:M) (vs:List V),vs.map V.weak1=[.lit (.string (bs a0)),.lit (.string (bs a1))]->SC prog 127 vs q m (fun v Y=>v=.lit (.bool r)/\Y=m)
theorem wR:El (oN):=by
 intro a0 a1 r h q m vs hv;refine SC.wv hv (eD func127 call127 ntmps127 results127 ?_);unfold oN at h;refine aL ?_;refine aF ?_;obtain ⟨x1,h2,h⟩:=aA h;refine aP fun _ z=>?_;simp only [go_sem,seval];refine SC.bA (pS a0 a1 _ h2 _ _ _) ?_;simp only [go_sem,seval];apply z;refine aO ?_;cases h;exact jS
def uD (f:cQ->Int->Option Int):Prop:=∀a0 a1 r,f a0 a1=some r->∀(q:Pa) (m:M) (vs:List V),vs.map V.weak1=[.lit (.string (bs a0)),.lit (.int .u8 a1)]->SC prog 199 vs q m (fun v Y=>v=.lit (.int .i64 r)/\Y=m)
theorem tU:uD qG:=by
 intro a0 a1 r h q m vs hv;refine SC.weak ?_;rw [hv];cases h;intro c xs w h1 h2 h3;obtain ⟨x,xs,rfl,k1,k2⟩:=h2.uncons;obtain ⟨y,rfl,k3⟩:=k2.inv_one;obtain rfl:=k1.inv_lit;obtain rfl:=k3.inv_lit;refine .inr ⟨.int .i64 (Lib.indexByte a0 a1.toNat.toUInt8),w,?_,_,c,_,m,rfl,⟨rfl,rfl⟩,h1,.refl q c m w,.lit .nil⟩;rw [run_callFunc_extern (fn:=f199) (e:=Extern.BytealgIndexByte.indexByte) func199 (by kernel_rfl) (by kernel_rfl) (by kernel_rfl) (by rfl)];have:=Lib.run_indexByteString (P:=prog) (bs a0) a1 w;rw [this];rfl
def vH (f:cQ->Int->Option Int):Prop:=∀a0 a1 r,f a0 a1=some r->∀(q:Pa) (m:M) (vs:List V),vs.map V.weak1=[.lit (.string (bs a0)),.lit (.int .u8 a1)]->SC prog 169 vs q m (fun v Y=>v=.lit (.int .i64 r)/\Y=m)
theorem uY:vH (nT):=by
 intro a0 a1 r h q m vs hv;refine SC.wv hv (eD func169 call169 ntmps169 results169 ?_);unfold nT at h;refine aL ?_;refine aF ?_;obtain ⟨x1,h2,h⟩:=aA h;refine aP fun _ z=>?_;simp only [go_sem,seval];refine SC.bA (tU a0 a1 _ h2 _ _ _) ?_;simp only [go_sem,seval];apply z;refine aO ?_;cases h;exact jS
def Ek (f:cQ->Int->Option Int):Prop:=∀a0 a1 r,f a0 a1=some r->∀(q:Pa) (m:M) (vs:List V),vs.map V.weak1=[.lit (.string (bs a0)),.lit (.int .u8 a1)]->SC prog 128 vs q m (fun v Y=>v=.lit (.int .i64 r)/\Y=m)
theorem sO:Ek (oM):=by
 intro a0 a1 r h q m vs hv;refine SC.wv hv (eD func128 call128 ntmps128 results128 ?_);unfold oM at h;refine aL ?_;refine aF ?_;obtain ⟨x1,h2,h⟩:=aA h;refine aP fun _ z=>?_;simp only [go_sem,seval];refine SC.bA (uY a0 a1 _ h2 _ _ _) ?_;simp only [go_sem,seval];apply z;refine aO ?_;cases h;exact jS
def Mp (f:cQ->Int->Option Int):Prop:=∀a0 a1 r,f a0 a1=some r->∀(q:Pa) (m:M) (vs:List V),vs.map V.weak1=[.lit (.string (bs a0)),.lit (.int .i64 a1)]->SC prog 78 vs q m (fun v Y=>v=.lit (.int .i64 r)/\Y=m)
theorem Gi (n:Nat):Mp (BE n):=by
 intro a0 a1 r h q m vs hv;refine SC.wv hv (eD func78 call78 ntmps78 results78 ?_);unfold BE at h;refine aL ?_;refine aF (bM ?_);obtain ⟨y3,j3,h⟩:=aA h;refine kX (fun c X Y=>∃v2,sQ a0 c v2=some y3/\X 0=.lit (.string (bs a0))/\X 1=.lit (.int .i64 v2)/\Y.gl=m.gl/\m.back q Y=m) n ⟨a1,j3,?_⟩ ?_
 ·simp only [go_sem,seval,bK]
 rintro i1 c4 E5 m6 ⟨v2,j3,e7⟩ _
 rcases c4 with _ | c4
 ·cases j3
 rw [sQ] at j3;refine aF (aL ?_);refine bH j3 (fun c8 j3=>?_) (fun c8 j3=>?_)
 ·refine aU ?_
  refine bM (bM (aF ?_));obtain ⟨x9,h14,j3⟩:=aA j3;obtain ⟨f11,f12,f13⟩:=aZ h14;obtain ⟨x10,h15,j3⟩:=aA j3;refine aP fun _ z=>?_;simp only [go_sem,seval,f11,f12,f13,e7];refine SC.bA (Jy (x9.toNat:Int) _ h15 _ _ _) ?_;simp only [go_sem,seval];apply z;refine bH j3 (fun c16 j3=>?_) (fun c16 j3=>?_)
  ·refine eR fun _ z=>?_;simp only [go_sem,seval,c16,e7];apply z;simp only [aK,aQ];refine ⟨c4,xQ _,(i64.wrap (v2+1)),j3,?_⟩;simp only [go_sem,seval,e7]
  ·refine aF ?_;obtain ⟨⟨f18,f19⟩,j3⟩:=bP j3;obtain ⟨x17,h20,j3⟩:=aA j3;refine aP fun _ z=>?_;simp only [go_sem,seval,f11,c16,f19,e7];refine SC.bA (wR (a0.drop v2.toNat) ([47,47]:cQ) _ h20 _ _ _) ?_;simp only [go_sem,seval];apply z;refine bH j3 (fun c21 j3=>?_) (fun c21 j3=>?_)
   ·refine aF ?_;obtain ⟨⟨f23,f24⟩,j3⟩:=bP j3;obtain ⟨x22,h25,j3⟩:=aA j3;refine aP fun _ z=>?_;simp only [go_sem,seval,f11,f19,c21,e7];refine SC.bA (sO (a0.drop v2.toNat) 10 _ h25 _ _ _) ?_;simp only [go_sem,seval];apply z;refine aF (aL ?_);refine bH j3 (fun c26 j3=>?_) (fun c26 j3=>?_)
    ·refine aL ?_;refine aO ?_
     try simp only [aT,bI]
     cases j3;simp only [Es] at h;cases h;exact jS
    ·refine aU ?_
     refine eR fun _ z=>?_;simp only [go_sem,seval,c26,e7];apply z;simp only [aK,aQ];refine ⟨c4,xQ _,(i64.wrap (v2+x22)),j3,?_⟩;simp only [go_sem,seval,e7]
   ·refine aL ?_;refine aO ?_
    try simp only [aT,bI]
    cases j3;simp only [Es] at h;cases h;exact jS
 ·refine dQ ?_
  try simp only [bZ,bR,↓reduceIte,aK]
  cases j3;simp only [GH] at h;refine aL ?_;refine aO ?_;cases h;exact jS
def JA (f:Int->Option Bool):Prop:=∀a0 r,f a0=some r->∀(q:Pa) (m:M) (vs:List V),vs.map V.weak1=[.lit (.int .u8 a0)]->SC prog 130 vs q m (fun v Y=>v=.lit (.bool r)/\Y=m)
theorem AZ:JA (wI):=by
 intro a0 r h q m vs hv;refine SC.wv hv (eD func130 call130 ntmps130 results130 ?_);unfold wI at h;refine aL ?_;refine aF ?_;obtain ⟨y1,j1,h⟩:=aA h;refine fX 12 (fun X Y=>X 2=.lit (.bool y1)/\Y.gl=m.gl/\m.back q Y=m) ?_ ?_
 ·rcases dD j1 with ⟨c2,j1⟩ | ⟨c2,j1⟩
  ·
   rcases dD j1 with ⟨c3,j1⟩ | ⟨c3,j1⟩
   ·refine cH ?_;cases j1;exact jD
   ·refine cH ?_;cases j1;exact jD
  ·refine cH ?_;cases j1;exact jD
 ·intro E4 m5 e6 _;refine aO ?_;cases h;exact jS
def Li (f:Int->Option Bool):Prop:=∀a0 r,f a0=some r->∀(q:Pa) (m:M) (vs:List V),vs.map V.weak1=[.lit (.int .u8 a0)]->SC prog 131 vs q m (fun v Y=>v=.lit (.bool r)/\Y=m)
theorem Fg:Li (yC):=by
 intro a0 r h q m vs hv;refine SC.wv hv (eD func131 call131 ntmps131 results131 ?_);unfold yC at h;refine aL ?_;refine aF ?_;obtain ⟨y1,j1,h⟩:=aA h;refine fX 8 (fun X Y=>X 2=.lit (.bool y1)/\Y.gl=m.gl/\m.back q Y=m) ?_ ?_
 ·rcases dD j1 with ⟨c2,j1⟩ | ⟨c2,j1⟩
  ·refine cH ?_;cases j1;exact jD
  ·refine cH ?_;cases j1;exact jD
 ·intro E3 m4 e5 _;refine aO ?_;cases h;exact jS
def Mo (f:cQ->Option cQ):Prop:=∀a0 r,f a0=some r->∀(q:Pa) (m:M) (vs:List V),vs.map V.weak1=[.lit (.string (bs a0))]->SC prog 129 vs q m (fun v Y=>v=.lit (.string (bs r))/\Y=m)
theorem Lb (n:Nat):Mo (DF n):=by
 intro a0 r h q m vs hv;refine SC.wv hv (eD func129 call129 ntmps129 results129 ?_);unfold DF at h;refine aL ?_;refine aF (aL ?_);refine bM ?_;obtain ⟨y3,j3,h⟩:=aA h;refine kX (fun c X Y=>∃v2,uO a0 c v2=some y3/\X 0=.lit (.string (bs a0))/\X 5=.lit (.int .i64 (a0.length:Int))/\X 6=.lit (.int .i64 v2)/\Y.gl=m.gl/\m.back q Y=m) n ⟨0,j3,?_⟩ ?_
 ·simp only [go_sem,seval,bK]
 rintro i1 c4 E5 m6 ⟨v2,j3,e7⟩ _
 rcases c4 with _ | c4
 ·cases j3
 rw [uO] at j3;refine aL ?_;refine aF (bH j3 (fun c8 j3=>?_) (fun c8 j3=>?_))
 ·refine aU ?_
  refine aF (bM (aL ?_));refine aF ?_;obtain ⟨y9,j9,j3⟩:=aA j3;refine fX 15 (fun X Y=>X 0=.lit (.string (bs a0))/\X 3=.lit (.int .i64 v2)/\X 5=.lit (.int .i64 (a0.length:Int))/\X 6=.lit (.int .i64 v2)/\X 20=.lit (.bool y9)/\Y.gl=m.gl/\m.back q Y=m) ?_ ?_
  ·obtain ⟨x10,h15,j9⟩:=aA j9;obtain ⟨f12,f13,f14⟩:=aZ h15;obtain ⟨x11,h16,j9⟩:=aA j9
   rcases dD j9 with ⟨c17,j9⟩ | ⟨c17,j9⟩
   ·obtain ⟨x18,h19,j9⟩:=aA j9;refine aP fun _ z=>?_;simp only [go_sem,seval,f12,f14,e7];refine SC.bA (AZ (x10.toNat:Int) _ h16 _ _ _) ?_;simp only [go_sem,seval,f12,f14,c17,e7];refine SC.bA (Fg (x10.toNat:Int) _ h19 _ _ _) ?_;simp only [go_sem,seval];apply z;cases j9;exact jD
   ·refine aP fun _ z=>?_;simp only [go_sem,seval,f12,f14,e7];refine SC.bA (AZ (x10.toNat:Int) _ h16 _ _ _) ?_;simp only [go_sem,seval,c17];apply z;cases j9;exact jD
  ·intro E20 m21 e22 _;refine bH j3 (fun c23 j3=>?_) (fun c23 j3=>?_)
   ·refine aF ?_;obtain ⟨⟨f24,f25⟩,j3⟩:=bP j3;refine cH ?_;refine aO ?_
    try simp only [aT,bI]
    cases j3;simp only [Es] at h;cases h;exact jS
   ·refine aU ?_
    try simp only [aK,aQ]
    refine cH ?_;refine ⟨c4,xQ _,(i64.wrap (v2+1)),j3,?_⟩;simp only [go_sem,seval,e22]
 ·refine dQ ?_
  try simp only [bZ,bR,↓reduceIte,aK]
  cases j3;simp only [GH] at h;refine aL ?_;refine aO ?_;cases h;exact jS
def vJ (f:cQ->cQ->Option (cQ × Bool)):Prop:=∀a0 a1 r,f a0 a1=some r->∀(q:Pa) (m:M) (vs:List V),vs.map V.weak1=[.lit (.string (bs a0)),.lit (.string (bs a1))]->SC prog 200 vs q m (fun v Y=>v=.tup [.lit (.string (bs r.1)),.lit (.bool r.2)]/\Y=m)
theorem uZ:vJ (kE):=by
 intro a0 a1 r h q m vs hv;refine SC.wv hv (eD func200 call200 ntmps200 results200 ?_);unfold kE at h;refine aL ?_;refine aF (aF ?_);obtain ⟨x1,h2,h⟩:=aA h;refine aP fun _ z=>?_;simp only [go_sem,seval];refine SC.bA (pS a0 a1 _ h2 _ _ _) ?_;simp only [go_sem,seval];apply z;refine bH h (fun c3 h=>?_) (fun c3 h=>?_)
 ·refine aL ?_;refine aO ?_
  try simp only [aT]
  cases h;exact jS
 ·refine aU ?_
  refine aF ?_;obtain ⟨⟨f4,f5⟩,h⟩:=bP h;refine cH ?_;refine aO ?_;cases h;exact jS
def Em (f:cQ->cQ->Option (cQ × Bool)):Prop:=∀a0 a1 r,f a0 a1=some r->∀(q:Pa) (m:M) (vs:List V),vs.map V.weak1=[.lit (.string (bs a0)),.lit (.string (bs a1))]->SC prog 170 vs q m (fun v Y=>v=.tup [.lit (.string (bs r.1)),.lit (.bool r.2)]/\Y=m)
theorem Dr:Em (qC):=by
 intro a0 a1 r h q m vs hv;refine SC.wv hv (eD func170 call170 ntmps170 results170 ?_);unfold qC at h;refine aL ?_;refine aF ?_;obtain ⟨x1,h2,h⟩:=aA h;refine aP fun _ z=>?_;simp only [go_sem,seval];refine SC.bA (uZ a0 a1 _ h2 _ _ _) ?_;simp only [go_sem,seval];apply z;refine aO ?_;cases h;exact jS
def Lc (f:cQ->Option (Int × Bool)):Prop:=∀a0 r,f a0=some r->∀(q:Pa) (m:M) (vs:List V),vs.map V.weak1=[.lit (.string (bs a0))]->SC prog 132 vs q m (fun v Y=>v=.tup [.lit (.int .u32 r.1),.lit (.bool r.2)]/\Y=m)
theorem Jx (n:Nat):Lc (BD n):=by
 intro a0 r h q m vs hv;refine SC.wv hv (eD func132 call132 ntmps132 results132 ?_);unfold BD at h;refine aL ?_;refine aL ?_;refine aF (aF ?_);obtain ⟨x1,h2,h⟩:=aA h;refine aP fun _ z=>?_;simp only [go_sem,seval];refine SC.bA (Dr a0 ([48,120]:cQ) _ h2 _ _ _) ?_;simp only [go_sem,seval];apply z;refine aL ?_;refine bH h (fun c3 h=>?_) (fun c3 h=>?_)
 ·refine cH ?_;refine aL ?_;refine aF (aL ?_);refine bM ?_;obtain ⟨y7,j7,h⟩:=aA h;refine kX (fun c X Y=>∃v5 v6,tE x1 c v5 v6=some y7/\X 0=.lit (.string (bs x1.1))/\X 4=.lit (.int .i64 16)/\X 7=.lit (.int .i64 v5)/\X 18=.lit (.int .i64 (x1.1.length:Int))/\X 19=.lit (.int .i64 v6)/\Y.gl=m.gl/\m.back q Y=m) n ⟨0,0,j7,?_⟩ ?_
  ·simp only [go_sem,seval,bK]
  rintro i4 c8 E9 m10 ⟨v5,v6,j7,e11⟩ _
  rcases c8 with _ | c8
  ·cases j7
  rw [tE] at j7;refine aL ?_;refine aF (bH j7 (fun c12 j7=>?_) (fun c12 j7=>?_))
  ·refine aU ?_
   refine aF (bM (aL ?_));refine aF ?_;obtain ⟨⟨f15,f16⟩,j7⟩:=bP j7;obtain ⟨x13,h20,j7⟩:=aA j7;obtain ⟨f17,f18,f19⟩:=aZ h20;obtain ⟨x14,h21,j7⟩:=aA j7;refine eC (o0 [0,1,2,3,4,5,6]) 10 fun _ z=>?_;simp only [go_sem,seval,f15,f17,f19,e11];refine sF (sO (([48,49,50,51,52,53,54,55,56,57,97,98,99,100,101,102]:cQ).take (16:Int).toNat) (x13.toNat:Int) _ h21 _ _ _) ?_;simp only [go_sem,seval];apply z;refine aL ?_;refine aF ?_;obtain ⟨y22,j22,j7⟩:=aA j7;refine fX 22 (fun X Y=>X 0=.lit (.string (bs x1.1))/\X 4=.lit (.int .i64 16)/\X 7=.lit (.int .i64 (i64.wrap ((i64.wrap (v5*16))+x14)))/\X 18=.lit (.int .i64 (x1.1.length:Int))/\X 19=.lit (.int .i64 v6)/\X 38=.lit (.bool y22)/\Y.gl=m.gl/\m.back q Y=m) ?_ ?_
   ·rcases dD j22 with ⟨c23,j22⟩ | ⟨c23,j22⟩
    ·refine cH ?_;cases j22;exact jD
    ·refine cH ?_;cases j22;exact jD
   ·intro E24 m25 e26 _;refine bH j7 (fun c27 j7=>?_) (fun c27 j7=>?_)
    ·refine aL ?_;refine aO ?_
     try simp only [aT,bI]
     cases j7;simp only [Es] at h;cases h;exact jS
    ·refine aU ?_
     try simp only [aK,aQ]
     refine cH ?_;refine ⟨c8,xQ _,(i64.wrap ((i64.wrap (v5*16))+x14)),(i64.wrap (v6+1)),j7,?_⟩;simp only [go_sem,seval,e26]
  ·refine dQ ?_
   try simp only [bZ,bR,↓reduceIte,aK]
   cases j7;simp only [GH] at h;refine aL ?_;refine aO ?_;cases h;exact jS
 ·refine aU ?_
  refine aL ?_;refine aF (aL ?_);refine bM ?_;obtain ⟨y31,j31,h⟩:=aA h;refine kX (fun c X Y=>∃v29 v30,tD a0 c v29 v30=some y31/\X 0=.lit (.string (bs a0))/\X 4=.lit (.int .i64 10)/\X 7=.lit (.int .i64 v29)/\X 18=.lit (.int .i64 (a0.length:Int))/\X 19=.lit (.int .i64 v30)/\Y.gl=m.gl/\m.back q Y=m) n ⟨0,0,j31,?_⟩ ?_
  ·simp only [go_sem,seval,bK]
  rintro i28 c32 E33 m34 ⟨v29,v30,j31,e35⟩ _
  rcases c32 with _ | c32
  ·cases j31
  rw [tD] at j31;refine aL ?_;refine aF (bH j31 (fun c36 j31=>?_) (fun c36 j31=>?_))
  ·refine aU ?_
   refine aF (bM (aL ?_));refine aF ?_;obtain ⟨⟨f39,f40⟩,j31⟩:=bP j31;obtain ⟨x37,h44,j31⟩:=aA j31;obtain ⟨f41,f42,f43⟩:=aZ h44;obtain ⟨x38,h45,j31⟩:=aA j31;refine eC (o0 [0,1,2,3,4,5,6]) 10 fun _ z=>?_;simp only [go_sem,seval,f39,f41,f43,e35];refine sF (sO (([48,49,50,51,52,53,54,55,56,57,97,98,99,100,101,102]:cQ).take (10:Int).toNat) (x37.toNat:Int) _ h45 _ _ _) ?_;simp only [go_sem,seval];apply z;refine aL ?_;refine aF ?_;obtain ⟨y46,j46,j31⟩:=aA j31;refine fX 22 (fun X Y=>X 0=.lit (.string (bs a0))/\X 4=.lit (.int .i64 10)/\X 7=.lit (.int .i64 (i64.wrap ((i64.wrap (v29*10))+x38)))/\X 18=.lit (.int .i64 (a0.length:Int))/\X 19=.lit (.int .i64 v30)/\X 38=.lit (.bool y46)/\Y.gl=m.gl/\m.back q Y=m) ?_ ?_
   ·rcases dD j46 with ⟨c47,j46⟩ | ⟨c47,j46⟩
    ·refine cH ?_;cases j46;exact jD
    ·refine cH ?_;cases j46;exact jD
   ·intro E48 m49 e50 _;refine bH j31 (fun c51 j31=>?_) (fun c51 j31=>?_)
    ·refine aL ?_;refine aO ?_
     try simp only [aT,bI]
     cases j31;simp only [Es] at h;cases h;exact jS
    ·refine aU ?_
     try simp only [aK,aQ]
     refine cH ?_;refine ⟨c32,xQ _,(i64.wrap ((i64.wrap (v29*10))+x38)),(i64.wrap (v30+1)),j31,?_⟩;simp only [go_sem,seval,e50]
  ·refine dQ ?_
   try simp only [bZ,bR,↓reduceIte,aK]
   cases j31;simp only [GH] at h;refine aL ?_;refine aO ?_;cases h;exact jS
def Mq (f:cQ->Option cQ):Prop:=∀a0 r,f a0=some r->∀(q:Pa) (m:M) (vs:List V),vs.map V.weak1=[.lit (.string (bs a0))]/\m.gl 1=.eptr [(cA cS fO)] 0 0->SC prog 133 vs q m (fun v Y=>v=.lit (.string (bs r))/\Y=m)
theorem Ld (n:Nat):Mq (DG n):=by
 rintro a0 r h q m vs ⟨hv,hg1⟩;refine SC.wv hv (eD func133 call133 ntmps133 results133 ?_);unfold DG at h;refine aL ?_;refine aF (aL ?_);refine bM ?_;obtain ⟨y3,j3,h⟩:=aA h;refine kX (fun c X Y=>∃v2,uP a0 c v2=some y3/\X 0=.lit (.string (bs a0))/\X 5=.agg ((cA cS fO))/\X 6=.lit (.int .i64 v2)/\Y.gl=m.gl/\m.back q Y=m) n ⟨0,j3,?_⟩ ?_
 ·simp only [go_sem,seval,bK]
 rintro i1 c4 E5 m6 ⟨v2,j3,e7⟩ _
 rcases c4 with _ | c4
 ·cases j3
 rw [uP] at j3;refine aL ?_;refine aF (bH j3 (fun c8 j3=>?_) (fun c8 j3=>?_))
 ·refine aU ?_
  refine aF (bM (aF ?_));obtain ⟨x9,h13,j3⟩:=aA j3;obtain ⟨f10,f11,f12⟩:=aZ h13;have f14:v2<26:=f11;obtain ⟨w15,d16⟩:=CA (f:=cS) (s:=1) (fun _ _=>rfl) f12;simp only [go_sem] at d16;refine aP fun _ z=>?_;simp only [go_sem,seval,f10,f14,d16,e7];apply z;refine aF ?_;obtain ⟨x17,h18,j3⟩:=aA j3;refine aP fun _ z=>?_;simp only [go_sem,seval,e7];refine SC.bA (wR a0 x9 _ h18 _ _ _) ?_;simp only [go_sem,seval];apply z;refine bH j3 (fun c19 j3=>?_) (fun c19 j3=>?_)
  ·refine aL ?_;refine aO ?_
   try simp only [aT,bI]
   cases j3;simp only [Es] at h;cases h;exact jS
  ·refine aU ?_
   try simp only [aK,aQ]
   refine cH ?_;refine ⟨c4,xQ _,(i64.wrap (v2+1)),j3,?_⟩;simp only [go_sem,seval,e7]
 ·refine dQ ?_
  try simp only [bZ,bR,↓reduceIte,aK]
  cases j3;simp only [GH] at h;refine aL ?_;refine aO ?_;cases h;exact jS
def Mr (f:cQ->Int->Option (dM × Int)):Prop:=∀a0 a1 r,f a0 a1=some r->∀(q:Pa) (m:M) (vs:List V),vs.map V.weak1=[.lit (.string (bs a0)),.lit (.int .i64 a1)]/\m.gl 1=.eptr [(cA cS fO)] 0 0->SC prog 79 vs q m (fun v Y=>v=.tup [.agg ((dM.C r.1)),.lit (.int .i64 r.2)]/\Y=m)
theorem Lg (n:Nat):Mr (DH n):=by
 rintro a0 a1 r h q m vs ⟨hv,hg1⟩;refine SC.wv hv (eD func79 call79 ntmps79 results79 ?_);unfold DH at h;refine aL ?_;refine aF ?_;obtain ⟨⟨f4,f5⟩,h⟩:=bP h;obtain ⟨x2,h6,h⟩:=aA h;refine aP fun _ z=>?_;simp only [go_sem,seval,f4,f5];refine SC.bA (Lb n (a0.drop a1.toNat) _ h6 _ _ _) ?_;simp only [go_sem,seval];apply z;refine aF (bM (aF ?_));obtain ⟨x7,h12,h⟩:=aA h;obtain ⟨f9,f10,f11⟩:=aZ h12;obtain ⟨x8,h13,h⟩:=aA h;refine aP fun _ z=>?_;simp only [go_sem,seval,f4,f11];refine SC.bA (AZ (x7.toNat:Int) _ h13 _ _ _) ?_;simp only [go_sem,seval];apply z;refine bH h (fun c14 h=>?_) (fun c14 h=>?_)
 ·refine aF (aL ?_);refine bH h (fun c15 h=>?_) (fun c15 h=>?_)
  ·refine aL ?_;refine aO ?_
   try simp only [aT,bI]
   cases h;exact jS
  ·refine aU ?_
   refine aL ?_;refine aO ?_
   try simp only [aT,bI]
   cases h;exact jS
 ·refine aF ?_;obtain ⟨x16,h17,h⟩:=aA h;refine aP fun _ z=>?_;simp only [go_sem,seval,f4,f11,c14];refine SC.bA (Fg (x7.toNat:Int) _ h17 _ _ _) ?_;simp only [go_sem,seval];apply z;refine bH h (fun c18 h=>?_) (fun c18 h=>?_)
  ·refine aF ?_;obtain ⟨x19,h20,h⟩:=aA h;refine aP fun _ z=>?_;simp only [go_sem,seval,c18];refine SC.bA (Jx n x2 _ h20 _ _ _) ?_;simp only [go_sem,seval];apply z;refine aF (aL ?_);refine bH h (fun c21 h=>?_) (fun c21 h=>?_)
   ·refine aL ?_;refine aO ?_
    try simp only [aT,bI]
    cases h;exact jS
   ·refine aU ?_
    refine aL ?_;refine aL ?_;refine aO ?_
    try simp only [aT,bI]
    cases h;exact jS
  ·refine aU ?_
   try simp only [aK,aQ]
   refine aF ?_;obtain ⟨⟨f23,f24⟩,h⟩:=bP h;obtain ⟨x22,h25,h⟩:=aA h;refine aP fun _ z=>?_;simp only [go_sem,seval,f4,f5,c18];refine SC.bA (Ld n (a0.drop a1.toNat) _ h25 _ _ _) ?_;simp only [go_sem,seval];apply z;refine aF (aL ?_);refine bH h (fun c26 h=>?_) (fun c26 h=>?_)
   ·refine aL ?_;refine aO ?_
    try simp only [aT]
    cases h;exact jS
   ·refine aU ?_
    refine aL ?_;refine aO ?_;cases h;exact jS
def Jz (f:cQ->Option ((List dM) × Int × Int)):Prop:=∀a0 r,f a0=some r->∀(q:Pa) (m:M) (vs:List V),vs.map V.weak1=[.list .none (nQ a0)]/\m.gl 1=.eptr [(cA cS fO)] 0 0->SC prog 49 vs q m (fun v Y=>v=.tup [.list .none (r.1.map dM.C),.lit (.int .i64 r.2.1),.lit (.int .i64 r.2.2)]/\Y=m)
theorem Ie (n:Nat):Jz (zE n):=by
 rintro a0 r h q m vs ⟨hv,hg1⟩;refine SC.wv hv (eD func49 call49 ntmps49 results49 ?_);unfold zE at h;refine aL ?_;refine aF (aL ?_);refine bH h (fun c1 h=>?_) (fun c1 h=>?_)
 ·refine aL ?_;refine aO ?_
  try simp only [aT]
  cases h;exact jS
 ·refine aU ?_
  refine aL ?_;refine aL ?_;refine aF (aF ?_);obtain ⟨x2,h3,h⟩:=aA h;refine aP fun _ z=>?_;simp only [go_sem,seval];refine SC.bA (Gi n a0 0 _ h3 _ _ _) ?_;simp only [go_sem,seval];apply z;refine bM ?_;obtain ⟨y7,j7,h⟩:=aA h;refine zL 6 ([].map dM.C) rfl (by simp only [go_sem,seval]) ?_;refine kX (fun c X Y=>∃v5 v6 o_v5 j_v5,sD n a0 c v5 v6=some y7/\X 5=.lit (.string (bs a0))/\X 6=.list (.st (.anon o_v5 j_v5)) (v5.map dM.C)/\Y.tok o_v5 j_v5=true/\q <:+ o_v5/\X 7=.lit (.int .i64 v6)/\Y.gl=m.gl/\m.back q Y=m) n ⟨[],x2,(13::q),0,j7,?_⟩ ?_
  ·simp only [go_sem,seval,cG,bK]
  rintro i4 c8 E9 m10 ⟨v5,v6,o_v5,j_v5,j7,e11⟩ _
  rcases c8 with _ | c8
  ·cases j7
  rw [sD] at j7;refine aF (aL ?_);refine bH j7 (fun c12 j7=>?_) (fun c12 j7=>?_)
  ·refine aU ?_
   refine aF (bM (aF ?_));obtain ⟨x13,h15,j7⟩:=aA j7;refine aP fun _ z=>?_;simp only [go_sem,seval,c12,e11];refine SC.bA (Lg n a0 v6 _ h15 _ _ _) ?_;simp only [go_sem,seval];apply z;refine aF (aL ?_);refine bH j7 (fun c16 j7=>?_) (fun c16 j7=>?_)
   ·refine aL ?_;refine aO ?_
    try simp only [aT,bI]
    cases j7;simp only [Es] at h;cases h;exact jS
   ·refine aU ?_
    refine aF ?_;obtain ⟨f17,j7⟩:=bP j7;have f18:v5.length+1<=1073741824:=by first | omega | (simp only [nC,jC,lA] at f17 ⊢;omega)
    have f19:v5.length<=1073741823:=by first | omega | (simp only [nC,jC,lA] at f17 ⊢;omega)
    refine cH ?_;refine eR fun _ z=>?_;simp only [go_sem,seval,e11];apply z;simp only [aK,aQ];obtain ⟨x20,h21,j7⟩:=aA j7;refine aP fun _ z=>?_;simp only [go_sem,seval,e11];refine SC.bA (Gi n a0 (i64.wrap (v6+(x13.1.cP.length:Int))) _ h21 _ _ _) ?_;simp only [go_sem,seval];apply z;refine ⟨c8,xQ _,(v5++[x13.1]),x20,(18::i4::14::q),0,j7,?_⟩;simp only [go_sem,seval,bF,cG,e11]
  ·refine dQ ?_
   try simp only [bZ,bR,↓reduceIte,aK]
   cases j7;simp only [GH] at h;refine aF ?_;obtain ⟨f22,h⟩:=bP h;have f23:v5.length+1<=1073741824:=by first | omega | (simp only [nC,jC,lA] at f22 ⊢;omega)
   have f24:v5.length<=1073741823:=by first | omega | (simp only [nC,jC,lA] at f22 ⊢;omega)
   refine cH ?_;refine aO ?_;cases h;exact jS
def Cc (f:aC->Option dM):Prop:=∀a0 r,f a0=some r->∀(q:Pa) (m:M) (vs:List V) (P0:Pa),vs.map V.weak1=[.ptr P0 0]/\m.blk P0=some ((aC.C a0))->SC prog 51 vs q m (fun v Y=>v=.agg ((dM.C r))/\Y=m)
theorem gL:Cc (eU):=by
 rintro a0 r h q m vs P0 ⟨hv,hmP0⟩;refine SC.wv hv ?_;refine SC.apart hmP0 fun hpP0=>?_
 try simp only [go_sem] at hmP0
 refine eD func51 call51 ntmps51 results51 ?_;unfold eU at h;refine aL ?_;refine aF ?_;obtain ⟨x2,h6,h⟩:=aA h;obtain ⟨f3,f4,f5⟩:=aZ h6;refine BN (o0 [0,1,2,3,4,5,6,7,8,9,10]) 12 ?_;refine aO ?_;cases h;exact jS
def Da (f:aC->Int->Option aC):Prop:=∀a0 a1 r,f a0 a1=some r->∀(q:Pa) (m:M) (vs:List V) (P0:Pa),vs.map V.weak1=[.ptr P0 0,.lit (.int .i64 a1)]/\m.blk P0=some ((aC.C a0))->SC prog 80 vs q m (fun v Y=>v=.tup []/\Y=(m.set P0 ((aC.C r))))
theorem lY:Da (iA):=by
 rintro a0 a1 r h q m vs P0 ⟨hv,hmP0⟩;refine SC.wv hv ?_;refine SC.ap hmP0 fun hpP0 l0=>?_
 try simp only [go_sem] at hmP0 l0
 refine eD func80 call80 ntmps80 results80 ?_;unfold iA at h;refine aL ?_;refine bH h (fun c1 h=>?_) (fun c1 h=>?_)
 ·obtain ⟨x2,h3,h⟩:=aA h;refine eR fun _ z=>?_;simp only [go_sem,seval,c1];refine SC.bA (gL a0 _ h3 _ _ _ P0) ?_;simp only [go_sem,seval,hmP0];apply z;simp only [];cases h;exact jS
 ·refine aU ?_;cases h;exact jS
def CX (f:aC->Int->Option (aB × aC)):Prop:=∀a0 a1 r,f a0 a1=some r->∀(q:Pa) (m:M) (vs:List V) (P0:Pa),vs.map V.weak1=[.ptr P0 0,.lit (.int .i64 a1)]/\m.blk P0=some ((aC.C a0))->SC prog 50 vs q m (fun v Y=>∃(id:Pa) (j:Nat),q <:+ id/\v=.agg ([.lit (.int .i64 r.1.bX),.lit (.int .i64 r.1.fR),.lit (.string (bs r.1.cP)),.lit (.int .u32 r.1.mM),.list (.st (.anon id j)) (r.1.aM.map aB.C)])/\Y=(m.set P0 ((aC.C r.2))).tokset id j true)
theorem gR:CX (fE):=by
 rintro a0 a1 r h q m vs P0 ⟨hv,hmP0⟩;refine SC.wv hv ?_;refine SC.ap hmP0 fun hpP0 l0=>?_
 try simp only [go_sem] at hmP0 l0
 refine So func50 rfl (fun xs w=>call50 xs w) ntmps50 (by kernel_rfl) ?_;unfold fE at h;refine aL ?_;refine aF (aL ?_);refine aL ?_;refine bH h (fun c2 h=>?_) (fun c2 h=>?_)
 ·obtain ⟨x3,h4,h⟩:=aA h;refine aP fun _ z=>?_;simp only [go_sem,seval,c2];refine SC.bA (lY ({ a0 with sP:=(i64.wrap (a0.sP+1)) }:aC) 136 _ h4 _ _ _ P0) ?_;simp only [go_sem,seval];apply z;refine aF ?_;obtain ⟨x5,h6,h⟩:=aA h;refine aP fun _ z=>?_;simp only [go_sem,seval];refine SC.bA (gL x3 _ h6 _ _ _ P0) ?_;simp only [go_sem,seval,eO hpP0];apply z;refine aO ?_;cases h;refine ⟨by simp,?_⟩;refine ⟨(22::q),0,_,(by simp only [go_sem]),.cell (t:=4) (T:=79) (b:=(0::q)) (cs:=[.lit (.int .i64 a1),.lit (.int .i64 x5.fR),.lit (.string (bs [])),.lit (.int .u32 0),.list .self ([].map aB.C)]) (off:=4) (rows:=([].map aB.C)) (congrArg Array.toList results50) (by simp only [go_sem,seval]) (by simp only [go_sem]) (by simp only [go_sem,seval]) (by simp only [go_sem]) (by simp only [go_sem,seval]) rfl,(22::q),0,(by simp only [go_sem]),?_,?_⟩ <;> simp only [go_sem,bF,dB,bK,dG hpP0]
 ·refine aU ?_
  refine aF ?_;obtain ⟨x7,h8,h⟩:=aA h;refine aP fun _ z=>?_;simp only [go_sem,seval,c2];refine SC.bA (gL ({ a0 with sP:=(i64.wrap (a0.sP+1)) }:aC) _ h8 _ _ _ P0) ?_;simp only [go_sem,seval,eO hpP0];apply z;refine aO ?_;cases h;refine ⟨by simp,?_⟩;refine ⟨(20::q),0,_,(by simp only [go_sem]),.cell (t:=4) (T:=79) (b:=(0::q)) (cs:=[.lit (.int .i64 a1),.lit (.int .i64 x7.fR),.lit (.string (bs [])),.lit (.int .u32 0),.list .self ([].map aB.C)]) (off:=4) (rows:=([].map aB.C)) (congrArg Array.toList results50) (by simp only [go_sem,seval]) (by simp only [go_sem]) (by simp only [go_sem,seval]) (by simp only [go_sem]) (by simp only [go_sem,seval]) rfl,(20::q),0,(by simp only [go_sem]),?_,?_⟩ <;> simp only [go_sem,bF,dB,bK,dG hpP0]
def wA (f:(List cQ)->cQ->Option Int):Prop:=∀a0 a1 r,f a0 a1=some r->∀(q:Pa) (m:M) (vs:List V),vs.map V.weak1=[.list .none (a0.map cS),.lit (.string (bs a1))]->SC prog 201 vs q m (fun v Y=>v=.lit (.int .i64 r)/\Y=m)
theorem vQ (n:Nat):wA (kY n):=by
 intro a0 a1 r h q m vs hv;refine SC.wv hv (eD func201 call201 ntmps201 results201 ?_);unfold kY at h;refine aL ?_;refine aF (aL ?_);refine bM ?_;obtain ⟨y3,j3,h⟩:=aA h;refine kX (fun c X Y=>∃v2,fY a0 a1 c v2=some y3/\X 0=.list .none (a0.map cS)/\X 1=.lit (.string (bs a1))/\X 7=.lit (.int .i64 (a0.length:Int))/\X 8=.lit (.int .i64 v2)/\Y.gl=m.gl/\m.back q Y=m) n ⟨0,j3,?_⟩ ?_
 ·simp only [go_sem,seval,bK]
 rintro i1 c4 E5 m6 ⟨v2,j3,e7⟩ _
 rcases c4 with _ | c4
 ·cases j3
 rw [fY] at j3;refine aL ?_;refine aF (bH j3 (fun c8 j3=>?_) (fun c8 j3=>?_))
 ·refine aU ?_
  refine aF (bM (aL ?_));refine aF ?_;obtain ⟨x9,h13,j3⟩:=aA j3;obtain ⟨f10,f11,f12⟩:=aZ h13;refine cH ?_;refine bH j3 (fun c14 j3=>?_) (fun c14 j3=>?_)
  ·refine aL ?_;refine aO ?_
   try simp only [aT,bI]
   cases j3;simp only [Es] at h;cases h;exact jS
  ·refine aU ?_
   try simp only [aK,aQ]
   refine cH ?_;refine ⟨c4,xQ _,(i64.wrap (v2+1)),j3,?_⟩;simp only [go_sem,seval,e7]
 ·refine dQ ?_
  try simp only [bZ,bR,↓reduceIte,aK]
  cases j3;simp only [GH] at h;refine aL ?_;refine aO ?_;cases h;exact jS
def uX (f:(List cQ)->cQ->Option Bool):Prop:=∀a0 a1 r,f a0 a1=some r->∀(q:Pa) (m:M) (vs:List V),vs.map V.weak1=[.list .none (a0.map cS),.lit (.string (bs a1))]->SC prog 171 vs q m (fun v Y=>v=.lit (.bool r)/\Y=m)
theorem uC (n:Nat):uX (jO n):=by
 intro a0 a1 r h q m vs hv;refine SC.wv hv (eD func171 call171 ntmps171 results171 ?_);unfold jO at h;refine aL ?_;refine aF ?_;obtain ⟨x1,h2,h⟩:=aA h;refine aP fun _ z=>?_;simp only [go_sem,seval];refine SC.bA (vQ n a0 a1 _ h2 _ _ _) ?_;simp only [go_sem,seval];apply z;refine aO ?_;cases h;exact jS
def Ju (f:cQ->Option Bool):Prop:=∀a0 r,f a0=some r->∀(q:Pa) (m:M) (vs:List V),vs.map V.weak1=[.lit (.string (bs a0))]/\m.gl 2=.eptr [(cA cS cN)] 0 0->SC prog 135 vs q m (fun v Y=>v=.lit (.bool r)/\Y=m)
theorem Eu (n:Nat):Ju (wD n):=by
 rintro a0 r h q m vs ⟨hv,hg2⟩;refine SC.wv hv (eD func135 call135 ntmps135 results135 ?_);unfold wD at h;refine aL ?_;refine aF ?_;obtain ⟨x1,h2,h⟩:=aA h;refine aP fun _ z=>?_;simp only [go_sem,seval,hg2];refine SC.bA (uC n cN a0 _ h2 _ _ _) ?_;simp only [go_sem,seval];apply z;refine aO ?_;cases h;exact jS
def Eo (f:aC->cQ->Option Bool):Prop:=∀a0 a1 r,f a0 a1=some r->∀(q:Pa) (m:M) (vs:List V) (P0:Pa),vs.map V.weak1=[.ptr P0 0,.lit (.string (bs a1))]/\m.blk P0=some ((aC.C a0))/\m.gl 2=.eptr [(cA cS cN)] 0 0->SC prog 134 vs q m (fun v Y=>v=.lit (.bool r)/\Y=m)
theorem oJ (n:Nat):Eo (iZ n):=by
 rintro a0 a1 r h q m vs P0 ⟨hv,hmP0,hg2⟩;refine SC.wv hv ?_;refine SC.apart hmP0 fun hpP0=>?_
 try simp only [go_sem] at hmP0
 refine eD func134 call134 ntmps134 results134 ?_;unfold iZ at h;refine aL ?_;refine aF ?_;obtain ⟨x1,h3,h⟩:=aA h;refine aP fun _ z=>?_;simp only [go_sem,seval];refine SC.bA (gL a0 _ h3 _ _ _ P0) ?_;simp only [go_sem,seval];apply z;refine aF ?_;obtain ⟨y4,j4,h⟩:=aA h;refine fX 31 (fun X Y=>X 4=.lit (.bool y4)/\Y.blk P0=some ((aC.C a0))/\Y.gl=m.gl/\m.back q Y=m) ?_ ?_
 ·rcases dD j4 with ⟨c5,j4⟩ | ⟨c5,j4⟩
  ·
   rcases dD j4 with ⟨c6,j4⟩ | ⟨c6,j4⟩
   ·
    rcases dD j4 with ⟨c7,j4⟩ | ⟨c7,j4⟩
    ·refine cH ?_;cases j4;exact jD
    ·
     rcases dD j4 with ⟨c8,j4⟩ | ⟨c8,j4⟩
     ·obtain ⟨x9,h10,j4⟩:=aA j4;refine aP fun _ z=>?_;simp only [go_sem,seval,eO hpP0,c5,c6,c7,c8,hmP0];refine SC.bA (Eu n a1 _ h10 _ _ _) ?_;simp only [go_sem,seval];apply z;cases j4;exact jD
     ·refine aP fun _ z=>?_;simp only [go_sem,seval,eO hpP0,c5,c6,c7,c8,hmP0];apply z;cases j4;exact jD
   ·refine aP fun _ z=>?_;simp only [go_sem,seval,eO hpP0,c5,c6,hmP0];apply z;cases j4;exact jD
  ·refine aP fun _ z=>?_;simp only [go_sem,seval,eO hpP0,c5,hmP0];apply z;cases j4;exact jD
 ·intro E11 m12 e13 _;refine aO ?_;cases h;exact jS
def CU (f:aC->cQ->Option (Bool × aC)):Prop:=∀a0 a1 r,f a0 a1=some r->∀(q:Pa) (m:M) (vs:List V) (P0:Pa),vs.map V.weak1=[.ptr P0 0,.lit (.string (bs a1))]/\m.blk P0=some ((aC.C a0))/\m.gl 2=.eptr [(cA cS cN)] 0 0->SC prog 81 vs q m (fun v Y=>v=.lit (.bool r.1)/\Y=(m.set P0 ((aC.C r.2))))
theorem cD (n:Nat):CU (cB n):=by
 rintro a0 a1 r h q m vs P0 ⟨hv,hmP0,hg2⟩;refine SC.wv hv ?_;refine SC.ap hmP0 fun hpP0 l0=>?_
 try simp only [go_sem] at hmP0 l0
 refine eD func81 call81 ntmps81 results81 ?_;unfold cB at h;refine aL ?_;refine aF (aF ?_);obtain ⟨x1,h2,h⟩:=aA h;refine aP fun _ z=>?_;simp only [go_sem,seval];refine SC.bA (oJ n a0 a1 _ h2 _ _ _ P0) ?_;simp only [go_sem,seval];apply z;refine bH h (fun c3 h=>?_) (fun c3 h=>?_)
 ·refine aL ?_;refine aO ?_
  try simp only [aT]
  cases h;exact jS
 ·refine aU ?_
  refine aL ?_;refine aL ?_;refine aO ?_;cases h;exact jS
def CY (f:aC->cQ->Option aC):Prop:=∀a0 a1 r,f a0 a1=some r->∀(q:Pa) (m:M) (vs:List V) (P0:Pa),vs.map V.weak1=[.ptr P0 0,.lit (.string (bs a1))]/\m.blk P0=some ((aC.C a0))/\m.gl 2=.eptr [(cA cS cN)] 0 0->SC prog 82 vs q m (fun v Y=>v=.tup []/\Y=(m.set P0 ((aC.C r))))
theorem bW (n:Nat):CY (bS n):=by
 rintro a0 a1 r h q m vs P0 ⟨hv,hmP0,hg2⟩;refine SC.wv hv ?_;refine SC.ap hmP0 fun hpP0 l0=>?_
 try simp only [go_sem] at hmP0 l0
 refine eD func82 call82 ntmps82 results82 ?_;unfold bS at h;refine aF ?_;obtain ⟨x1,h2,h⟩:=aA h;refine aP fun _ z=>?_;simp only [go_sem,seval];refine SC.bA (cD n a0 a1 _ h2 _ _ _ P0) ?_;simp only [go_sem,seval];apply z;refine bH h (fun c3 h=>?_) (fun c3 h=>?_)
 ·obtain ⟨x4,h5,h⟩:=aA h;refine eR fun _ z=>?_;simp only [go_sem,seval,c3];refine SC.bA (lY x1.2 110 _ h5 _ _ _ P0) ?_;simp only [go_sem,seval];apply z;simp only [];cases h;exact jS
 ·refine aU ?_;cases h;exact jS
def CZ (f:aC->Option (cQ × aC)):Prop:=∀a0 r,f a0=some r->∀(q:Pa) (m:M) (vs:List V) (P0:Pa),vs.map V.weak1=[.ptr P0 0]/\m.blk P0=some ((aC.C a0))/\m.gl 2=.eptr [(cA cS cN)] 0 0->SC prog 83 vs q m (fun v Y=>v=.lit (.string (bs r.1))/\Y=(m.set P0 ((aC.C r.2))))
theorem gS (n:Nat):CZ (eP n):=by
 rintro a0 r h q m vs P0 ⟨hv,hmP0,hg2⟩;refine SC.wv hv ?_;refine SC.ap hmP0 fun hpP0 l0=>?_
 try simp only [go_sem] at hmP0 l0
 refine eD func83 call83 ntmps83 results83 ?_;unfold eP at h;refine aL ?_;refine aF ?_;obtain ⟨x1,h3,h⟩:=aA h;refine aP fun _ z=>?_;simp only [go_sem,seval];refine SC.bA (gL a0 _ h3 _ _ _ P0) ?_;simp only [go_sem,seval];apply z;refine aF (aF ?_);obtain ⟨y4,j4,h⟩:=aA h;refine fX 20 (fun X Y=>X 0=.ptr P0 0/\X 3=.ptr (3::q) 0/\X 20=.lit (.bool y4)/\Y.blk P0=some ((aC.C a0))/\Y.blk (3::q)=some ((dM.C x1))/\Y.gl=m.gl/\m.back q Y=(m.set P0 ((aC.C a0)))) ?_ ?_
 ·rcases dD j4 with ⟨c5,j4⟩ | ⟨c5,j4⟩
  ·refine aP fun _ z=>?_;simp only [go_sem,seval,eO hpP0,c5,hmP0];apply z;cases j4;exact jD
  ·
   rcases dD j4 with ⟨c6,j4⟩ | ⟨c6,j4⟩
   ·refine aP fun _ z=>?_;simp only [go_sem,seval,eO hpP0,c5,c6,hmP0];apply z;cases j4;exact jD
   ·obtain ⟨x7,h8,j4⟩:=aA j4;refine aP fun _ z=>?_;simp only [go_sem,seval,eO hpP0,c5,c6,hmP0];refine SC.bA (Eu n x1.cP _ h8 _ _ _) ?_;simp only [go_sem,seval];apply z;cases j4;exact jD
 ·intro E9 m10 e11 _;refine bH h (fun c12 h=>?_) (fun c12 h=>?_)
  ·refine aF ?_;obtain ⟨x13,h14,h⟩:=aA h;refine aP fun _ z=>?_;simp only [go_sem,seval,e11];refine SC.bA (lY a0 110 _ h14 _ _ _ P0) ?_;simp only [go_sem,seval];apply z;refine aL ?_;refine aO ?_
   try simp only [aT]
   cases h;exact jS
  ·refine aU ?_
   refine aL ?_;refine aL ?_;refine aO ?_;cases h;exact jS
def Bn (f:aC->Option (Int × aC)):Prop:=∀a0 r,f a0=some r->∀(q:Pa) (m:M) (vs:List V) (P0:Pa),vs.map V.weak1=[.ptr P0 0]/\m.blk P0=some ((aC.C a0))->SC prog 172 vs q m (fun v Y=>v=.lit (.int .u32 r.1)/\Y=(m.set P0 ((aC.C r.2))))
theorem tR:Bn (kN):=by
 rintro a0 r h q m vs P0 ⟨hv,hmP0⟩;refine SC.wv hv ?_;refine SC.ap hmP0 fun hpP0 l0=>?_
 try simp only [go_sem] at hmP0 l0
 refine eD func172 call172 ntmps172 results172 ?_;unfold kN at h;refine aL ?_;refine aF ?_;obtain ⟨x1,h3,h⟩:=aA h;refine aP fun _ z=>?_;simp only [go_sem,seval];refine SC.bA (gL a0 _ h3 _ _ _ P0) ?_;simp only [go_sem,seval];apply z;refine aF (aF ?_);obtain ⟨y4,j4,h⟩:=aA h;refine fX 15 (fun X Y=>X 0=.ptr P0 0/\X 3=.ptr (3::q) 0/\X 15=.lit (.bool y4)/\Y.blk P0=some ((aC.C a0))/\Y.blk (3::q)=some ((dM.C x1))/\Y.gl=m.gl/\m.back q Y=(m.set P0 ((aC.C a0)))) ?_ ?_
 ·rcases dD j4 with ⟨c5,j4⟩ | ⟨c5,j4⟩
  ·refine aP fun _ z=>?_;simp only [go_sem,seval,eO hpP0,c5,hmP0];apply z;cases j4;exact jD
  ·refine aP fun _ z=>?_;simp only [go_sem,seval,eO hpP0,c5,hmP0];apply z;cases j4;exact jD
 ·intro E6 m7 e8 _;refine bH h (fun c9 h=>?_) (fun c9 h=>?_)
  ·refine aF ?_;obtain ⟨x10,h11,h⟩:=aA h;refine aP fun _ z=>?_;simp only [go_sem,seval,e8];refine SC.bA (lY a0 110 _ h11 _ _ _ P0) ?_;simp only [go_sem,seval];apply z;refine aL ?_;refine aO ?_
   try simp only [aT]
   cases h;exact jS
  ·refine aU ?_
   refine aL ?_;refine aL ?_;refine aO ?_;cases h;exact jS
def CV (f:aC->Option (Int × aC)):Prop:=∀a0 r,f a0=some r->∀(q:Pa) (m:M) (vs:List V) (P0:Pa),vs.map V.weak1=[.ptr P0 0]/\m.blk P0=some ((aC.C a0))/\m.gl 2=.eptr [(cA cS cN)] 0 0->SC prog 136 vs q m (fun v Y=>v=.lit (.int .u32 r.1)/\Y=(m.set P0 ((aC.C r.2))))
theorem vD (n:Nat):CV (mN n):=by
 rintro a0 r h q m vs P0 ⟨hv,hmP0,hg2⟩;refine SC.wv hv ?_;refine SC.ap hmP0 fun hpP0 l0=>?_
 try simp only [go_sem] at hmP0 l0
 refine eD func136 call136 ntmps136 results136 ?_;unfold mN at h;refine aL ?_;refine aF ?_;obtain ⟨x1,h2,h⟩:=aA h;refine aP fun _ z=>?_;simp only [go_sem,seval];refine SC.bA (bW n a0 ([91]:cQ) _ h2 _ _ _ P0) ?_;simp only [go_sem,seval];apply z;refine aF ?_;obtain ⟨x3,h4,h⟩:=aA h;refine aP fun _ z=>?_;simp only [go_sem,seval];refine SC.bA (tR x1 _ h4 _ _ _ P0) ?_;simp only [go_sem,seval];apply z;refine aF ?_;obtain ⟨x5,h6,h⟩:=aA h;refine aP fun _ z=>?_;simp only [go_sem,seval];refine SC.bA (bW n x3.2 ([93]:cQ) _ h6 _ _ _ P0) ?_;simp only [go_sem,seval];apply z;refine aL ?_;refine aO ?_;cases h;exact jS
def Ce (f:aC->Option (aB × aC)):Prop:=∀a0 r,f a0=some r->∀(q:Pa) (m:M) (vs:List V) (P0:Pa),vs.map V.weak1=[.ptr P0 0]/\m.blk P0=some ((aC.C a0))/\m.gl 2=.eptr [(cA cS cN)] 0 0->SC prog 85 vs q m (fun v Y=>v=.agg ((aB.C r.1))/\Y=(m.set P0 ((aC.C r.2))))
theorem Bm (n:Nat):Ce (oI n):=by
 rintro a0 r h q m vs P0 ⟨hv,hmP0,hg2⟩;refine SC.wv hv ?_;refine SC.ap hmP0 fun hpP0 l0=>?_
 try simp only [go_sem] at hmP0 l0
 refine eD func85 call85 ntmps85 results85 ?_;unfold oI at h;refine aL ?_;refine aF ?_;obtain ⟨x2,h4,h⟩:=aA h;refine aP fun _ z=>?_;simp only [go_sem,seval];refine SC.mono (gR a0 3 _ h4 _ _ _ P0 (by simp only [go_sem,seval,gZ hpP0,hmP0])) ?_;rintro _ _ ⟨o_x2,j_x2,s_x2,rfl,rfl⟩;replace s_x2:q <:+ o_x2:=List.IsSuffix.trans (by simp only [go_sem]) s_x2;simp only [go_sem,seval];apply z;refine aF ?_;obtain ⟨x5,h6,h⟩:=aA h;refine aP fun _ z=>?_;simp only [go_sem,seval];refine SC.bA (gS n x2.2 _ h6 _ _ _ P0) ?_;simp only [go_sem,seval,gZ hpP0];apply z;refine aF ?_;obtain ⟨x7,h8,h⟩:=aA h;refine aP fun _ z=>?_;simp only [go_sem,seval];refine SC.bA (bW n x5.2 ([58]:cQ) _ h8 _ _ _ P0) ?_;simp only [go_sem,seval];apply z;refine aF (aL ?_);refine bM ?_;obtain ⟨y14,j14,h⟩:=aA h;refine kX (fun c X Y=>∃v10 v11 v12 v13,jF n c v10 v11 v12 v13=some y14/\X 0=.ptr P0 0/\X 2=.ptr (0::q) 0/\X 3=.ptr (3::q) 0/\X 14=.agg ((cA cS qY))/\X 15=.lit (.int .i64 v10)/\Y.blk P0=some ((aC.C v11))/\Y.blk (0::q)=some ([.lit (.int .i64 v12.bX),.lit (.int .i64 v12.fR),.lit (.string (bs v12.cP)),.lit (.int .u32 v12.mM),.list .self (v12.aM.map aB.C)])/\Y.blk (3::q)=some ([.lit (.int .i64 v13.bX),.lit (.int .i64 v13.fR),.lit (.string (bs v13.cP)),.lit (.int .u32 v13.mM),.list .self (v13.aM.map aB.C)])/\Y.gl=m.gl/\m.back q Y=(m.set P0 ((aC.C v11)))) n ⟨0,x7,(aB.mk 0 0 [] 0 []),({ x2.1 with cP:=x5.1 }:aB),j14,?_⟩ ?_
 ·(simp only [go_sem,seval,bF,dB,cG,bK,dG hpP0,gZ hpP0,s_x2]) <;> (try and_intros) <;> rfl
 rintro i9 c15 E16 m17 ⟨v10,v11,v12,v13,j14,e18⟩ _
 rcases c15 with _ | c15
 ·cases j14
 rw [jF] at j14;refine aL ?_;refine aF (bH j14 (fun c19 j14=>?_) (fun c19 j14=>?_))
 ·refine aU ?_
  refine aF (bM (aF ?_));obtain ⟨x20,h24,j14⟩:=aA j14;obtain ⟨f21,f22,f23⟩:=aZ h24;have f25:v10<3:=f22;obtain ⟨w26,d27⟩:=CA (f:=cS) (s:=1) (fun _ _=>rfl) f23;simp only [go_sem] at d27;have d28:List.drop (v10.toNat) [V.lit (.string (bs ([112,117,98]:cQ))),V.lit (.string (bs ([117,51,50]:cQ))),V.lit (.string (bs ([117,54,52]:cQ)))]=_:=d27;refine aP fun _ z=>?_;simp only [go_sem,seval,f21,f25,d27,e18];apply z;refine aF ?_;obtain ⟨x29,h30,j14⟩:=aA j14;refine aP fun _ z=>?_;simp only [go_sem,seval,e18];refine SC.bA (cD n v11 x20 _ h30 _ _ _ P0) ?_;simp only [go_sem,seval];apply z;refine bH j14 (fun c31 j14=>?_) (fun c31 j14=>?_)
  ·refine aL ?_;refine aL ?_;refine aO ?_
   try simp only [aT,bI]
   cases j14;simp only [Es] at h;cases h;exact jS
  ·refine aU ?_
   try simp only [aK,aQ]
   refine cH ?_;refine ⟨c15,xQ _,(i64.wrap (v10+1)),x29.2,v12,v13,j14,?_⟩
   (simp only [go_sem,seval,dG hpP0,gZ hpP0,e18]) <;> (try and_intros) <;> rfl
 ·refine dQ ?_
  try simp only [bZ,bR,↓reduceIte,aK]
  cases j14;simp only [GH] at h;refine aL ?_;refine aF ?_;obtain ⟨x32,h34,h⟩:=aA h;refine aP fun _ z=>?_;simp only [go_sem,seval,e18];refine SC.mono (gR v11 14 _ h34 _ _ _ P0 (by simp only [go_sem,seval,gZ hpP0,e18])) ?_;rintro _ _ ⟨o_x32,j_x32,s_x32,rfl,rfl⟩;replace s_x32:q <:+ o_x32:=List.IsSuffix.trans (by simp only [go_sem]) s_x32;simp only [go_sem,seval];apply z;refine aF ?_;obtain ⟨x35,h36,h⟩:=aA h;refine aP fun _ z=>?_;simp only [go_sem,seval,e18];refine SC.bA (vD n x32.2 _ h36 _ _ _ P0) ?_;simp only [go_sem,seval,gZ hpP0];apply z;refine aL ?_;refine aL ?_;refine aO ?_;cases h;refine ⟨by simp,?_⟩;simp only [go_sem,seval,bF,dB,cG,dG hpP0,s_x32,e18]
def xG (f:aC->Option ((List aB) × aC)):Prop:=∀a0 r,f a0=some r->∀(q:Pa) (m:M) (vs:List V) (P0:Pa),vs.map V.weak1=[.ptr P0 0,.fn (.func 85) [.ptr P0 0] []]/\m.blk P0=some ((aC.C a0))/\m.gl 2=.eptr [(cA cS cN)] 0 0->SC prog 84 vs q m (fun v Y=>∃(id:Pa) (j:Nat),q <:+ id/\v=.list (.st (.anon id j)) (r.1.map aB.C)/\Y=(m.set P0 ((aC.C r.2))).tokset id j true)
theorem rL (n:Nat):xG (gI n):=by
 rintro a0 r h q m vs P0 ⟨hv,hmP0,hg2⟩;refine SC.wv hv ?_;refine SC.ap hmP0 fun hpP0 l0=>?_
 try simp only [go_sem] at hmP0 l0
 refine So func84 rfl (fun xs w=>call84 xs w) ntmps84 (by kernel_rfl) ?_;unfold gI at h;refine aL ?_;refine aL ?_;refine aF ?_;obtain ⟨x1,h2,h⟩:=aA h;refine aP fun _ z=>?_;simp only [go_sem,seval];refine SC.bA (bW n a0 ([40]:cQ) _ h2 _ _ _ P0) ?_;simp only [go_sem,seval];apply z;refine aF (aF ?_);obtain ⟨x3,h4,h⟩:=aA h;refine aP fun _ z=>?_;simp only [go_sem,seval];refine SC.bA (cD n x1 ([41]:cQ) _ h4 _ _ _ P0) ?_;simp only [go_sem,seval];apply z;refine bH h (fun c5 h=>?_) (fun c5 h=>?_)
 ·refine aL ?_;refine aO ?_
  try simp only [aT]
  cases h;refine ⟨by simp,?_⟩;refine ⟨(7::q),0,_,(by simp only [go_sem]),.exact (t:=4) (rows:=([].map aB.C)) (congrArg Array.toList results84) (by simp only [go_sem,seval]),(7::q),0,(by simp only [go_sem]),?_,?_⟩ <;> simp only [go_sem,bK,dG hpP0]
 ·refine aU ?_
  refine aF ?_;obtain ⟨y6,j6,h⟩:=aA h;refine fX 8 (fun X Y=>∃(oy6_5:Pa) (jy6_5:Nat),X 0=.ptr P0 0/\X 5=.list (.st (.anon oy6_5 jy6_5)) (y6.1.map aB.C)/\Y.tok oy6_5 jy6_5=true/\q <:+ oy6_5/\Y.blk P0=some ((aC.C y6.2))/\Y.gl=m.gl/\m.back q Y=(m.set P0 ((aC.C y6.2)))) ?_ ?_
  ·refine bM ?_;obtain ⟨y10,j10,j6⟩:=aA j6;refine zL 5 ([].map aB.C) rfl (by simp only [go_sem,seval,c5]) ?_;refine kX (fun c X Y=>∃v8 v9 o_v8 j_v8,gM n c v8 v9=some y10/\X 0=.ptr P0 0/\X 1=.fn (.func 85) [.ptr P0 0] []/\X 5=.list (.st (.anon o_v8 j_v8)) (v8.map aB.C)/\Y.tok o_v8 j_v8=true/\q <:+ o_v8/\Y.blk P0=some ((aC.C v9))/\Y.gl=m.gl/\m.back q Y=(m.set P0 ((aC.C v9)))) n ⟨[],x3.2,(6::q),0,j10,?_⟩ ?_
   ·simp only [go_sem,seval,cG,bK,dG hpP0,c5]
   rintro i7 c11 E12 m13 ⟨v8,v9,o_v8,j_v8,j10,e14⟩ _
   rcases c11 with _ | c11
   ·cases j10
   rw [gM] at j10;refine aF (aL ?_);refine bH j10 (fun c15 j10=>?_) (fun c15 j10=>?_)
   ·refine aU ?_
    refine bM (aF ?_);obtain ⟨x16,h17,j10⟩:=aA j10;obtain ⟨f18,j10⟩:=bP j10;have f19:v8.length+1<=1073741824:=by first | omega | (simp only [nC,jC,lA] at f18 ⊢;omega)
    have f20:v8.length<=1073741823:=by first | omega | (simp only [nC,jC,lA] at f18 ⊢;omega)
    refine aP fun _ z=>?_;simp only [go_sem,seval,c15,e14];refine SC.bA (Bm n v9 _ h17 _ _ _ P0) ?_;simp only [go_sem,seval,f19,e14];apply z;refine aF ?_;obtain ⟨x21,h22,j10⟩:=aA j10;refine aP fun _ z=>?_;simp only [go_sem,seval,e14];refine SC.bA (cD n x16.2 ([44]:cQ) _ h22 _ _ _ P0) ?_;simp only [go_sem,seval];apply z;refine bH j10 (fun c23 j10=>?_) (fun c23 j10=>?_)
    ·refine dQ ?_
     try simp only [seval,bZ,bR,aK]
     cases j10;cases j6;refine ⟨by decide,(9::i7::7::q),0,?_⟩;simp only [go_sem,seval,cG,dG hpP0,c23,e14]
    ·refine aU ?_
     try simp only [aK,aQ]
     refine ⟨c11,xQ _,(v8++[x16.1]),x21.2,(9::i7::7::q),0,j10,?_⟩;simp only [go_sem,seval,cG,dG hpP0,c23,e14]
   ·refine dQ ?_
    try simp only [bZ,bR,↓reduceIte,aK]
    cases j10;cases j6;refine ⟨by decide,o_v8,j_v8,?_⟩;simp only [go_sem,seval,c15,e14]
  ·rintro E24 m25 ⟨oy6_5,jy6_5,e26⟩ _;refine aF ?_;obtain ⟨x27,h28,h⟩:=aA h;refine aP fun _ z=>?_;simp only [go_sem,seval,e26];refine SC.bA (bW n y6.2 ([41]:cQ) _ h28 _ _ _ P0) ?_;simp only [go_sem,seval];apply z;refine sW ?_;simp only [go_sem,seval,e26];refine aO ?_;cases h;refine ⟨by simp,?_⟩;refine ⟨oy6_5,jy6_5,_,(by simp only [go_sem,e26]),.mine (t:=4) (rows:=(y6.1.map aB.C)) (congrArg Array.toList results84) (by simp only [go_sem,seval]) (by simp only [go_sem,e26]),oy6_5,jy6_5,(by simp only [go_sem,e26]),?_,?_⟩ <;> simp only [go_sem,dG hpP0,e26]
def Db (f:aC->Int->Option aC):Prop:=∀a0 a1 r,f a0 a1=some r->∀(q:Pa) (m:M) (vs:List V) (P0:Pa),vs.map V.weak1=[.ptr P0 0,.lit (.int .i64 a1)]/\m.blk P0=some ((aC.C a0))->SC prog 137 vs q m (fun v Y=>v=.tup []/\Y=(m.set P0 ((aC.C r))))
theorem vF:Db (mP):=by
 rintro a0 a1 r h q m vs P0 ⟨hv,hmP0⟩;refine SC.wv hv ?_;refine SC.ap hmP0 fun hpP0 l0=>?_
 try simp only [go_sem] at hmP0 l0
 refine eD func137 call137 ntmps137 results137 ?_;unfold mP at h;refine aL ?_;refine bH h (fun c1 h=>?_) (fun c1 h=>?_)
 ·obtain ⟨x2,h3,h⟩:=aA h;refine eR fun _ z=>?_;simp only [go_sem,seval,c1];refine SC.bA (lY a0 111 _ h3 _ _ _ P0) ?_;simp only [go_sem,seval];apply z;simp only [];cases h;exact jS
 ·refine aU ?_;cases h;exact jS
def CW (f:aC->Int->Option cQ):Prop:=∀a0 a1 r,f a0 a1=some r->∀(q:Pa) (m:M) (vs:List V) (P0:Pa),vs.map V.weak1=[.ptr P0 0,.lit (.int .i64 a1)]/\m.blk P0=some ((aC.C a0))/\m.gl 2=.eptr [(cA cS cN)] 0 0/\m.gl 5=.eptr [(cA (cA cS) dH)] 0 0->SC prog 221 vs q m (fun v Y=>v=.lit (.string (bs r))/\Y=m)
theorem vE (n:Nat):CW (mO n):=by
 rintro a0 a1 r h q m vs P0 ⟨hv,hmP0,hg2,hg5⟩;refine SC.wv hv ?_;refine SC.apart hmP0 fun hpP0=>?_
 try simp only [go_sem] at hmP0
 refine eD func221 call221 ntmps221 results221 ?_;unfold mO at h;refine aL ?_;refine aF (aF ?_);obtain ⟨x1,h5,h⟩:=aA h;obtain ⟨f2,f3,f4⟩:=aZ h5;have f6:a1<7:=f3;obtain ⟨w7,d8⟩:=CA (f:=(cA cS)) (s:=3) (RW (f:=(cA cS)) (s:=3) _ (by kernel_rfl)) f4;have d9:=(RW (f:=(cA cS)) (s:=3) _ (by kernel_rfl)) _ (Al f4);have d10:=List.take_left' (l₂:=w7) d9;have d11:(3<=(cA cS x1).length+w7.length)=True:=eq_true (by omega);refine aP fun _ z=>?_;simp only [go_sem,seval,f2,f6,d10,d11,d8,hg5];apply z;refine bM ?_;obtain ⟨y14,j14,h⟩:=aA h;refine kX (fun c X Y=>∃v13,jZ n x1 a0 c v13=some y14/\X 0=.ptr P0 0/\X 9=.agg ((cA cS x1))/\X 10=.lit (.int .i64 v13)/\Y.blk P0=some ((aC.C a0))/\Y.gl=m.gl/\m.back q Y=m) n ⟨0,j14,?_⟩ ?_
 ·simp only [go_sem,seval,bK,hmP0]
 rintro i12 c15 E16 m17 ⟨v13,j14,e18⟩ _
 rcases c15 with _ | c15
 ·cases j14
 rw [jZ] at j14;refine aL ?_;refine aF (bH j14 (fun c19 j14=>?_) (fun c19 j14=>?_))
 ·refine aU ?_
  refine aF (bM (aF ?_));obtain ⟨x20,h24,j14⟩:=aA j14;obtain ⟨f21,f22,f23⟩:=aZ h24;have f25:=(qJ.1 f23).1;have f26:v13<3:=by have:=cA_one d9;omega
  obtain ⟨w27,d28⟩:=CA (f:=cS) (s:=1) (fun _ _=>rfl) f23;simp only [go_sem] at d28;refine aP fun _ z=>?_;simp only [go_sem,seval,f21,f26,d28,e18];apply z;refine aF ?_;obtain ⟨y29,j29,j14⟩:=aA j14;refine fX 10 (fun X Y=>X 0=.ptr P0 0/\X 6=.lit (.string (bs x20))/\X 9=.agg ((cA cS x1))/\X 10=.lit (.int .i64 v13)/\X 19=.lit (.bool y29)/\Y.blk P0=some ((aC.C a0))/\Y.gl=m.gl/\m.back q Y=m) ?_ ?_
  ·rcases dD j29 with ⟨c30,j29⟩ | ⟨c30,j29⟩
   ·obtain ⟨x31,h32,j29⟩:=aA j29;refine aP fun _ z=>?_;simp only [go_sem,seval,c30,e18];refine SC.bA (oJ n a0 x20 _ h32 _ _ _ P0) ?_;simp only [go_sem,seval];apply z;cases j29;exact jD
   ·refine cH ?_;cases j29;exact jD
  ·intro E33 m34 e35 _;refine bH j14 (fun c36 j14=>?_) (fun c36 j14=>?_)
   ·refine aL ?_;refine aO ?_
    try simp only [aT,bI]
    cases j14;simp only [Es] at h;cases h;exact jS
   ·refine aU ?_
    try simp only [aK,aQ]
    refine cH ?_;refine ⟨c15,xQ _,(i64.wrap (v13+1)),j14,?_⟩;simp only [go_sem,seval,e35]
 ·refine dQ ?_
  try simp only [bZ,bR,↓reduceIte,aK]
  cases j14;simp only [GH] at h;refine aL ?_;refine aO ?_;cases h;exact jS
def lW (f:aC->Int->Option ((List aB) × aC)):Prop:=∀a0 a1 r,f a0 a1=some r->∀(q:Pa) (m:M) (vs:List V) (P0:Pa) (P1:Pa) (P2:Pa),vs.map V.weak1=[.ptr P0 0,.fn (.func 231) [] [.ptr P1 0,.ptr P2 0]]/\m.blk P0=some ((aC.C a0))/\m.blk P1=some ([.ptr P0 0])/\m.blk P2=some ([.lit (.int .i64 a1)])/\(P0=P1)=False/\(P0=P2)=False/\(P1=P0)=False/\(P1=P2)=False/\(P2=P0)=False/\(P2=P1)=False/\m.gl 2=.eptr [(cA cS cN)] 0 0/\m.gl 5=.eptr [(cA (cA cS) dH)] 0 0->SC prog 84 vs q m (fun v Y=>v=.list .none (r.1.map aB.C)/\Y=(m.set P0 ((aC.C r.2))))
def nI (f:aC->Int->Option (aB × aC)):Prop:=∀a0 a1 r,f a0 a1=some r->∀(q:Pa) (m:M) (vs:List V) (P0:Pa),vs.map V.weak1=[.ptr P0 0,.lit (.int .i64 a1)]/\m.blk P0=some ((aC.C a0))/\m.gl 2=.eptr [(cA cS cN)] 0 0/\m.gl 5=.eptr [(cA (cA cS) dH)] 0 0->SC prog 174 vs q m (fun v Y=>v=.agg ((aB.C r.1))/\Y=(m.set P0 ((aC.C r.2))))
def pB (f:aC->Int->Int->Option (aB × aC)):Prop:=∀a0 a1 a2 r,f a0 a1 a2=some r->∀(q:Pa) (m:M) (vs:List V) (P0:Pa),vs.map V.weak1=[.ptr P0 0,.lit (.int .i64 a1),.lit (.int .i64 a2)]/\m.blk P0=some ((aC.C a0))/\m.gl 2=.eptr [(cA cS cN)] 0 0/\m.gl 5=.eptr [(cA (cA cS) dH)] 0 0->SC prog 202 vs q m (fun v Y=>v=.agg ((aB.C r.1))/\Y=(m.set P0 ((aC.C r.2))))
def oB (f:aC->Int->Option (aB × aC)):Prop:=∀a0 a1 r,f a0 a1=some r->∀(q:Pa) (m:M) (vs:List V) (P0:Pa),vs.map V.weak1=[.ptr P0 0,.lit (.int .i64 a1)]/\m.blk P0=some ((aC.C a0))/\m.gl 2=.eptr [(cA cS cN)] 0 0/\m.gl 5=.eptr [(cA (cA cS) dH)] 0 0->SC prog 220 vs q m (fun v Y=>v=.agg ((aB.C r.1))/\Y=(m.set P0 ((aC.C r.2))))
def pK (f:aC->Int->Option (aB × aC)):Prop:=∀a0 a1 r,f a0 a1=some r->∀(q:Pa) (m:M) (vs:List V) (P0:Pa) (P1:Pa) (P2:Pa),vs.map V.weak1=[.ptr P1 0,.ptr P2 0]/\m.blk P0=some ((aC.C a0))/\m.blk P1=some ([.ptr P0 0])/\m.blk P2=some ([.lit (.int .i64 a1)])/\(P0=P1)=False/\(P0=P2)=False/\(P1=P0)=False/\(P1=P2)=False/\(P2=P0)=False/\(P2=P1)=False/\m.gl 2=.eptr [(cA cS cN)] 0 0/\m.gl 5=.eptr [(cA (cA cS) dH)] 0 0->SC prog 231 vs q m (fun v Y=>v=.agg ((aB.C r.1))/\Y=(m.set P0 ((aC.C r.2))))
theorem tS {eT} (wZ:pK eT) (n:Nat):lW (gT eT n):=by
 rintro a0 a1 r h q m vs P0 P1 P2 ⟨hv,hmP0,hmP1,hmP2,hn0_1,hn0_2,hn1_0,hn1_2,hn2_0,hn2_1,hg2,hg5⟩;refine SC.wv hv ?_;refine SC.apart hmP0 fun hpP0=>?_;refine SC.apart hmP1 fun hpP1=>?_;refine SC.apart hmP2 fun hpP2=>?_;have l0:=nD hmP0
 try simp only [go_sem] at hmP0 l0
 skip
 try simp only [go_sem,seval] at hmP2
 refine eD func84 call84 ntmps84 results84 ?_;unfold gT at h;refine aL ?_;refine aL ?_;refine aF ?_;obtain ⟨x1,h2,h⟩:=aA h;refine aP fun _ z=>?_;simp only [go_sem,seval];refine SC.bA (bW n a0 ([40]:cQ) _ h2 _ _ _ P0) ?_;simp only [go_sem,seval];apply z;refine aF (aF ?_);obtain ⟨x3,h4,h⟩:=aA h;refine aP fun _ z=>?_;simp only [go_sem,seval];refine SC.bA (cD n x1 ([41]:cQ) _ h4 _ _ _ P0) ?_;simp only [go_sem,seval];apply z;refine bH h (fun c5 h=>?_) (fun c5 h=>?_)
 ·refine aL ?_;refine aO ?_
  try simp only [aT]
  cases h;exact jS
 ·refine aU ?_
  refine aF ?_;obtain ⟨y6,j6,h⟩:=aA h;refine fX 8 (fun X Y=>∃(oy6_5:Pa) (jy6_5:Nat),X 0=.ptr P0 0/\X 5=.list (.st (.anon oy6_5 jy6_5)) (y6.1.map aB.C)/\Y.tok oy6_5 jy6_5=true/\q <:+ oy6_5/\Y.blk P0=some ((aC.C y6.2))/\Y.blk P1=some ([.ptr P0 0])/\Y.blk P2=some ([.lit (.int .i64 a1)])/\Y.gl=m.gl/\m.back q Y=(m.set P0 ((aC.C y6.2)))) ?_ ?_
  ·refine bM ?_;obtain ⟨y10,j10,j6⟩:=aA j6;refine zL 5 ([].map aB.C) rfl (by simp only [go_sem,seval,c5]) ?_;refine kX (fun c X Y=>∃v8 v9 o_v8 j_v8,fK eT n a1 c v8 v9=some y10/\X 0=.ptr P0 0/\X 1=.fn (.func 231) [] [.ptr P1 0,.ptr P2 0]/\X 5=.list (.st (.anon o_v8 j_v8)) (v8.map aB.C)/\Y.tok o_v8 j_v8=true/\q <:+ o_v8/\Y.blk P0=some ((aC.C v9))/\Y.blk P1=some ([.ptr P0 0])/\Y.blk P2=some ([.lit (.int .i64 a1)])/\Y.gl=m.gl/\m.back q Y=(m.set P0 ((aC.C v9)))) n ⟨[],x3.2,(6::q),0,j10,?_⟩ ?_
   ·simp only [go_sem,seval,cG,bK,dG hpP0,hn1_0,hn2_0,c5,hmP1,hmP2]
   rintro i7 c11 E12 m13 ⟨v8,v9,o_v8,j_v8,j10,e14⟩ _
   rcases c11 with _ | c11
   ·cases j10
   rw [fK] at j10;refine aF (aL ?_);refine bH j10 (fun c15 j10=>?_) (fun c15 j10=>?_)
   ·refine aU ?_
    refine bM (aF ?_);obtain ⟨x16,h17,j10⟩:=aA j10;obtain ⟨f18,j10⟩:=bP j10;have f19:v8.length+1<=1073741824:=by first | omega | (simp only [nC,jC,lA] at f18 ⊢;omega)
    have f20:v8.length<=1073741823:=by first | omega | (simp only [nC,jC,lA] at f18 ⊢;omega)
    refine aP fun _ z=>?_;simp only [go_sem,seval,c15,e14];refine SC.by_ (wZ v9 a1 _ h17 _ _ _ P0 P1 P2 (by simp only [go_sem,hn0_1,hn0_2,hn1_0,hn1_2,hn2_0,hn2_1,e14,hg2,hg5])) ?_;simp only [go_sem,seval,f19,e14];apply z;refine aF ?_;obtain ⟨x21,h22,j10⟩:=aA j10;refine aP fun _ z=>?_;simp only [go_sem,seval,e14];refine SC.bA (cD n x16.2 ([44]:cQ) _ h22 _ _ _ P0) ?_;simp only [go_sem,seval];apply z;refine bH j10 (fun c23 j10=>?_) (fun c23 j10=>?_)
    ·refine dQ ?_
     try simp only [seval,bZ,bR,aK]
     cases j10;cases j6;refine ⟨by decide,(9::i7::7::q),0,?_⟩;simp only [go_sem,seval,cG,dG hpP0,hn1_0,hn2_0,c23,e14]
    ·refine aU ?_
     try simp only [aK,aQ]
     refine ⟨c11,xQ _,(v8++[x16.1]),x21.2,(9::i7::7::q),0,j10,?_⟩;simp only [go_sem,seval,cG,dG hpP0,hn1_0,hn2_0,c23,e14]
   ·refine dQ ?_
    try simp only [bZ,bR,↓reduceIte,aK]
    cases j10;cases j6;refine ⟨by decide,o_v8,j_v8,?_⟩;simp only [go_sem,seval,c15,e14]
  ·rintro E24 m25 ⟨oy6_5,jy6_5,e26⟩ _;refine aF ?_;obtain ⟨x27,h28,h⟩:=aA h;refine aP fun _ z=>?_;simp only [go_sem,seval,e26];refine SC.bA (bW n y6.2 ([41]:cQ) _ h28 _ _ _ P0) ?_;simp only [go_sem,seval];apply z;refine aL ?_;refine aO ?_;cases h;exact jS
theorem AH {dE} (nA:pB dE) (n:Nat):nI (nH dE n):=by
 rintro a0 a1 r h q m vs P0 ⟨hv,hmP0,hg2,hg5⟩;refine SC.wv hv ?_;refine SC.ap hmP0 fun hpP0 l0=>?_
 try simp only [go_sem] at hmP0 l0
 refine eD func174 call174 ntmps174 results174 ?_;unfold nH at h;refine aL ?_;refine aF ?_;obtain ⟨x2,h3,h⟩:=aA h;refine aP fun _ z=>?_;simp only [go_sem,seval];refine SC.bA (nA a0 0 a1 _ h3 _ _ _ P0) ?_;simp only [go_sem,seval,eO hpP0];apply z;refine aO ?_;cases h;exact jS
theorem zQ {dC} (pF:oB dC) {dE} (nA:pB dE) (n:Nat):pB (lX dC dE n):=by
 rintro a0 a1 a2 r h q m vs P0 ⟨hv,hmP0,hg2,hg5⟩;refine SC.wv hv ?_;refine SC.ap hmP0 fun hpP0 l0=>?_
 try simp only [go_sem] at hmP0 l0
 refine eD func202 call202 ntmps202 results202 ?_;unfold lX at h;refine aL ?_;refine aF (aL ?_);refine bH h (fun c2 h=>?_) (fun c2 h=>?_)
 ·refine aF ?_;obtain ⟨x3,h4,h⟩:=aA h;refine aP fun _ z=>?_;simp only [go_sem,seval,c2];refine SC.bA (pF a0 a2 _ h4 _ _ _ P0) ?_;simp only [go_sem,seval,gZ hpP0];apply z;refine aO ?_
  try simp only [aT]
  cases h;exact jS
 ·refine aU ?_
  refine aF ?_;obtain ⟨x5,h7,h⟩:=aA h;refine aP fun _ z=>?_;simp only [go_sem,seval,c2];refine SC.bA (nA a0 (i64.wrap (a1+1)) a2 _ h7 _ _ _ P0) ?_;simp only [go_sem,seval];apply z;refine aF (aF ?_);obtain ⟨x8,h9,h⟩:=aA h;refine aP fun _ z=>?_;simp only [go_sem,seval];refine SC.bA (vE n x5.2 a1 _ h9 _ _ _ P0) ?_;simp only [go_sem,seval];apply z;refine bM ?_;obtain ⟨y14,j14,h⟩:=aA h;refine kX (fun c X Y=>∃v11 v12 v13,jG dE n a1 a2 c v11 v12 v13=some y14/\X 0=.ptr P0 0/\X 1=.lit (.int .i64 a1)/\X 2=.lit (.int .i64 a2)/\X 6=.ptr (0::q) 0/\X 7=.ptr (8::q) 0/\X 8=.lit (.string (bs v11))/\Y.blk P0=some ((aC.C v12))/\Y.blk (0::q)=some ([.lit (.int .i64 0),.lit (.int .i64 0),.lit (.string (bs [])),.lit (.int .u32 0),.list .self ([].map aB.C)])/\Y.blk (8::q)=some ((aB.C v13))/\Y.gl=m.gl/\m.back q Y=(m.set P0 ((aC.C v12)))) n ⟨x8,x5.2,x5.1,j14,?_⟩ ?_
  ·simp only [go_sem,seval,bF,bK,dG hpP0,gZ hpP0]
  rintro i10 c15 E16 m17 ⟨v11,v12,v13,j14,e18⟩ _
  rcases c15 with _ | c15
  ·cases j14
  rw [jG] at j14;refine aF (aL ?_);refine bH j14 (fun c19 j14=>?_) (fun c19 j14=>?_)
  ·refine aU ?_
   refine aF (bM (aF ?_));obtain ⟨x20,h22,j14⟩:=aA j14;refine aP fun _ z=>?_;simp only [go_sem,seval,c19,e18];refine SC.mono (gR v12 19 _ h22 _ _ _ P0 (by simp only [go_sem,e18])) ?_;rintro _ _ ⟨o_x20,j_x20,s_x20,rfl,rfl⟩;replace s_x20:q <:+ o_x20:=List.IsSuffix.trans (by simp only [go_sem]) s_x20;simp only [go_sem,seval];apply z;refine aF ?_;obtain ⟨x23,h24,j14⟩:=aA j14;refine aP fun _ z=>?_;simp only [go_sem,seval,e18];refine SC.bA (bW n x20.2 v11 _ h24 _ _ _ P0) ?_;simp only [go_sem,seval];apply z;refine aF ?_;obtain ⟨x25,h26,j14⟩:=aA j14;refine eC [(2,0),(3,0),(4,0),(5,0),(6,0),(0,0),(8,0),(9,0),(1,2),(7,0),(10,0),(11,0)] 21 fun _ z=>?_;simp only [go_sem,seval,e18];refine sF (nA x23 (i64.wrap (a1+1)) a2 _ h26 _ _ _ P0) ?_;simp only [go_sem,seval,gZ hpP0,e18];apply z;refine aL ?_;refine aL ?_;refine bH j14 (fun c27 j14=>?_) (fun c27 j14=>?_)
   ·refine dQ ?_
    try simp only [seval,bZ,bR,aK]
    cases j14;refine aL ?_;refine aO ?_;cases h;refine ⟨by simp,?_⟩;simp only [go_sem,seval,bF,dB,cG,dG hpP0,s_x20,e18]
   ·refine aU ?_
    try simp only [aK,aQ]
    obtain ⟨x28,h29,j14⟩:=aA j14;refine aP fun _ z=>?_;simp only [go_sem,seval,c27,e18];refine SC.bA (vE n x25.2 a1 _ h29 _ _ _ P0) ?_;simp only [go_sem,seval];apply z;refine ⟨c15,xQ _,x28,x25.2,({ x20.1 with cP:=v11,aM:=[v13,x25.1] }:aB),j14,?_⟩;simp only [go_sem,seval,bF,dB,cG,dG hpP0,gZ hpP0,s_x20,e18]
  ·refine dQ ?_
   try simp only [bZ,bR,↓reduceIte,aK]
   cases j14;refine aL ?_;refine aO ?_;cases h;exact jS
theorem xS {eW} (oC:nI eW) {dC} (pF:oB dC) {iM} (tV:lW iM) (n:Nat):oB (kR eW dC iM n):=by
 rintro a0 a1 r h q m vs P0 ⟨hv,hmP0,hg2,hg5⟩;refine SC.wv hv ?_;refine SC.ap hmP0 fun hpP0 l0=>?_
 try simp only [go_sem] at hmP0 l0
 refine eD func220 call220 ntmps220 results220 ?_;unfold kR at h;refine aL ?_;refine aF ?_;obtain ⟨x4,h5,h⟩:=aA h;refine aP fun _ z=>?_;simp only [go_sem,seval];refine SC.bA (vF a0 a1 _ h5 _ _ _ P0) ?_;simp only [go_sem,seval];apply z;refine aF (aF ?_);obtain ⟨x6,h7,h⟩:=aA h;refine aP fun _ z=>?_;simp only [go_sem,seval,gZ hpP0];refine SC.bA (cD n x4 ([40]:cQ) _ h7 _ _ _ P0) ?_;simp only [go_sem,seval];apply z;refine bH h (fun c8 h=>?_) (fun c8 h=>?_)
 ·refine aF ?_;obtain ⟨x9,h11,h⟩:=aA h;refine aP fun _ z=>?_;simp only [go_sem,seval,gZ hpP0,c8];refine SC.bA (oC x6.2 (i64.wrap (a1+1)) _ h11 _ _ _ P0) ?_;simp only [go_sem,seval];apply z;refine aF ?_;obtain ⟨x12,h13,h⟩:=aA h;refine aP fun _ z=>?_;simp only [go_sem,seval,gZ hpP0];refine SC.bA (bW n x9.2 ([41]:cQ) _ h13 _ _ _ P0) ?_;simp only [go_sem,seval];apply z;refine aL ?_;refine aO ?_
  try simp only [aT]
  cases h;exact jS
 ·refine aU ?_
  refine aF ?_;obtain ⟨x14,h16,h⟩:=aA h;refine aP fun _ z=>?_;simp only [go_sem,seval,gZ hpP0,c8];refine SC.mono (gR x6.2 15 _ h16 _ _ _ P0 (by simp only [go_sem,seval])) ?_;rintro _ _ ⟨o_x14,j_x14,s_x14,rfl,rfl⟩;replace s_x14:q <:+ o_x14:=List.IsSuffix.trans (by simp only [go_sem]) s_x14;simp only [go_sem,seval];apply z;refine aF (aL ?_);refine bM ?_;obtain ⟨y22,j22,h⟩:=aA h;refine kX (fun c X Y=>∃v18 v19 v20 v21,iJ dC n a1 c v18 v19 v20 v21=some y22/\X 2=.ptr (0::q) 0/\X 3=.ptr (1::q) 0/\X 4=.ptr (2::q) 0/\X 6=.ptr (10::q) 0/\X 23=.agg ((cA cS mY))/\X 24=.lit (.int .i64 v18)/\Y.blk P0=some ((aC.C v19))/\Y.blk (10::q)=some ([.lit (.int .i64 v20.bX),.lit (.int .i64 v20.fR),.lit (.string (bs v20.cP)),.lit (.int .u32 v20.mM),.list .self (v20.aM.map aB.C)])/\Y.blk (0::q)=some ([.ptr P0 0])/\Y.blk (1::q)=some ([.lit (.int .i64 a1)])/\Y.blk (2::q)=some ([.lit (.int .i64 v21.bX),.lit (.int .i64 v21.fR),.lit (.string (bs v21.cP)),.lit (.int .u32 v21.mM),.list .self (v21.aM.map aB.C)])/\Y.gl=m.gl/\m.back q Y=(m.set P0 ((aC.C v19)))) n ⟨0,x14.2,x14.1,(aB.mk 0 0 [] 0 []),j22,?_⟩ ?_
  ·(simp only [go_sem,seval,bF,dB,cG,bK,dG hpP0,gZ hpP0,s_x14]) <;> (try and_intros) <;> rfl
  rintro i17 c23 E24 m25 ⟨v18,v19,v20,v21,j22,e26⟩ _
  rcases c23 with _ | c23
  ·cases j22
  rw [iJ] at j22;refine aL ?_;refine aF (bH j22 (fun c27 j22=>?_) (fun c27 j22=>?_))
  ·refine aU ?_
   refine aF (bM (aF ?_));obtain ⟨x28,h32,j22⟩:=aA j22;obtain ⟨f29,f30,f31⟩:=aZ h32;have f33:v18<2:=f30;obtain ⟨w34,d35⟩:=CA (f:=cS) (s:=1) (fun _ _=>rfl) f31;simp only [go_sem] at d35;have d36:List.drop (v18.toNat) [V.lit (.string (bs ([126]:cQ))),V.lit (.string (bs ([45]:cQ)))]=_:=d35;refine aP fun _ z=>?_;simp only [go_sem,seval,f29,f33,d35,e26];apply z;refine aF ?_;obtain ⟨x37,h38,j22⟩:=aA j22;refine aP fun _ z=>?_;simp only [go_sem,seval,e26];refine SC.bA (cD n v19 x28 _ h38 _ _ _ P0) ?_;simp only [go_sem,seval];apply z;refine bH j22 (fun c39 j22=>?_) (fun c39 j22=>?_)
   ·refine aF ?_;obtain ⟨x40,h41,j22⟩:=aA j22;refine aP fun _ z=>?_;simp only [go_sem,seval,gZ hpP0,c39,e26];refine SC.bA (pF x37.2 (i64.wrap (a1+1)) _ h41 _ _ _ P0) ?_;simp only [go_sem,seval,gZ hpP0,e26];apply z;refine aL ?_;refine aO ?_
    try simp only [aT,bI]
    cases j22;simp only [Es] at h;cases h;exact jS
   ·refine aU ?_
    try simp only [aK,aQ]
    refine cH ?_;refine ⟨c23,xQ _,(i64.wrap (v18+1)),x37.2,v20,v21,j22,?_⟩
    (simp only [go_sem,seval,dG hpP0,gZ hpP0,e26]) <;> (try and_intros) <;> rfl
  ·refine dQ ?_
   try simp only [bZ,bR,↓reduceIte,aK]
   cases j22;simp only [GH] at h;refine aF (aF ?_);obtain ⟨y42,j42,h⟩:=aA h;refine fX 26 (fun X Y=>X 2=.ptr (0::q) 0/\X 3=.ptr (1::q) 0/\X 4=.ptr (2::q) 0/\X 6=.ptr (10::q) 0/\X 51=.lit (.bool y42)/\Y.blk P0=some ((aC.C v19))/\Y.blk (10::q)=some ([.lit (.int .i64 v20.bX),.lit (.int .i64 v20.fR),.lit (.string (bs v20.cP)),.lit (.int .u32 v20.mM),.list .self (v20.aM.map aB.C)])/\Y.blk (0::q)=some ([.ptr P0 0])/\Y.blk (1::q)=some ([.lit (.int .i64 a1)])/\Y.blk (2::q)=some ([.lit (.int .i64 v21.bX),.lit (.int .i64 v21.fR),.lit (.string (bs v21.cP)),.lit (.int .u32 v21.mM),.list .self (v21.aM.map aB.C)])/\Y.gl=m.gl/\m.back q Y=(m.set P0 ((aC.C v19)))) ?_ ?_
   ·rcases dD j42 with ⟨c43,j42⟩ | ⟨c43,j42⟩
    ·obtain ⟨x44,h45,j42⟩:=aA j42;refine aP fun _ z=>?_;simp only [go_sem,seval,c27,c43,e26];refine SC.bA (gL v19 _ h45 _ _ _ P0) ?_;simp only [go_sem,seval];apply z;cases j42;refine ⟨by decide,?_⟩
     (simp only [go_sem,seval,e26]) <;> (try and_intros) <;> rfl
    ·refine aP fun _ z=>?_;simp only [go_sem,seval,c27,c43,e26];apply z;cases j42;refine ⟨by decide,?_⟩
     (simp only [go_sem,seval,e26]) <;> (try and_intros) <;> rfl
   ·intro E46 m47 e48 _;refine bH h (fun c49 h=>?_) (fun c49 h=>?_)
    ·refine aF ?_;obtain ⟨x50,h51,h⟩:=aA h;refine aP fun _ z=>?_;simp only [go_sem,seval,e48];refine SC.bA (tR v19 _ h51 _ _ _ P0) ?_;simp only [go_sem,seval,gZ hpP0,e48];apply z;refine aL ?_;refine aO ?_
     try simp only [aT]
     cases h;exact jS
    ·refine aU ?_
     refine aF ?_;obtain ⟨x52,h53,h⟩:=aA h;refine aP fun _ z=>?_;simp only [go_sem,seval,e48];refine SC.bA (gS n v19 _ h53 _ _ _ P0) ?_;simp only [go_sem,seval,gZ hpP0,e48];apply z;refine aF ?_;obtain ⟨y54,j54,h⟩:=aA h;refine HN 47 [] [((10::q),4)] rfl (fun X Y=>X 4=.ptr (2::q) 0/\X 6=.ptr (10::q) 0/\Y.blk P0=some ((aC.C y54.1))/\Y.blk (10::q)=some ((aB.C y54.2))/\Y.blk (2::q)=some ([.lit (.int .i64 v21.bX),.lit (.int .i64 v21.fR),.lit (.string (bs v21.cP)),.lit (.int .u32 v21.mM),.list .self (v21.aM.map aB.C)])/\Y.gl=m.gl/\m.back q Y=(m.set P0 ((aC.C y54.1)))) ?_ ?_
     ·refine bM (aF ?_);obtain ⟨x55,h56,j54⟩:=aA j54;refine aP fun _ z=>?_;simp only [go_sem,seval,gZ hpP0,e48];refine SC.bA (oJ n x52.2 ([40]:cQ) _ h56 _ _ _ P0) ?_;simp only [go_sem,seval];apply z;refine bH j54 (fun c57 j54=>?_) (fun c57 j54=>?_)
      ·obtain ⟨x58,h59,j54⟩:=aA j54;refine eR fun _ z=>?_;simp only [go_sem,seval,gZ hpP0,c57,e48];refine SC.bA (tV x52.2 a1 _ h59 _ _ _ P0 (0::q) (1::q)) ?_;simp only [go_sem,seval,gZ hpP0,e48];apply z;simp only [aK,aQ];cases j54;refine ⟨by decide,?_⟩
       (simp only [go_sem,seval,bF,dG hpP0,gZ hpP0,e48]) <;> (try and_intros) <;> rfl
      ·refine aF ?_;obtain ⟨x60,h61,j54⟩:=aA j54;refine aP fun _ z=>?_;simp only [go_sem,seval,gZ hpP0,c57,e48];refine SC.bA (cD n x52.2 ([91]:cQ) _ h61 _ _ _ P0) ?_;simp only [go_sem,seval];apply z;refine bH j54 (fun c62 j54=>?_) (fun c62 j54=>?_)
       ·refine aF ?_;obtain ⟨x63,h64,j54⟩:=aA j54;refine aP fun _ z=>?_;simp only [go_sem,seval,gZ hpP0,c62,e48];refine SC.bA (oC x60.2 (i64.wrap (a1+1)) _ h64 _ _ _ P0) ?_;simp only [go_sem,seval,gZ hpP0,e48];apply z;obtain ⟨x65,h66,j54⟩:=aA j54;refine eR fun _ z=>?_;simp only [go_sem,seval,gZ hpP0,e48];refine SC.bA (bW n x63.2 ([93]:cQ) _ h66 _ _ _ P0) ?_;simp only [go_sem,seval];apply z;simp only [aK,aQ];cases j54;refine ⟨by decide,?_⟩
        (simp only [go_sem,seval,bF,dB,dG hpP0,gZ hpP0,e48]) <;> (try and_intros) <;> rfl
       ·refine aU ?_
        try simp only [aK,aQ]
        cases j54;refine ⟨by decide,?_⟩
        (simp only [go_sem,seval,bF,dG hpP0,gZ hpP0,c62,e48]) <;> (try and_intros) <;> rfl
     ·intro E67 m68 e69 _;refine aL ?_;refine aO ?_;cases h;exact jS
theorem wV {eW} (oC:nI eW) (n:Nat):pK (jR eW n):=by
 rintro a0 a1 r h q m vs P0 P1 P2 ⟨hv,hmP0,hmP1,hmP2,hn0_1,hn0_2,hn1_0,hn1_2,hn2_0,hn2_1,hg2,hg5⟩;refine SC.wv hv ?_;refine SC.apart hmP0 fun hpP0=>?_;refine SC.apart hmP1 fun hpP1=>?_;refine SC.apart hmP2 fun hpP2=>?_;have l0:=nD hmP0
 try simp only [go_sem] at hmP0 l0
 skip
 try simp only [go_sem,seval] at hmP2
 refine eD func231 call231 ntmps231 results231 ?_;unfold jR at h;refine aL ?_;refine aF ?_;obtain ⟨x2,h3,h⟩:=aA h;refine aP fun _ z=>?_;simp only [go_sem,seval,eO hpP1,eO hpP2,hmP1,hmP2];refine SC.bA (oC a0 (i64.wrap (a1+1)) _ h3 _ _ _ P0) ?_;simp only [go_sem,seval,eO hpP0];apply z;refine aO ?_;cases h;exact jS
theorem oR:∀n,lW (wF n)/\nI (fF n)/\pB (Dy n)/\oB (Cf n)/\pK (AF n)
 | 0=>⟨fun _ _ _ h=>fM h,fun _ _ _ h=>fM h,fun _ _ _ _ h=>fM h,fun _ _ _ h=>fM h,fun _ _ _ h=>fM h⟩
 | n+1=>
   have ih:=oR n
   ⟨tS ih.2.2.2.2 n,AH ih.2.2.1 n,zQ ih.2.2.2.1 ih.2.2.1 n,xS ih.2.1 ih.2.2.2.1 ih.1 n,wV ih.2.1 n⟩
theorem gD (n:Nat):nI (fF n):=(oR n).2.1
def Cg (f:aC->aB->Int->Option (aB × aC)):Prop:=∀a0 a1 a2 r,f a0 a1 a2=some r->∀(q:Pa) (m:M) (vs:List V) (P0:Pa),vs.map V.weak1=[.ptr P0 0,.agg ((aB.C a1)),.lit (.int .i64 a2)]/\m.blk P0=some ((aC.C a0))/\m.gl 2=.eptr [(cA cS cN)] 0 0/\m.gl 5=.eptr [(cA (cA cS) dH)] 0 0->SC prog 173 vs q m (fun v Y=>v=.agg ((aB.C r.1))/\Y=(m.set P0 ((aC.C r.2))))
theorem uL (n:Nat):Cg (lB n):=by
 rintro a0 a1 a2 r h q m vs P0 ⟨hv,hmP0,hg2,hg5⟩;refine SC.wv hv ?_;refine SC.ap hmP0 fun hpP0 l0=>?_
 try simp only [go_sem] at hmP0 l0
 refine eD func173 call173 ntmps173 results173 ?_;unfold lB at h;refine aL ?_;refine aF ?_;obtain ⟨x3,h4,h⟩:=aA h;refine aP fun _ z=>?_;simp only [go_sem,seval];refine SC.bA (gS n a0 _ h4 _ _ _ P0) ?_;simp only [go_sem,seval,eO hpP0];apply z;refine aF ?_;obtain ⟨x5,h6,h⟩:=aA h;refine aP fun _ z=>?_;simp only [go_sem,seval];refine SC.bA (bW n x3.2 ([61]:cQ) _ h6 _ _ _ P0) ?_;simp only [go_sem,seval];apply z;refine aF ?_;obtain ⟨x7,h8,h⟩:=aA h;refine aP fun _ z=>?_;simp only [go_sem,seval];refine SC.bA (gD n x5 a2 _ h8 _ _ _ P0) ?_;simp only [go_sem,seval,eO hpP0];apply z;refine aF ?_;obtain ⟨x9,h10,h⟩:=aA h;refine aP fun _ z=>?_;simp only [go_sem,seval];refine SC.bA (bW n x7.2 ([59]:cQ) _ h10 _ _ _ P0) ?_;simp only [go_sem,seval];apply z;refine aL ?_;refine aO ?_;cases h;exact jS
def AD (f:aC->Int->Option (aB × aC)):Prop:=∀a0 a1 r,f a0 a1=some r->∀(q:Pa) (m:M) (vs:List V) (P0:Pa) (P1:Pa) (P2:Pa),vs.map V.weak1=[.ptr P1 0,.ptr P2 0]/\m.blk P0=some ((aC.C a0))/\m.blk P1=some ([.ptr P0 0])/\m.blk P2=some ([.lit (.int .i64 a1)])/\(P0=P1)=False/\(P0=P2)=False/\(P1=P0)=False/\(P1=P2)=False/\(P2=P0)=False/\(P2=P1)=False/\m.gl 2=.eptr [(cA cS cN)] 0 0/\m.gl 5=.eptr [(cA (cA cS) dH)] 0 0->SC prog 203 vs q m (fun v Y=>v=.agg ((aB.C r.1))/\Y=(m.set P0 ((aC.C r.2))))
theorem zP (n:Nat):AD (lV n):=by
 rintro a0 a1 r h q m vs P0 P1 P2 ⟨hv,hmP0,hmP1,hmP2,hn0_1,hn0_2,hn1_0,hn1_2,hn2_0,hn2_1,hg2,hg5⟩;refine SC.wv hv ?_;refine SC.apart hmP0 fun hpP0=>?_;refine SC.apart hmP1 fun hpP1=>?_;refine SC.apart hmP2 fun hpP2=>?_;have l0:=nD hmP0
 try simp only [go_sem] at hmP0 l0
 skip
 try simp only [go_sem,seval] at hmP2
 refine eD func203 call203 ntmps203 results203 ?_;unfold lV at h;refine aL ?_;refine aF ?_;obtain ⟨x2,h3,h⟩:=aA h;refine aP fun _ z=>?_;simp only [go_sem,seval,eO hpP1,eO hpP2,hmP1,hmP2];refine SC.bA (gD n a0 (i64.wrap (a1+2)) _ h3 _ _ _ P0) ?_;simp only [go_sem,seval,eO hpP0];apply z;refine aO ?_;cases h;exact jS
def wE (f:aC->Int->Option ((List aB) × aC)):Prop:=∀a0 a1 r,f a0 a1=some r->∀(q:Pa) (m:M) (vs:List V) (P0:Pa) (P1:Pa) (P2:Pa),vs.map V.weak1=[.ptr P0 0,.fn (.func 203) [] [.ptr P1 0,.ptr P2 0]]/\m.blk P0=some ((aC.C a0))/\m.blk P1=some ([.ptr P0 0])/\m.blk P2=some ([.lit (.int .i64 a1)])/\(P0=P1)=False/\(P0=P2)=False/\(P1=P0)=False/\(P1=P2)=False/\(P2=P0)=False/\(P2=P1)=False/\m.gl 2=.eptr [(cA cS cN)] 0 0/\m.gl 5=.eptr [(cA (cA cS) dH)] 0 0->SC prog 84 vs q m (fun v Y=>v=.list .none (r.1.map aB.C)/\Y=(m.set P0 ((aC.C r.2))))
theorem vS (n:Nat):wE (iP n):=by
 rintro a0 a1 r h q m vs P0 P1 P2 ⟨hv,hmP0,hmP1,hmP2,hn0_1,hn0_2,hn1_0,hn1_2,hn2_0,hn2_1,hg2,hg5⟩;refine SC.wv hv ?_;refine SC.apart hmP0 fun hpP0=>?_;refine SC.apart hmP1 fun hpP1=>?_;refine SC.apart hmP2 fun hpP2=>?_;have l0:=nD hmP0
 try simp only [go_sem] at hmP0 l0
 skip
 try simp only [go_sem,seval] at hmP2
 refine eD func84 call84 ntmps84 results84 ?_;unfold iP at h;refine aL ?_;refine aL ?_;refine aF ?_;obtain ⟨x1,h2,h⟩:=aA h;refine aP fun _ z=>?_;simp only [go_sem,seval];refine SC.bA (bW n a0 ([40]:cQ) _ h2 _ _ _ P0) ?_;simp only [go_sem,seval];apply z;refine aF (aF ?_);obtain ⟨x3,h4,h⟩:=aA h;refine aP fun _ z=>?_;simp only [go_sem,seval];refine SC.bA (cD n x1 ([41]:cQ) _ h4 _ _ _ P0) ?_;simp only [go_sem,seval];apply z;refine bH h (fun c5 h=>?_) (fun c5 h=>?_)
 ·refine aL ?_;refine aO ?_
  try simp only [aT]
  cases h;exact jS
 ·refine aU ?_
  refine aF ?_;obtain ⟨y6,j6,h⟩:=aA h;refine fX 8 (fun X Y=>∃(oy6_5:Pa) (jy6_5:Nat),X 0=.ptr P0 0/\X 5=.list (.st (.anon oy6_5 jy6_5)) (y6.1.map aB.C)/\Y.tok oy6_5 jy6_5=true/\q <:+ oy6_5/\Y.blk P0=some ((aC.C y6.2))/\Y.blk P1=some ([.ptr P0 0])/\Y.blk P2=some ([.lit (.int .i64 a1)])/\Y.gl=m.gl/\m.back q Y=(m.set P0 ((aC.C y6.2)))) ?_ ?_
  ·refine bM ?_;obtain ⟨y10,j10,j6⟩:=aA j6;refine zL 5 ([].map aB.C) rfl (by simp only [go_sem,seval,c5]) ?_;refine kX (fun c X Y=>∃v8 v9 o_v8 j_v8,gA n a1 c v8 v9=some y10/\X 0=.ptr P0 0/\X 1=.fn (.func 203) [] [.ptr P1 0,.ptr P2 0]/\X 5=.list (.st (.anon o_v8 j_v8)) (v8.map aB.C)/\Y.tok o_v8 j_v8=true/\q <:+ o_v8/\Y.blk P0=some ((aC.C v9))/\Y.blk P1=some ([.ptr P0 0])/\Y.blk P2=some ([.lit (.int .i64 a1)])/\Y.gl=m.gl/\m.back q Y=(m.set P0 ((aC.C v9)))) n ⟨[],x3.2,(6::q),0,j10,?_⟩ ?_
   ·simp only [go_sem,seval,cG,bK,dG hpP0,hn1_0,hn2_0,c5,hmP1,hmP2]
   rintro i7 c11 E12 m13 ⟨v8,v9,o_v8,j_v8,j10,e14⟩ _
   rcases c11 with _ | c11
   ·cases j10
   rw [gA] at j10;refine aF (aL ?_);refine bH j10 (fun c15 j10=>?_) (fun c15 j10=>?_)
   ·refine aU ?_
    refine bM (aF ?_);obtain ⟨x16,h17,j10⟩:=aA j10;obtain ⟨f18,j10⟩:=bP j10;have f19:v8.length+1<=1073741824:=by first | omega | (simp only [nC,jC,lA] at f18 ⊢;omega)
    have f20:v8.length<=1073741823:=by first | omega | (simp only [nC,jC,lA] at f18 ⊢;omega)
    refine aP fun _ z=>?_;simp only [go_sem,seval,c15,e14];refine SC.by_ (zP n v9 a1 _ h17 _ _ _ P0 P1 P2 (by simp only [go_sem,hn0_1,hn0_2,hn1_0,hn1_2,hn2_0,hn2_1,e14,hg2,hg5])) ?_;simp only [go_sem,seval,f19,e14];apply z;refine aF ?_;obtain ⟨x21,h22,j10⟩:=aA j10;refine aP fun _ z=>?_;simp only [go_sem,seval,e14];refine SC.bA (cD n x16.2 ([44]:cQ) _ h22 _ _ _ P0) ?_;simp only [go_sem,seval];apply z;refine bH j10 (fun c23 j10=>?_) (fun c23 j10=>?_)
    ·refine dQ ?_
     try simp only [seval,bZ,bR,aK]
     cases j10;cases j6;refine ⟨by decide,(9::i7::7::q),0,?_⟩;simp only [go_sem,seval,cG,dG hpP0,hn1_0,hn2_0,c23,e14]
    ·refine aU ?_
     try simp only [aK,aQ]
     refine ⟨c11,xQ _,(v8++[x16.1]),x21.2,(9::i7::7::q),0,j10,?_⟩;simp only [go_sem,seval,cG,dG hpP0,hn1_0,hn2_0,c23,e14]
   ·refine dQ ?_
    try simp only [bZ,bR,↓reduceIte,aK]
    cases j10;cases j6;refine ⟨by decide,o_v8,j_v8,?_⟩;simp only [go_sem,seval,c15,e14]
  ·rintro E24 m25 ⟨oy6_5,jy6_5,e26⟩ _;refine aF ?_;obtain ⟨x27,h28,h⟩:=aA h;refine aP fun _ z=>?_;simp only [go_sem,seval,e26];refine SC.bA (bW n y6.2 ([41]:cQ) _ h28 _ _ _ P0) ?_;simp only [go_sem,seval];apply z;refine aL ?_;refine aO ?_;cases h;exact jS
def Cd (f:aC->aB->Int->Option (aB × aC)):Prop:=∀a0 a1 a2 r,f a0 a1 a2=some r->∀(q:Pa) (m:M) (vs:List V) (P0:Pa),vs.map V.weak1=[.ptr P0 0,.agg ((aB.C a1)),.lit (.int .i64 a2)]/\m.blk P0=some ((aC.C a0))/\m.gl 2=.eptr [(cA cS cN)] 0 0/\m.gl 5=.eptr [(cA (cA cS) dH)] 0 0->SC prog 177 vs q m (fun v Y=>v=.agg ((aB.C r.1))/\Y=(m.set P0 ((aC.C r.2))))
theorem Bl (n:Nat):Cd (oH n):=by
 rintro a0 a1 a2 r h q m vs P0 ⟨hv,hmP0,hg2,hg5⟩;refine SC.wv hv ?_;refine SC.ap hmP0 fun hpP0 l0=>?_
 try simp only [go_sem] at hmP0 l0
 refine eD func177 call177 ntmps177 results177 ?_;unfold oH at h;refine aL ?_;refine aF ?_;obtain ⟨x5,h6,h⟩:=aA h;refine aP fun _ z=>?_;simp only [go_sem,seval];refine SC.bA (gS n a0 _ h6 _ _ _ P0) ?_;simp only [go_sem,seval,eO hpP0];apply z;refine aF ?_;obtain ⟨y7,j7,h⟩:=aA h;refine HN 37 [] [((1::q),4)] rfl (fun X Y=>X 3=.ptr (0::q) 0/\X 4=.ptr (1::q) 0/\X 6=.ptr (3::q) 0/\Y.blk P0=some ((aC.C y7.1))/\Y.blk (0::q)=some ([.ptr P0 0])/\Y.blk (1::q)=some ((aB.C y7.2))/\Y.blk (3::q)=some ([.lit (.int .i64 0),.lit (.int .i64 0),.lit (.string (bs [])),.lit (.int .u32 0),.list .self ([].map aB.C)])/\Y.gl=m.gl/\m.back q Y=(m.set P0 ((aC.C y7.1)))) ?_ ?_
 ·refine bM (aF ?_);obtain ⟨x8,h9,j7⟩:=aA j7;refine aP fun _ z=>?_;simp only [go_sem,seval,eO hpP0];refine SC.bA (oJ n x5.2 ([40]:cQ) _ h9 _ _ _ P0) ?_;simp only [go_sem,seval];apply z;refine bH j7 (fun c10 j7=>?_) (fun c10 j7=>?_)
  ·obtain ⟨x11,h12,j7⟩:=aA j7;refine eR fun _ z=>?_;simp only [go_sem,seval,eO hpP0,c10];refine SC.bA (vS n x5.2 a2 _ h12 _ _ _ P0 (0::q) (2::q)) ?_;simp only [go_sem,seval,eO hpP0];apply z;simp only [aK,aQ];cases j7;exact jD
  ·refine aF ?_;obtain ⟨x13,h14,j7⟩:=aA j7;refine aP fun _ z=>?_;simp only [go_sem,seval,eO hpP0,c10];refine SC.bA (cD n x5.2 ([91]:cQ) _ h14 _ _ _ P0) ?_;simp only [go_sem,seval];apply z;refine bH j7 (fun c15 j7=>?_) (fun c15 j7=>?_)
   ·refine aF ?_;obtain ⟨x16,h17,j7⟩:=aA j7;refine aP fun _ z=>?_;simp only [go_sem,seval,eO hpP0,c15];refine SC.bA (gD n x13.2 (i64.wrap (a2+2)) _ h17 _ _ _ P0) ?_;simp only [go_sem,seval,eO hpP0];apply z;refine aF ?_;obtain ⟨x18,h19,j7⟩:=aA j7;refine aP fun _ z=>?_;simp only [go_sem,seval,eO hpP0];refine SC.bA (bW n x16.2 ([93]:cQ) _ h19 _ _ _ P0) ?_;simp only [go_sem,seval];apply z;refine aF ?_;obtain ⟨x20,h21,j7⟩:=aA j7;refine aP fun _ z=>?_;simp only [go_sem,seval,eO hpP0];refine SC.bA (bW n x18 ([61]:cQ) _ h21 _ _ _ P0) ?_;simp only [go_sem,seval];apply z;obtain ⟨x22,h23,j7⟩:=aA j7;obtain ⟨f24,j7⟩:=bP j7;refine eC [(2,0),(3,0),(4,0),(5,0),(0,0),(1,1),(6,0),(7,0),(8,0),(9,0)] 37 fun _ z=>?_;simp only [go_sem,seval,eO hpP0];refine sF (gD n x20 (i64.wrap (a2+1)) _ h23 _ _ _ P0) ?_;simp only [go_sem,seval,eO hpP0];apply z;simp only [aK,aQ];cases j7;exact jD
   ·refine aF ?_;obtain ⟨x25,h26,j7⟩:=aA j7;refine aP fun _ z=>?_;simp only [go_sem,seval,eO hpP0,c15];refine SC.bA (bW n x13.2 ([61]:cQ) _ h26 _ _ _ P0) ?_;simp only [go_sem,seval];apply z;obtain ⟨x27,h28,j7⟩:=aA j7;refine eR fun _ z=>?_;simp only [go_sem,seval,eO hpP0];refine SC.bA (gD n x25 (i64.wrap (a2+1)) _ h28 _ _ _ P0) ?_;simp only [go_sem,seval,eO hpP0];apply z;simp only [aK,aQ];cases j7;exact jD
 ·intro E29 m30 e31 _;refine aF ?_;obtain ⟨x32,h33,h⟩:=aA h;refine aP fun _ z=>?_;simp only [go_sem,seval,e31];refine SC.bA (bW n y7.1 ([59]:cQ) _ h33 _ _ _ P0) ?_;simp only [go_sem,seval];apply z;refine aL ?_;refine aO ?_;cases h;exact jS
def mA (f:aC->Int->Option (aB × aC)):Prop:=∀a0 a1 r,f a0 a1=some r->∀(q:Pa) (m:M) (vs:List V) (P0:Pa),vs.map V.weak1=[.ptr P0 0,.lit (.int .i64 a1)]/\m.blk P0=some ((aC.C a0))/\m.gl 2=.eptr [(cA cS cN)] 0 0/\m.gl 5=.eptr [(cA (cA cS) dH)] 0 0->SC prog 86 vs q m (fun v Y=>v=.agg ((aB.C r.1))/\Y=(m.set P0 ((aC.C r.2))))
def pJ (f:aC->Int->Option (aB × aC)):Prop:=∀a0 a1 r,f a0 a1=some r->∀(q:Pa) (m:M) (vs:List V) (P0:Pa),vs.map V.weak1=[.ptr P0 0,.lit (.int .i64 a1)]/\m.blk P0=some ((aC.C a0))/\m.gl 2=.eptr [(cA cS cN)] 0 0/\m.gl 5=.eptr [(cA (cA cS) dH)] 0 0->SC prog 138 vs q m (fun v Y=>v=.agg ((aB.C r.1))/\Y=(m.set P0 ((aC.C r.2))))
def qZ (f:aC->aB->Int->Option (aB × aC)):Prop:=∀a0 a1 a2 r,f a0 a1 a2=some r->∀(q:Pa) (m:M) (vs:List V) (P0:Pa),vs.map V.weak1=[.ptr P0 0,.agg ((aB.C a1)),.lit (.int .i64 a2)]/\m.blk P0=some ((aC.C a0))/\m.gl 2=.eptr [(cA cS cN)] 0 0/\m.gl 5=.eptr [(cA (cA cS) dH)] 0 0->SC prog 175 vs q m (fun v Y=>v=.agg ((aB.C r.1))/\Y=(m.set P0 ((aC.C r.2))))
def sI (f:aC->aB->Int->Option (aB × aC)):Prop:=∀a0 a1 a2 r,f a0 a1 a2=some r->∀(q:Pa) (m:M) (vs:List V) (P0:Pa),vs.map V.weak1=[.ptr P0 0,.agg ((aB.C a1)),.lit (.int .i64 a2)]/\m.blk P0=some ((aC.C a0))/\m.gl 2=.eptr [(cA cS cN)] 0 0/\m.gl 5=.eptr [(cA (cA cS) dH)] 0 0->SC prog 176 vs q m (fun v Y=>v=.agg ((aB.C r.1))/\Y=(m.set P0 ((aC.C r.2))))
theorem zS {eS} (wY:pJ eS) (n:Nat):mA (lZ eS n):=by
 rintro a0 a1 r h q m vs P0 ⟨hv,hmP0,hg2,hg5⟩;refine SC.wv hv ?_;refine SC.ap hmP0 fun hpP0 l0=>?_
 try simp only [go_sem] at hmP0 l0
 refine eD func86 call86 ntmps86 results86 ?_;unfold lZ at h;refine aL ?_;refine aF ?_;obtain ⟨x2,h3,h⟩:=aA h;refine aP fun _ z=>?_;simp only [go_sem,seval];refine SC.bA (vF a0 a1 _ h3 _ _ _ P0) ?_;simp only [go_sem,seval];apply z;refine aF ?_;obtain ⟨x4,h6,h⟩:=aA h;refine aP fun _ z=>?_;simp only [go_sem,seval];refine SC.mono (gR x2 4 _ h6 _ _ _ P0 (by simp only [go_sem,seval])) ?_;rintro _ _ ⟨o_x4,j_x4,s_x4,rfl,rfl⟩;replace s_x4:q <:+ o_x4:=List.IsSuffix.trans (by simp only [go_sem]) s_x4;simp only [go_sem,seval];apply z;refine aF ?_;obtain ⟨x7,h8,h⟩:=aA h;refine aP fun _ z=>?_;simp only [go_sem,seval];refine SC.bA (bW n x4.2 ([123]:cQ) _ h8 _ _ _ P0) ?_;simp only [go_sem,seval];apply z;refine aF (bM ?_);obtain ⟨y12,j12,h⟩:=aA h;refine kX (fun c X Y=>∃v10 v11,iB eS n a1 c v10 v11=some y12/\X 0=.ptr P0 0/\X 1=.lit (.int .i64 a1)/\X 4=.ptr (0::q) 0/\X 5=.ptr (6::q) 0/\Y.blk P0=some ((aC.C v10))/\Y.blk (0::q)=some ([.lit (.int .i64 0),.lit (.int .i64 0),.lit (.string (bs [])),.lit (.int .u32 0),.list .self ([].map aB.C)])/\Y.blk (6::q)=some ([.lit (.int .i64 v11.bX),.lit (.int .i64 v11.fR),.lit (.string (bs v11.cP)),.lit (.int .u32 v11.mM),.list .self (v11.aM.map aB.C)])/\Y.gl=m.gl/\m.back q Y=(m.set P0 ((aC.C v10)))) n ⟨x7,x4.1,j12,?_⟩ ?_
 ·simp only [go_sem,seval,bF,dB,cG,bK,dG hpP0,gZ hpP0,s_x4]
 rintro i9 c13 E14 m15 ⟨v10,v11,j12,e16⟩ _
 rcases c13 with _ | c13
 ·cases j12
 rw [iB] at j12;refine aF (aF ?_);obtain ⟨y17,j17,j12⟩:=aA j12;refine fX 10 (fun X Y=>X 0=.ptr P0 0/\X 1=.lit (.int .i64 a1)/\X 4=.ptr (0::q) 0/\X 5=.ptr (6::q) 0/\X 22=.lit (.bool y17)/\Y.blk P0=some ((aC.C v10))/\Y.blk (0::q)=some ([.lit (.int .i64 0),.lit (.int .i64 0),.lit (.string (bs [])),.lit (.int .u32 0),.list .self ([].map aB.C)])/\Y.blk (6::q)=some ([.lit (.int .i64 v11.bX),.lit (.int .i64 v11.fR),.lit (.string (bs v11.cP)),.lit (.int .u32 v11.mM),.list .self (v11.aM.map aB.C)])/\Y.gl=m.gl/\m.back q Y=(m.set P0 ((aC.C v10)))) ?_ ?_
 ·rcases dD j17 with ⟨c18,j17⟩ | ⟨c18,j17⟩
  ·obtain ⟨x19,h20,j17⟩:=aA j17;refine aP fun _ z=>?_;simp only [go_sem,seval,c18,e16];refine SC.bA (oJ n v10 ([125]:cQ) _ h20 _ _ _ P0) ?_;simp only [go_sem,seval];apply z;cases j17;exact jD
  ·refine aP fun _ z=>?_;simp only [go_sem,seval,c18,e16];apply z;cases j17;exact jD
 ·intro E21 m22 e23 _;refine bH j12 (fun c24 j12=>?_) (fun c24 j12=>?_)
  ·refine aU ?_
   refine bM ?_;obtain ⟨x25,h26,j12⟩:=aA j12;obtain ⟨f27,j12⟩:=bP j12;have f28:v11.aM.length+1<=1073741824:=by first | omega | (simp only [nC,jC,lA] at f27 ⊢;omega)
   have f29:v11.aM.length<=1073741823:=by first | omega | (simp only [nC,jC,lA] at f27 ⊢;omega)
   refine eC [(2,0),(3,0),(4,0),(0,0),(1,1),(5,0),(6,0),(7,0),(8,0)] 19 fun _ z=>?_;simp only [go_sem,seval,e23];refine sF (wY v10 a1 _ h26 _ _ _ P0) ?_;simp only [go_sem,seval,gZ hpP0,f28,e23];apply z;simp only [aK,aQ];refine ⟨c13,xQ _,x25.2,({ v11 with aM:=(v11.aM++[x25.1]) }:aB),j12,?_⟩;simp only [go_sem,seval,bF,dB,cG,dG hpP0,gZ hpP0,e23]
  ·refine dQ ?_
   try simp only [bZ,bR,↓reduceIte,aK]
   cases j12;refine aF ?_;obtain ⟨x30,h31,h⟩:=aA h;refine aP fun _ z=>?_;simp only [go_sem,seval,e23];refine SC.bA (bW n v10 ([125]:cQ) _ h31 _ _ _ P0) ?_;simp only [go_sem,seval];apply z;refine aL ?_;refine aO ?_;cases h;exact jS
theorem wU {mV} (zG:qZ mV) {oQ} (Ba:sI oQ) (n:Nat):pJ (jQ mV oQ n):=by
 rintro a0 a1 r h q m vs P0 ⟨hv,hmP0,hg2,hg5⟩;refine SC.wv hv ?_;refine SC.ap hmP0 fun hpP0 l0=>?_
 try simp only [go_sem] at hmP0 l0
 refine eD func138 call138 ntmps138 results138 ?_;unfold jQ at h;refine aL ?_;refine aF ?_;obtain ⟨x2,h4,h⟩:=aA h;refine aP fun _ z=>?_;simp only [go_sem,seval];refine SC.mono (gR a0 8 _ h4 _ _ _ P0 (by simp only [go_sem,seval,eO hpP0,hmP0])) ?_;rintro _ _ ⟨o_x2,j_x2,s_x2,rfl,rfl⟩;replace s_x2:q <:+ o_x2:=List.IsSuffix.trans (by simp only [go_sem]) s_x2;simp only [go_sem,seval];apply z;refine aF ?_;obtain ⟨y5,j5,h⟩:=aA h;refine fX 26 (fun X Y=>∃(y5a:(aC × aB)),y5=.inl y5a/\X 0=.ptr P0 0/\X 4=.ptr (0::q) 0/\X 5=.ptr (3::q) 0/\Y.blk P0=some ((aC.C y5a.1))/\Y.blk (0::q)=some ([.lit (.int .i64 0),.lit (.int .i64 0),.lit (.string (bs [])),.lit (.int .u32 0),.list .self ([].map aB.C)])/\Y.blk (3::q)=some ([.lit (.int .i64 y5a.2.bX),.lit (.int .i64 y5a.2.fR),.lit (.string (bs y5a.2.cP)),.lit (.int .u32 y5a.2.mM),.list .self (y5a.2.aM.map aB.C)])/\Y.gl=m.gl/\m.back q Y=(m.set P0 ((aC.C y5a.1)))) ?_ ?_
 ·refine bM (aF ?_);obtain ⟨x6,h7,j5⟩:=aA j5;refine aP fun _ z=>?_;simp only [go_sem,seval];refine SC.bA (cD n x2.2 ([108,101,116]:cQ) _ h7 _ _ _ P0) ?_;simp only [go_sem,seval];apply z;refine bH j5 (fun c8 j5=>?_) (fun c8 j5=>?_)
  ·refine aL ?_;refine aF ?_;obtain ⟨x9,h10,j5⟩:=aA j5;refine aP fun _ z=>?_;simp only [go_sem,seval];refine SC.bA (uL n x6.2 ({ x2.1 with bX:=5 }:aB) (i64.wrap (a1+1)) _ h10 _ _ _ P0) ?_;simp only [go_sem,seval,eO hpP0];apply z;refine aO ?_
   try simp only [aT,bI]
   cases j5;simp only [Es] at h;cases h;refine ⟨by simp,?_⟩;simp only [go_sem,seval,bF,dB,cG,bK,dG hpP0,s_x2]
  ·refine aF ?_;obtain ⟨x11,h12,j5⟩:=aA j5;refine aP fun _ z=>?_;simp only [go_sem,seval,c8];refine SC.bA (cD n x6.2 ([118,97,114]:cQ) _ h12 _ _ _ P0) ?_;simp only [go_sem,seval];apply z;refine bH j5 (fun c13 j5=>?_) (fun c13 j5=>?_)
   ·refine aL ?_;refine aF ?_;obtain ⟨x14,h15,j5⟩:=aA j5;refine aP fun _ z=>?_;simp only [go_sem,seval];refine SC.bA (uL n x11.2 ({ x2.1 with bX:=6 }:aB) (i64.wrap (a1+1)) _ h15 _ _ _ P0) ?_;simp only [go_sem,seval,eO hpP0];apply z;refine aO ?_
    try simp only [aT,bI]
    cases j5;simp only [Es] at h;cases h;refine ⟨by simp,?_⟩;simp only [go_sem,seval,bF,dB,cG,bK,dG hpP0,s_x2]
   ·refine aF ?_;obtain ⟨x16,h17,j5⟩:=aA j5;refine aP fun _ z=>?_;simp only [go_sem,seval,c13];refine SC.bA (cD n x11.2 ([97,114,114]:cQ) _ h17 _ _ _ P0) ?_;simp only [go_sem,seval];apply z;refine bH j5 (fun c18 j5=>?_) (fun c18 j5=>?_)
    ·refine aF ?_;obtain ⟨x19,h20,j5⟩:=aA j5;refine aP fun _ z=>?_;simp only [go_sem,seval,c18];refine SC.bA (gS n x16.2 _ h20 _ _ _ P0) ?_;simp only [go_sem,seval,eO hpP0];apply z;obtain ⟨x21,h22,j5⟩:=aA j5;refine eR fun _ z=>?_;simp only [go_sem,seval];refine SC.bA (vD n x19.2 _ h22 _ _ _ P0) ?_;simp only [go_sem,seval,eO hpP0];apply z;simp only [aK,aQ];cases j5;refine ⟨by decide,(x21.2,({ x2.1 with bX:=7,cP:=x19.1,mM:=x21.1 }:aB)),rfl,?_⟩;simp only [go_sem,seval,bF,dB,cG,bK,dG hpP0,eO hpP0,s_x2]
    ·refine aF ?_;obtain ⟨x23,h24,j5⟩:=aA j5;refine aP fun _ z=>?_;simp only [go_sem,seval,c18];refine SC.bA (cD n x16.2 ([114,101,116,117,114,110]:cQ) _ h24 _ _ _ P0) ?_;simp only [go_sem,seval];apply z;refine bH j5 (fun c25 j5=>?_) (fun c25 j5=>?_)
     ·obtain ⟨x26,h27,j5⟩:=aA j5;refine eR fun _ z=>?_;simp only [go_sem,seval,c25];refine SC.bA (gD n x23.2 (i64.wrap (a1+1)) _ h27 _ _ _ P0) ?_;simp only [go_sem,seval,eO hpP0];apply z;simp only [aK,aQ];cases j5;refine ⟨by decide,(x26.2,({ x2.1 with bX:=13,aM:=[x26.1] }:aB)),rfl,?_⟩;simp only [go_sem,seval,bF,dB,cG,bK,dG hpP0,eO hpP0,s_x2]
     ·refine aF ?_;obtain ⟨x28,h29,j5⟩:=aA j5;refine aP fun _ z=>?_;simp only [go_sem,seval,c25];refine SC.bA (cD n x23.2 ([105,102]:cQ) _ h29 _ _ _ P0) ?_;simp only [go_sem,seval];apply z;refine bH j5 (fun c30 j5=>?_) (fun c30 j5=>?_)
      ·refine aF ?_;obtain ⟨x31,h32,j5⟩:=aA j5;refine aP fun _ z=>?_;simp only [go_sem,seval,eO hpP0,c30];refine SC.bA (zG x28.2 x2.1 a1 _ h32 _ _ _ P0) ?_;simp only [go_sem,seval,eO hpP0];apply z;refine aO ?_
       try simp only [aT,bI]
       cases j5;simp only [Es] at h;cases h;refine ⟨by simp,?_⟩;simp only [go_sem,seval,bF,dB,cG,bK,dG hpP0,s_x2]
      ·refine aF ?_;obtain ⟨x33,h34,j5⟩:=aA j5;refine aP fun _ z=>?_;simp only [go_sem,seval,c30];refine SC.bA (cD n x28.2 ([102,111,114]:cQ) _ h34 _ _ _ P0) ?_;simp only [go_sem,seval];apply z;refine bH j5 (fun c35 j5=>?_) (fun c35 j5=>?_)
       ·refine aF ?_;obtain ⟨x36,h37,j5⟩:=aA j5;refine aP fun _ z=>?_;simp only [go_sem,seval,eO hpP0,c35];refine SC.bA (Ba x33.2 x2.1 a1 _ h37 _ _ _ P0) ?_;simp only [go_sem,seval,eO hpP0];apply z;refine aO ?_
        try simp only [aT,bI]
        cases j5;simp only [Es] at h;cases h;refine ⟨by simp,?_⟩;simp only [go_sem,seval,bF,dB,cG,bK,dG hpP0,s_x2]
       ·refine aF ?_;obtain ⟨x38,h39,j5⟩:=aA j5;refine aP fun _ z=>?_;simp only [go_sem,seval,eO hpP0,c35];refine SC.bA (Bl n x33.2 x2.1 a1 _ h39 _ _ _ P0) ?_;simp only [go_sem,seval,eO hpP0];apply z;refine aO ?_
        try simp only [aT,bI]
        cases j5;simp only [Es] at h;cases h;refine ⟨by simp,?_⟩;simp only [go_sem,seval,bF,dB,cG,bK,dG hpP0,s_x2]
 ·rintro E40 m41 ⟨y5a,rfl,e42⟩ _;simp only [GH] at h;refine aF ?_;obtain ⟨x43,h44,h⟩:=aA h;refine aP fun _ z=>?_;simp only [go_sem,seval,e42];refine SC.bA (bW n y5a.1 ([59]:cQ) _ h44 _ _ _ P0) ?_;simp only [go_sem,seval];apply z;refine aL ?_;refine aO ?_;cases h;exact jS
theorem yR {eN} (nB:mA eN) (n:Nat):qZ (lD eN n):=by
 rintro a0 a1 a2 r h q m vs P0 ⟨hv,hmP0,hg2,hg5⟩;refine SC.wv hv ?_;refine SC.ap hmP0 fun hpP0 l0=>?_
 try simp only [go_sem] at hmP0 l0
 refine eD func175 call175 ntmps175 results175 ?_;unfold lD at h;refine aL ?_;refine aF ?_;obtain ⟨x3,h4,h⟩:=aA h;refine aP fun _ z=>?_;simp only [go_sem,seval];refine SC.bA (gD n a0 (i64.wrap (a2+1)) _ h4 _ _ _ P0) ?_;simp only [go_sem,seval,eO hpP0];apply z;refine aF ?_;obtain ⟨x5,h6,h⟩:=aA h;obtain ⟨f7,h⟩:=bP h;refine eC [(2,0),(3,0),(4,0),(5,0),(0,0),(1,1),(6,0),(7,0),(8,0),(9,0)] 21 fun _ z=>?_;simp only [go_sem,seval];refine sF (nB x3.2 (i64.wrap (a2+1)) _ h6 _ _ _ P0) ?_;simp only [go_sem,seval,eO hpP0];apply z;refine aF (aF ?_);obtain ⟨x8,h9,h⟩:=aA h;refine aP fun _ z=>?_;simp only [go_sem,seval];refine SC.bA (cD n x5.2 ([101,108,115,101]:cQ) _ h9 _ _ _ P0) ?_;simp only [go_sem,seval];apply z;refine bH h (fun c10 h=>?_) (fun c10 h=>?_)
 ·obtain ⟨x11,h12,h⟩:=aA h;obtain ⟨f13,h⟩:=bP h;have f14:1+1+1<=1073741824:=by first | omega | (simp only [nC,jC,lA] at f13 ⊢;omega)
  refine eC [(2,0),(3,0),(4,0),(5,0),(0,0),(1,1),(6,0),(7,0),(8,0),(9,0)] 33 fun _ z=>?_;simp only [go_sem,seval,c10];refine sF (nB x8.2 (i64.wrap (a2+1)) _ h12 _ _ _ P0) ?_;simp only [go_sem,seval,eO hpP0,f14];apply z;refine aL ?_;refine aO ?_;cases h;exact jS
 ·refine aU ?_
  refine aL ?_;refine aO ?_;cases h;exact jS
theorem AG {eN} (nB:mA eN) (n:Nat):sI (nG eN n):=by
 rintro a0 a1 a2 r h q m vs P0 ⟨hv,hmP0,hg2,hg5⟩;refine SC.wv hv ?_;refine SC.ap hmP0 fun hpP0 l0=>?_
 try simp only [go_sem] at hmP0 l0
 refine eD func176 call176 ntmps176 results176 ?_;unfold nG at h;refine aL ?_;refine aF ?_;obtain ⟨x3,h4,h⟩:=aA h;refine aP fun _ z=>?_;simp only [go_sem,seval];refine SC.bA (gS n a0 _ h4 _ _ _ P0) ?_;simp only [go_sem,seval,eO hpP0];apply z;refine aF ?_;obtain ⟨x5,h6,h⟩:=aA h;refine aP fun _ z=>?_;simp only [go_sem,seval];refine SC.bA (bW n x3.2 ([105,110]:cQ) _ h6 _ _ _ P0) ?_;simp only [go_sem,seval];apply z;refine aF ?_;obtain ⟨x7,h8,h⟩:=aA h;refine aP fun _ z=>?_;simp only [go_sem,seval];refine SC.bA (gD n x5 (i64.wrap (a2+1)) _ h8 _ _ _ P0) ?_;simp only [go_sem,seval,eO hpP0];apply z;refine aF ?_;obtain ⟨x9,h10,h⟩:=aA h;refine aP fun _ z=>?_;simp only [go_sem,seval];refine SC.bA (bW n x7.2 ([46,46]:cQ) _ h10 _ _ _ P0) ?_;simp only [go_sem,seval];apply z;refine aF ?_;obtain ⟨x11,h12,h⟩:=aA h;obtain ⟨f13,h⟩:=bP h;refine eC [(2,0),(3,0),(4,0),(5,0),(0,0),(1,1),(6,0),(7,0),(8,0),(9,0)] 29 fun _ z=>?_;simp only [go_sem,seval];refine sF (gD n x9 (i64.wrap (a2+1)) _ h12 _ _ _ P0) ?_;simp only [go_sem,seval,eO hpP0];apply z;refine aF ?_;obtain ⟨x14,h15,h⟩:=aA h;obtain ⟨f16,h⟩:=bP h;have f17:1+1+1<=1073741824:=by first | omega | (simp only [nC,jC,lA] at f16 ⊢;omega)
 refine eC [(2,0),(3,0),(4,0),(5,0),(0,0),(1,1),(6,0),(7,0),(8,0),(9,0)] 39 fun _ z=>?_;simp only [go_sem,seval];refine sF (nB x11.2 (i64.wrap (a2+1)) _ h15 _ _ _ P0) ?_;simp only [go_sem,seval,eO hpP0,f17];apply z;refine aL ?_;refine aO ?_;cases h;exact jS
theorem sK:∀n,mA (eV n)/\pJ (AC n)/\qZ (Dc n)/\sI (En n)
 | 0=>⟨fun _ _ _ h=>fM h,fun _ _ _ h=>fM h,fun _ _ _ _ h=>fM h,fun _ _ _ _ h=>fM h⟩
 | n+1=>
   have ih:=sK n
   ⟨zS ih.2.1 n,wU ih.2.2.1 ih.2.2.2 n,yR ih.1 n,AG ih.1 n⟩
theorem jH (n:Nat):mA (eV n):=(sK n).1
def zR (f:aC->Option (aB × aC)):Prop:=∀a0 r,f a0=some r->∀(q:Pa) (m:M) (vs:List V) (P0:Pa),vs.map V.weak1=[.ptr P0 0]/\m.blk P0=some ((aC.C a0))/\m.gl 2=.eptr [(cA cS cN)] 0 0/\m.gl 5=.eptr [(cA (cA cS) dH)] 0 0->SC prog 52 vs q m (fun v Y=>v=.agg ((aB.C r.1))/\Y=(m.set P0 ((aC.C r.2))))
theorem yQ (n:Nat):zR (lC n):=by
 rintro a0 r h q m vs P0 ⟨hv,hmP0,hg2,hg5⟩;refine SC.wv hv ?_;refine SC.ap hmP0 fun hpP0 l0=>?_
 try simp only [go_sem] at hmP0 l0
 refine eD func52 call52 ntmps52 results52 ?_;unfold lC at h;refine aL ?_;refine aF ?_;obtain ⟨x2,h4,h⟩:=aA h;refine aP fun _ z=>?_;simp only [go_sem,seval];refine SC.mono (gR a0 2 _ h4 _ _ _ P0 (by simp only [go_sem,seval,eO hpP0,hmP0])) ?_;rintro _ _ ⟨o_x2,j_x2,s_x2,rfl,rfl⟩;replace s_x2:q <:+ o_x2:=List.IsSuffix.trans (by simp only [go_sem]) s_x2;simp only [go_sem,seval];apply z;refine aF (aF ?_);obtain ⟨x5,h6,h⟩:=aA h;refine aP fun _ z=>?_;simp only [go_sem,seval];refine SC.bA (cD n x2.2 ([101,120,112,111,114,116]:cQ) _ h6 _ _ _ P0) ?_;simp only [go_sem,seval];apply z;refine bH h (fun c7 h=>?_) (fun c7 h=>?_)
 ·refine cH ?_;refine aF ?_;obtain ⟨x8,h9,h⟩:=aA h;refine aP fun _ z=>?_;simp only [go_sem,seval];refine SC.bA (bW n x5.2 ([102,110]:cQ) _ h9 _ _ _ P0) ?_;simp only [go_sem,seval];apply z;refine aF ?_;obtain ⟨x10,h11,h⟩:=aA h;refine aP fun _ z=>?_;simp only [go_sem,seval];refine SC.bA (gS n x8 _ h11 _ _ _ P0) ?_;simp only [go_sem,seval,eO hpP0];apply z;refine aF ?_;obtain ⟨x12,h13,h⟩:=aA h;refine aP fun _ z=>?_;simp only [go_sem,seval];refine SC.mono (rL n x10.2 _ h13 _ _ _ P0 (by simp only [go_sem,seval,eO hpP0,hg2])) ?_;rintro _ _ ⟨o_x12,j_x12,s_x12,rfl,rfl⟩;replace s_x12:q <:+ o_x12:=List.IsSuffix.trans (by simp only [go_sem]) s_x12;simp only [go_sem,seval,eO hpP0];apply z;refine aF (aF ?_);obtain ⟨x14,h15,h⟩:=aA h;refine aP fun _ z=>?_;simp only [go_sem,seval];refine SC.bA (cD n x12.2 ([45,62]:cQ) _ h15 _ _ _ P0) ?_;simp only [go_sem,seval];apply z;refine bH h (fun c16 h=>?_) (fun c16 h=>?_)
  ·refine bM (aF ?_);obtain ⟨x17,h18,h⟩:=aA h;refine aP fun _ z=>?_;simp only [go_sem,seval,c16];refine SC.bA (cD n x14.2 ([117,51,50]:cQ) _ h18 _ _ _ P0) ?_;simp only [go_sem,seval];apply z;refine bH h (fun c19 h=>?_) (fun c19 h=>?_)
   ·refine eR fun _ z=>?_;simp only [go_sem,seval,eO hpP0,c19];apply z;simp only [aK,aQ];refine aF ?_;obtain ⟨x20,h21,h⟩:=aA h;obtain ⟨f22,h⟩:=bP h;have f23:x12.1.length+1<=1073741824:=by first | omega | (simp only [nC,jC,lA] at f22 ⊢;omega)
    have f24:x12.1.length<=1073741823:=by first | omega | (simp only [nC,jC,lA] at f22 ⊢;omega)
    refine eC [(2,0),(3,0),(0,0),(1,1),(4,0),(5,0),(6,0),(7,0)] 39 fun _ z=>?_;simp only [go_sem,seval];refine sF (jH n x17.2 1 _ h21 _ _ _ P0) ?_;simp only [go_sem,seval,eO hpP0,f23];apply z;refine aL ?_;refine aO ?_;cases h;refine ⟨by simp,?_⟩;simp only [go_sem,seval,bF,dB,cG,bK,dG hpP0,s_x2,s_x12]
   ·refine aF ?_;obtain ⟨x25,h26,h⟩:=aA h;refine aP fun _ z=>?_;simp only [go_sem,seval,c19];refine SC.bA (bW n x17.2 ([117,54,52]:cQ) _ h26 _ _ _ P0) ?_;simp only [go_sem,seval];apply z;refine eR fun _ z=>?_;simp only [go_sem,seval,eO hpP0];apply z;simp only [aK,aQ];refine aF ?_;obtain ⟨x27,h28,h⟩:=aA h;obtain ⟨f29,h⟩:=bP h;have f30:x12.1.length+1<=1073741824:=by first | omega | (simp only [nC,jC,lA] at f29 ⊢;omega)
    have f31:x12.1.length<=1073741823:=by first | omega | (simp only [nC,jC,lA] at f29 ⊢;omega)
    refine eC [(2,0),(3,0),(0,0),(1,1),(4,0),(5,0),(6,0),(7,0)] 41 fun _ z=>?_;simp only [go_sem,seval];refine sF (jH n x25 1 _ h28 _ _ _ P0) ?_;simp only [go_sem,seval,eO hpP0,f30];apply z;refine aL ?_;refine aO ?_;cases h;refine ⟨by simp,?_⟩;simp only [go_sem,seval,bF,dB,cG,bK,dG hpP0,s_x2,s_x12]
  ·refine aU ?_
   refine aF ?_;obtain ⟨x32,h33,h⟩:=aA h;obtain ⟨f34,h⟩:=bP h;have f35:x12.1.length+1<=1073741824:=by first | omega | (simp only [nC,jC,lA] at f34 ⊢;omega)
   have f36:x12.1.length<=1073741823:=by first | omega | (simp only [nC,jC,lA] at f34 ⊢;omega)
   refine eC [(2,0),(3,0),(0,0),(1,1),(4,0),(5,0),(6,0),(7,0)] 31 fun _ z=>?_;simp only [go_sem,seval,c16];refine sF (jH n x14.2 1 _ h33 _ _ _ P0) ?_;simp only [go_sem,seval,eO hpP0,f35];apply z;refine aL ?_;refine aO ?_;cases h;refine ⟨by simp,?_⟩;simp only [go_sem,seval,bF,dB,cG,bK,dG hpP0,s_x2,s_x12]
 ·refine aU ?_
  refine aF ?_;obtain ⟨x37,h38,h⟩:=aA h;refine aP fun _ z=>?_;simp only [go_sem,seval,c7];refine SC.bA (bW n x5.2 ([102,110]:cQ) _ h38 _ _ _ P0) ?_;simp only [go_sem,seval];apply z;refine aF ?_;obtain ⟨x39,h40,h⟩:=aA h;refine aP fun _ z=>?_;simp only [go_sem,seval];refine SC.bA (gS n x37 _ h40 _ _ _ P0) ?_;simp only [go_sem,seval,eO hpP0];apply z;refine aF ?_;obtain ⟨x41,h42,h⟩:=aA h;refine aP fun _ z=>?_;simp only [go_sem,seval];refine SC.mono (rL n x39.2 _ h42 _ _ _ P0 (by simp only [go_sem,seval,eO hpP0,hg2])) ?_;rintro _ _ ⟨o_x41,j_x41,s_x41,rfl,rfl⟩;replace s_x41:q <:+ o_x41:=List.IsSuffix.trans (by simp only [go_sem]) s_x41;simp only [go_sem,seval,eO hpP0];apply z;refine aF (aF ?_);obtain ⟨x43,h44,h⟩:=aA h;refine aP fun _ z=>?_;simp only [go_sem,seval];refine SC.bA (cD n x41.2 ([45,62]:cQ) _ h44 _ _ _ P0) ?_;simp only [go_sem,seval];apply z;refine bH h (fun c45 h=>?_) (fun c45 h=>?_)
  ·refine bM (aF ?_);obtain ⟨x46,h47,h⟩:=aA h;refine aP fun _ z=>?_;simp only [go_sem,seval,c45];refine SC.bA (cD n x43.2 ([117,51,50]:cQ) _ h47 _ _ _ P0) ?_;simp only [go_sem,seval];apply z;refine bH h (fun c48 h=>?_) (fun c48 h=>?_)
   ·refine eR fun _ z=>?_;simp only [go_sem,seval,eO hpP0,c48];apply z;simp only [aK,aQ];refine aF ?_;obtain ⟨x49,h50,h⟩:=aA h;obtain ⟨f51,h⟩:=bP h;have f52:x41.1.length+1<=1073741824:=by first | omega | (simp only [nC,jC,lA] at f51 ⊢;omega)
    have f53:x41.1.length<=1073741823:=by first | omega | (simp only [nC,jC,lA] at f51 ⊢;omega)
    refine eC [(2,0),(3,0),(0,0),(1,1),(4,0),(5,0),(6,0),(7,0)] 37 fun _ z=>?_;simp only [go_sem,seval];refine sF (jH n x46.2 1 _ h50 _ _ _ P0) ?_;simp only [go_sem,seval,eO hpP0,f52];apply z;refine aL ?_;refine aO ?_;cases h;refine ⟨by simp,?_⟩;simp only [go_sem,seval,bF,dB,cG,bK,dG hpP0,s_x2,s_x41]
   ·refine aF ?_;obtain ⟨x54,h55,h⟩:=aA h;refine aP fun _ z=>?_;simp only [go_sem,seval,c48];refine SC.bA (bW n x46.2 ([117,54,52]:cQ) _ h55 _ _ _ P0) ?_;simp only [go_sem,seval];apply z;refine eR fun _ z=>?_;simp only [go_sem,seval,eO hpP0];apply z;simp only [aK,aQ];refine aF ?_;obtain ⟨x56,h57,h⟩:=aA h;obtain ⟨f58,h⟩:=bP h;have f59:x41.1.length+1<=1073741824:=by first | omega | (simp only [nC,jC,lA] at f58 ⊢;omega)
    have f60:x41.1.length<=1073741823:=by first | omega | (simp only [nC,jC,lA] at f58 ⊢;omega)
    refine eC [(2,0),(3,0),(0,0),(1,1),(4,0),(5,0),(6,0),(7,0)] 39 fun _ z=>?_;simp only [go_sem,seval];refine sF (jH n x54 1 _ h57 _ _ _ P0) ?_;simp only [go_sem,seval,eO hpP0,f59];apply z;refine aL ?_;refine aO ?_;cases h;refine ⟨by simp,?_⟩;simp only [go_sem,seval,bF,dB,cG,bK,dG hpP0,s_x2,s_x41]
  ·refine aU ?_
   refine aF ?_;obtain ⟨x61,h62,h⟩:=aA h;obtain ⟨f63,h⟩:=bP h;have f64:x41.1.length+1<=1073741824:=by first | omega | (simp only [nC,jC,lA] at f63 ⊢;omega)
   have f65:x41.1.length<=1073741823:=by first | omega | (simp only [nC,jC,lA] at f63 ⊢;omega)
   refine eC [(2,0),(3,0),(0,0),(1,1),(4,0),(5,0),(6,0),(7,0)] 29 fun _ z=>?_;simp only [go_sem,seval,c45];refine sF (jH n x43.2 1 _ h62 _ _ _ P0) ?_;simp only [go_sem,seval,eO hpP0,f64];apply z;refine aL ?_;refine aO ?_;cases h;refine ⟨by simp,?_⟩;simp only [go_sem,seval,bF,dB,cG,bK,dG hpP0,s_x2,s_x41]
def Ib (f:cQ->Option (aB × Int × Int)):Prop:=∀a0 r,f a0=some r->∀(q:Pa) (m:M) (vs:List V),vs.map V.weak1=[.list .none (nQ a0)]/\m.gl 1=.eptr [(cA cS fO)] 0 0/\m.gl 2=.eptr [(cA cS cN)] 0 0/\m.gl 5=.eptr [(cA (cA cS) dH)] 0 0->SC prog 25 vs q m (fun v Y=>v=.tup [.agg ((aB.C r.1)),.lit (.int .i64 r.2.1),.lit (.int .i64 r.2.2)]/\Y=m)
theorem Hg (n:Nat):Ib (wT n):=by
 rintro a0 r h q m vs ⟨hv,hg1,hg2,hg5⟩;refine SC.wv hv (eD func25 call25 ntmps25 results25 ?_);unfold wT at h;refine aL ?_;refine aF ?_;obtain ⟨x2,h3,h⟩:=aA h;refine aP fun _ z=>?_;simp only [go_sem,seval];refine SC.bA (Ie n a0 _ h3 _ _ _) ?_;simp only [go_sem,seval];apply z;refine aF (aL ?_);refine bH h (fun c4 h=>?_) (fun c4 h=>?_)
 ·refine aL ?_;refine aO ?_
  try simp only [aT]
  cases h;exact jS
 ·refine aU ?_
  refine aL ?_;refine aF ?_;obtain ⟨x6,h8,h⟩:=aA h;refine aP fun _ z=>?_;simp only [go_sem,seval];refine SC.mono (gR (aC.mk x2.1 0 0 0 0) 1 _ h8 _ _ _ (16::q) (by simp only [go_sem,seval])) ?_;rintro _ _ ⟨o_x6,j_x6,s_x6,rfl,rfl⟩;replace s_x6:q <:+ o_x6:=List.IsSuffix.trans (by simp only [go_sem]) s_x6;simp only [go_sem,seval];apply z;refine aF (bM ?_);obtain ⟨y12,j12,h⟩:=aA h;refine kX (fun c X Y=>∃v10 v11,pI n c v10 v11=some y12/\X 2=.ptr (0::q) 0/\X 8=.ptr (16::q) 0/\X 9=.ptr (20::q) 0/\Y.blk (0::q)=some ([.lit (.int .i64 0),.lit (.int .i64 0),.lit (.string (bs [])),.lit (.int .u32 0),.list .self ([].map aB.C)])/\Y.blk (16::q)=some ((aC.C v10))/\Y.blk (20::q)=some ([.lit (.int .i64 v11.bX),.lit (.int .i64 v11.fR),.lit (.string (bs v11.cP)),.lit (.int .u32 v11.mM),.list .self (v11.aM.map aB.C)])/\Y.gl=m.gl/\m.back q Y=m) n ⟨x6.2,x6.1,j12,?_⟩ ?_
  ·simp only [go_sem,seval,bF,dB,cG,bK,s_x6]
  rintro i9 c13 E14 m15 ⟨v10,v11,j12,e16⟩ _
  rcases c13 with _ | c13
  ·cases j12
  rw [pI] at j12;refine aF (aF ?_);obtain ⟨y17,j17,j12⟩:=aA j12;refine fX 11 (fun X Y=>X 2=.ptr (0::q) 0/\X 8=.ptr (16::q) 0/\X 9=.ptr (20::q) 0/\X 36=.lit (.bool y17)/\Y.blk (0::q)=some ([.lit (.int .i64 0),.lit (.int .i64 0),.lit (.string (bs [])),.lit (.int .u32 0),.list .self ([].map aB.C)])/\Y.blk (16::q)=some ((aC.C v10))/\Y.blk (20::q)=some ([.lit (.int .i64 v11.bX),.lit (.int .i64 v11.fR),.lit (.string (bs v11.cP)),.lit (.int .u32 v11.mM),.list .self (v11.aM.map aB.C)])/\Y.gl=m.gl/\m.back q Y=m) ?_ ?_
  ·rcases dD j17 with ⟨c18,j17⟩ | ⟨c18,j17⟩
   ·obtain ⟨x19,h20,j17⟩:=aA j17;refine aP fun _ z=>?_;simp only [go_sem,seval,c18,e16];refine SC.bA (gL v10 _ h20 _ _ _ (16::q)) ?_;simp only [go_sem,seval];apply z;cases j17;exact jD
   ·refine aP fun _ z=>?_;simp only [go_sem,seval,c18,e16];apply z;cases j17;exact jD
  ·intro E21 m22 e23 _;refine bH j12 (fun c24 j12=>?_) (fun c24 j12=>?_)
   ·refine aU ?_
    refine bM ?_;obtain ⟨x25,h26,j12⟩:=aA j12;obtain ⟨f27,j12⟩:=bP j12;have f28:v11.aM.length+1<=1073741824:=by first | omega | (simp only [nC,jC,lA] at f27 ⊢;omega)
    have f29:v11.aM.length<=1073741823:=by first | omega | (simp only [nC,jC,lA] at f27 ⊢;omega)
    refine eC [(2,0),(3,0),(0,0),(1,1),(4,0),(5,0),(6,0),(7,0)] 19 fun _ z=>?_;simp only [go_sem,seval,e23];refine sF (yQ n v10 _ h26 _ _ _ (16::q)) ?_;simp only [go_sem,seval,f28,e23];apply z;simp only [aK,aQ];refine ⟨c13,xQ _,x25.2,({ v11 with aM:=(v11.aM++[x25.1]) }:aB),j12,?_⟩;simp only [go_sem,seval,bF,dB,cG,e23]
   ·refine dQ ?_
    try simp only [bZ,bR,↓reduceIte,aK]
    cases j12;refine aF (aL ?_);refine bH h (fun c30 h=>?_) (fun c30 h=>?_)
    ·refine aF (BN [(0,0),(9,0),(1,0),(2,0),(3,0),(4,1),(5,0),(6,0),(7,0),(8,1),(10,0),(11,0)] 40 ?_);refine aO ?_
     try simp only [aT]
     cases h;exact jS
    ·refine aU ?_
     refine aL ?_;refine aO ?_;cases h;exact jS
end Go.Proofs.YtncembphlfbgoaaGreatDoor.Abs
