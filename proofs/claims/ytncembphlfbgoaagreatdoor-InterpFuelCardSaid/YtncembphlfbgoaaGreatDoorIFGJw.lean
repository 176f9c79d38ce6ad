/- Lemmas of ours. -/
import Derived.Test.YtncembphlfbgoaaGreatDoorIFH8
import Derived.Test.YtncembphlfbgoaaGreatDoorIFIrun
namespace Go.Proofs.YtncembphlfbgoaaGreatDoor.Abs
open Go.RowKit Tryz
open IntKind (i64 u32 u64 u8)
set_option linter.unusedVariables false
set_option maxRecDepth 10000
@[go_sem high] theorem eqT_71_neq {x y:Operand} {C:V->Prop} {a0 b0:Int} {a1 b1:Int} {a2 b2:Int}:oQ prog .neq 71 x y (.agg [.lit (.int .i64 a0),.lit (.int .u32 a1),.lit (.int .u32 a2)]) (.agg [.lit (.int .i64 b0),.lit (.int .u32 b1),.lit (.int .u32 b2)]) C=C (.lit (.bool (!((a0 == b0) && ((a1 == b1) && (a2 == b2)))))):=by
 have h:=NT (P:=prog) (T:=71) (x:=x) (y:=y) (C:=C) (xs:=[.int .i64 a0,.int .u32 a1,.int .u32 a2]) (ys:=[.int .i64 b0,.int .u32 b1,.int .u32 b2]) (es:=[a0 == b0,a1 == b1,a2 == b2]) (by kernel_rfl) (by kernel_rfl) (by kernel_rfl) (by kernel_rfl) (by kernel_rfl);simp only [mK,oL,List.all_cons,List.all_nil,Bool.and_true,id] at h;exact h
def Ao (f:Option Bool):Prop:=∀r,f=some r->∀(q:Pa) (m:M) (vs:List V),vs.map V.weak1=[]/\(m.hp=fun _=>none)/\m.gl 0=.eptr [(cA bM.C cZ)] 0 0/\m.gl 1=.eptr [(cA cS fN)] 0 0/\m.gl 2=.eptr [(cA cS cN)] 0 0/\m.gl 3=.eptr [(cA bW.C dY)] 0 0/\m.gl 5=.eptr [(cA (cA cS) dE)] 0 0->SC prog 18 vs q m (fun v m'=>v=.lit (.bool r)/\m'=m)
theorem zD (n:Nat):Ao (oR n):=by
 rintro r h q m vs ⟨hv,hgh,hg0,hg1,hg2,hg3,hg5⟩;refine SC.wv hv (dZ func18 call18 ntmps18 results18 ?_);unfold oR at h;refine aM ?_;simp only [go_sem];refine aF ?_;obtain ⟨x1,h3,h⟩:=aA h;refine aN fun K hK=>?_;simp only [go_sem,seval];refine SC.by_ (DC n ([101,120,112,111,114,116,32,102,110,32,102,40,112,58,32,112,117,98,44,32,120,58,32,117,51,50,41,32,45,62,32,117,51,50,32,123,32,114,101,116,117,114,110,32,120,32,43,32,49,48,32,47,32,112,59,32,125]:cR) _ h3 _ _ _ (by simp only [go_sem,seval,hgh,hg0,hg1,hg2,hg5])) ?_;simp only [go_sem,seval];apply hK;refine aF (aF ?_);obtain ⟨y4,hy4,h⟩:=aA h;refine gN 20 (fun E' m'=>E' 1=.ptr (8::q) 0/\E' 22=.lit (.bool y4)/\m'.blk (8::q)=some ((aR.C x1.1))/\m'.gl=m.gl/\m'.hp=m.hp/\m.back q m'=m) ?_ ?_
 ·rcases dH hy4 with ⟨c5,hy4⟩ | ⟨c5,hy4⟩
  ·refine aN fun K hK=>?_;simp only [go_sem,seval,c5];apply hK;obtain rfl:=bV hy4;refine ⟨by decide,?_⟩;simp only [go_sem,seval,aO,aJ,hgh]
  ·refine aN fun K hK=>?_;simp only [go_sem,seval,c5];apply hK;obtain rfl:=bV hy4;refine ⟨by decide,?_⟩;simp only [go_sem,seval,aO,aJ,hgh]
 ·intro E6 m7 e8 _;refine bJ h (fun c9 h=>?_) (fun c9 h=>?_)
  ·refine aM ?_;simp only [go_sem,seval];refine aQ ?_
   try simp only [aU]
   cases h;refine ⟨by simp,?_⟩;simp only [go_sem,seval,e8]
  ·refine aV ?_
   refine aF ?_;obtain ⟨x10,h12,h⟩:=aA h;refine aN fun K hK=>?_;simp only [go_sem,seval,e8];refine SC.by_ (wB n x1.1 0 (T_interp_Args.mk [0,1] []) 9 _ h12 _ _ _ (by simp only [go_sem,e8,hgh,hg3])) ?_;simp only [go_sem,seval];apply hK;refine aF ?_;obtain ⟨x13,h15,h⟩:=aA h;refine aN fun K hK=>?_;simp only [go_sem,seval,e8];refine SC.by_ (wB n x1.1 0 (T_interp_Args.mk [3,1] []) 9 _ h15 _ _ _ (by simp only [go_sem,e8,hgh,hg3])) ?_;simp only [go_sem,seval];apply hK;refine aF ?_;obtain ⟨y16,hy16,h⟩:=aA h;refine gN 62 (fun E' m'=>E' 0=.lit (.bool y16)/\m'.gl=m.gl/\m'.hp=m.hp/\m.back q m'=m) ?_ ?_
   ·rcases dH hy16 with ⟨c17,hy16⟩ | ⟨c17,hy16⟩
    ·
     rcases dH hy16 with ⟨c18,hy16⟩ | ⟨c18,hy16⟩
     ·
      rcases dH hy16 with ⟨c19,hy16⟩ | ⟨c19,hy16⟩
      ·
       rcases dH hy16 with ⟨c20,hy16⟩ | ⟨c20,hy16⟩
       ·refine aN fun K hK=>?_;simp only [go_sem,seval,c17,c18,c19,c20];apply hK;obtain rfl:=bV hy16;refine ⟨by decide,?_⟩;simp only [go_sem,seval,aO,e8,hgh]
       ·refine aN fun K hK=>?_;simp only [go_sem,seval,c17,c18,c19,c20];apply hK;obtain rfl:=bV hy16;refine ⟨by decide,?_⟩;simp only [go_sem,seval,aO,e8,hgh]
      ·refine aN fun K hK=>?_;simp only [go_sem,seval,c17,c18,c19];apply hK;obtain rfl:=bV hy16;refine ⟨by decide,?_⟩;simp only [go_sem,seval,aO,e8,hgh]
     ·refine aN fun K hK=>?_;simp only [go_sem,seval,c17,c18];apply hK;obtain rfl:=bV hy16;refine ⟨by decide,?_⟩;simp only [go_sem,seval,aO,e8,hgh]
    ·refine aN fun K hK=>?_;simp only [go_sem,seval,c17];apply hK;obtain rfl:=bV hy16;refine ⟨by decide,?_⟩;simp only [go_sem,seval,aO,e8,hgh]
   ·intro E21 m22 e23 _;refine aQ ?_;cases h;refine ⟨by simp,?_⟩;simp only [go_sem,e23]
def AX (f:cR->T_interp_Args->Int->Option Bool):Prop:=∀a0 a1 a2 r,f a0 a1 a2=some r->∀(q:Pa) (m:M) (vs:List V),vs.map V.weak1=[.list .none (nG a0),.agg ((T_interp_Args.C a1)),.lit (.int .i64 a2)]->SC prog 19 vs q m (fun v m'=>v=.lit (.bool r)/\m'=m)
theorem pY:AX (pG):=by
 intro a0 a1 a2 r h q m vs hv;refine SC.wv hv (dZ func19 call19 ntmps19 results19 ?_);unfold pG at h;refine aM ?_;simp only [go_sem,seval];refine aF ?_;obtain ⟨y2,hy2,h⟩:=aA h;refine gN 22 (fun E' m'=>E' 6=.lit (.bool y2)/\m'.gl=m.gl/\m.back q m'=m) ?_ ?_
 ·rcases dH hy2 with ⟨c3,hy2⟩ | ⟨c3,hy2⟩
  ·refine aN fun K hK=>?_;simp only [go_sem,seval,c3];apply hK;obtain rfl:=bV hy2;refine ⟨by decide,?_⟩;simp only [go_sem,seval,aO,aJ]
  ·
   rcases dH hy2 with ⟨c4,hy2⟩ | ⟨c4,hy2⟩
   ·refine aN fun K hK=>?_;simp only [go_sem,seval,c3,c4];apply hK;obtain rfl:=bV hy2;refine ⟨by decide,?_⟩;simp only [go_sem,seval,aO,aJ]
   ·
    rcases dH hy2 with ⟨c5,hy2⟩ | ⟨c5,hy2⟩
    ·refine aN fun K hK=>?_;simp only [go_sem,seval,c3,c4,c5];apply hK;obtain rfl:=bV hy2;refine ⟨by decide,?_⟩;simp only [go_sem,seval,aO,aJ]
    ·refine aN fun K hK=>?_;simp only [go_sem,seval,c3,c4,c5];apply hK;obtain rfl:=bV hy2;refine ⟨by decide,?_⟩;simp only [go_sem,seval,aO,aJ]
 ·intro E6 m7 e8 _;refine aQ ?_;cases h;refine ⟨by simp,?_⟩;simp only [go_sem,e8]
def BN (f:(List (List Int))->(List (List Int))->Option Bool):Prop:=∀a0 a1 r,f a0 a1=some r->∀(q:Pa) (m:M) (vs:List V),vs.map V.weak1=[.list .none (a0.map (cL (cI .u32))),.list .none (a1.map (cL (cI .u32)))]->SC prog 21 vs q m (fun v m'=>v=.lit (.bool r)/\m'=m)
theorem tX (n:Nat):BN (nX n):=by
 intro a0 a1 r h q m vs hv;refine SC.wv hv (dZ func21 call21 ntmps21 results21 ?_);unfold nX at h;refine aM ?_;simp only [go_sem];refine aF (aM ?_);simp only [go_sem,seval];refine bJ h (fun c1 h=>?_) (fun c1 h=>?_)
 ·refine aM ?_;simp only [go_sem,seval,c1];refine aQ ?_
  try simp only [aU]
  cases h;refine ⟨by simp,?_⟩;simp only [go_sem,seval,aJ]
 ·refine aV ?_
  refine aF (aM ?_);simp only [go_sem,seval,c1];refine bN ?_;obtain ⟨y4,hy4,h⟩:=aA h;refine kN (fun c E' m'=>∃v3,iY n a0 a1 c v3=some y4/\E' 0=.list .none (a0.map (cL (cI .u32)))/\E' 1=.list .none (a1.map (cL (cI .u32)))/\E' 13=.lit (.int .i64 (a0.length:Int))/\E' 14=.lit (.int .i64 v3)/\m'.gl=m.gl/\m.back q m'=m) n ⟨0,hy4,?_⟩ ?_
  ·simp only [go_sem,seval,aJ]
  rintro i2 c5 E6 m7 ⟨v3,hy4,e8⟩ _
  rcases c5 with _ | c5
  ·cases hy4
  rw [iY] at hy4;refine aM ?_;simp only [go_sem,e8];refine aF (bJ hy4 (fun c9 hy4=>?_) (fun c9 hy4=>?_))
  ·refine aV ?_
   refine aF (bN (aM ?_));simp only [go_sem,seval,c9,e8];refine aF (aF ?_);obtain ⟨x10,h15,hy4⟩:=aA hy4;obtain ⟨f12,f13,f14⟩:=aX h15;obtain ⟨x11,h19,hy4⟩:=aA hy4;obtain ⟨f16,f17,f18⟩:=aX h19;refine dR (o0 [0,1,2,3,4,5,6,7,8,9,10]) 14 fun K hK=>?_;simp only [go_sem,seval,f12,f13,f14,f17,f18,e8];apply hK;refine bJ hy4 (fun c20 hy4=>?_) (fun c20 hy4=>?_)
   ·refine aM ?_;simp only [go_sem,seval,c20];refine aQ ?_
    try simp only [aU,bK]
    obtain rfl:=bV hy4;simp only [DX] at h;cases h;refine ⟨by simp,?_⟩;simp only [go_sem,seval,e8]
   ·refine aV ?_
    refine aM ?_;simp only [go_sem,seval,f12,f13,f14,c20,e8];refine bN ?_;obtain ⟨y23,hy23,hy4⟩:=aA hy4;refine kN (fun c E' m'=>∃v22,iX x10 x11 c v22=some y23/\E' 0=.list .none (a0.map (cL (cI .u32)))/\E' 1=.list .none (a1.map (cL (cI .u32)))/\E' 5=.lit (.int .i64 v3)/\E' 13=.lit (.int .i64 (a0.length:Int))/\E' 14=.lit (.int .i64 v3)/\E' 32=.lit (.int .i64 (x10.length:Int))/\E' 33=.lit (.int .i64 v22)/\m'.gl=m.gl/\m.back q m'=m) n ⟨0,hy23,?_⟩ ?_
    ·simp only [go_sem,seval,e8]
    rintro i21 c24 E25 m26 ⟨v22,hy23,e27⟩ _
    rcases c24 with _ | c24
    ·cases hy23
    rw [iX] at hy23;refine aM ?_;simp only [go_sem,e27];refine aF (bJ hy23 (fun c28 hy23=>?_) (fun c28 hy23=>?_))
    ·refine aV ?_
     refine aF (bN (aM ?_));simp only [go_sem,seval,c28,e27];refine aF ?_;obtain ⟨x29,h34,hy23⟩:=aA hy23;obtain ⟨f31,f32,f33⟩:=aX h34;obtain ⟨x30,h38,hy23⟩:=aA hy23;obtain ⟨f35,f36,f37⟩:=aX h38;refine dR (o0 [0,1,2,3,4,5,6,7,8,9,10,11,12,13,14]) 18 fun K hK=>?_;simp only [go_sem,seval,f12,f13,f14,f17,f18,f31,f32,f33,f36,f37,e27];apply hK;refine bJ hy23 (fun c39 hy23=>?_) (fun c39 hy23=>?_)
     ·refine aM ?_;simp only [go_sem,seval,c39];refine aQ ?_
      try simp only [aU,bK]
      obtain rfl:=bV hy23;simp only [DX] at hy4;obtain rfl:=bV hy4;simp only [DX] at h;cases h;refine ⟨by simp,?_⟩;simp only [go_sem,seval,e27]
     ·refine aV ?_
      try simp only [aL,aS]
      refine aN fun K hK=>?_;simp only [go_sem,seval,c39,e27];apply hK;refine ⟨c24,xH _,(i64.wrap (v22+1)),hy23,?_⟩;simp only [go_sem,seval,e27]
    ·refine dQ ?_
     try simp only [bZ,bR,↓reduceIte,aL,aS]
     obtain rfl:=bV hy23;simp only [FW] at hy4;refine aN fun K hK=>?_;simp only [go_sem,seval,c28,e27];apply hK;refine ⟨c5,xH _,(i64.wrap (v3+1)),hy4,?_⟩;simp only [go_sem,seval,e27]
  ·refine dQ ?_
   try simp only [bZ,bR,↓reduceIte,aL]
   obtain rfl:=bV hy4;simp only [FW] at h;refine aM ?_;simp only [go_sem,seval,c9];refine aQ ?_;cases h;refine ⟨by simp,?_⟩;simp only [go_sem,seval,e8]
def AY (f:(List bA)->(List bA)->Option Bool):Prop:=∀a0 a1 r,f a0 a1=some r->∀(q:Pa) (m:M) (vs:List V),vs.map V.weak1=[.list .none (a0.map bA.C),.list .none (a1.map bA.C)]->SC prog 22 vs q m (fun v m'=>v=.lit (.bool r)/\m'=m)
theorem Ap (n:Nat):AY (mV n):=by
 intro a0 a1 r h q m vs hv;refine SC.wv hv (dZ func22 call22 ntmps22 results22 ?_);unfold mV at h;refine aM ?_;simp only [go_sem];refine aF (aM ?_);simp only [go_sem,seval];refine bJ h (fun c1 h=>?_) (fun c1 h=>?_)
 ·refine aM ?_;simp only [go_sem,seval,c1];refine aQ ?_
  try simp only [aU]
  cases h;refine ⟨by simp,?_⟩;simp only [go_sem,seval,aJ]
 ·refine aV ?_
  refine aF (aM ?_);simp only [go_sem,seval,c1];refine bN ?_;obtain ⟨y4,hy4,h⟩:=aA h;refine kN (fun c E' m'=>∃v3,iP a0 a1 c v3=some y4/\E' 0=.list .none (a0.map bA.C)/\E' 1=.list .none (a1.map bA.C)/\E' 12=.lit (.int .i64 (a0.length:Int))/\E' 13=.lit (.int .i64 v3)/\m'.gl=m.gl/\m.back q m'=m) n ⟨0,hy4,?_⟩ ?_
  ·simp only [go_sem,seval,aJ]
  rintro i2 c5 E6 m7 ⟨v3,hy4,e8⟩ _
  rcases c5 with _ | c5
  ·cases hy4
  rw [iP] at hy4;refine aM ?_;simp only [go_sem,e8];refine aF (bJ hy4 (fun c9 hy4=>?_) (fun c9 hy4=>?_))
  ·refine aV ?_
   refine aF (bN (aM ?_));simp only [go_sem,seval,c9,e8];refine aF ?_;obtain ⟨x10,h15,hy4⟩:=aA hy4;obtain ⟨f12,f13,f14⟩:=aX h15;obtain ⟨x11,h19,hy4⟩:=aA hy4;obtain ⟨f16,f17,f18⟩:=aX h19;refine dR (o0 [0,1,2,3,4,5,6,7,8]) 12 fun K hK=>?_;simp only [go_sem,seval,f12,f13,f14,f17,f18,e8];apply hK;refine bJ hy4 (fun c20 hy4=>?_) (fun c20 hy4=>?_)
   ·refine aM ?_;simp only [go_sem,seval,c20];refine aQ ?_
    try simp only [aU,bK]
    obtain rfl:=bV hy4;simp only [DX] at h;cases h;refine ⟨by simp,?_⟩;simp only [go_sem,seval,e8]
   ·refine aV ?_
    try simp only [aL,aS]
    refine aN fun K hK=>?_;simp only [go_sem,seval,c20,e8];apply hK;refine ⟨c5,xH _,(i64.wrap (v3+1)),hy4,?_⟩;simp only [go_sem,seval,e8]
  ·refine dQ ?_
   try simp only [bZ,bR,↓reduceIte,aL]
   obtain rfl:=bV hy4;simp only [FW] at h;refine aM ?_;simp only [go_sem,seval,c9];refine aQ ?_;cases h;refine ⟨by simp,?_⟩;simp only [go_sem,seval,e8]
def rJ (f:cR->Int->T_interp_Args->Int->Int->Option Bool):Prop:=∀a0 a1 a2 a3 a4 r,f a0 a1 a2 a3 a4=some r->∀(q:Pa) (m:M) (vs:List V),vs.map V.weak1=[.list .none (nG a0),.lit (.int .i64 a1),.agg ((T_interp_Args.C a2)),.lit (.int .i64 a3),.lit (.int .i64 a4)]/\(m.hp=fun _=>none)/\m.gl 0=.eptr [(cA bM.C cZ)] 0 0/\m.gl 1=.eptr [(cA cS fN)] 0 0/\m.gl 2=.eptr [(cA cS cN)] 0 0/\m.gl 3=.eptr [(cA bW.C dY)] 0 0/\m.gl 5=.eptr [(cA (cA cS) dE)] 0 0->SC prog 5 vs q m (fun v m'=>v=.lit (.bool r)/\m'=m)
theorem wJ (n:Nat):rJ (gY n):=by
 rintro a0 a1 a2 a3 a4 r h q m vs ⟨hv,hgh,hg0,hg1,hg2,hg3,hg5⟩;refine SC.wv hv (dZ func5 call5 ntmps5 results5 ?_);unfold gY at h;refine aM ?_;simp only [go_sem,seval];refine aF (aF ?_);obtain ⟨x2,h3,h⟩:=aA h;refine aN fun K hK=>?_;simp only [go_sem];refine SC.by_ (zD n _ h3 _ _ _ (by simp only [go_sem,hgh,hg0,hg1,hg2,hg3,hg5])) ?_;simp only [go_sem,seval];apply hK;refine bJ h (fun c4 h=>?_) (fun c4 h=>?_)
 ·refine aM ?_;simp only [go_sem,seval,c4];refine aQ ?_
  try simp only [aU]
  cases h;refine ⟨by simp,?_⟩;simp only [go_sem,seval,aO,aJ]
 ·refine aV ?_
  refine aF (aF ?_);obtain ⟨y5,hy5,h⟩:=aA h;refine gN 17 (fun E' m'=>E' 0=.list .none (nG a0)/\E' 1=.lit (.int .i64 a1)/\E' 3=.lit (.int .i64 a3)/\E' 4=.lit (.int .i64 a4)/\E' 7=.ptr (0::q) 0/\E' 32=.lit (.bool y5)/\m'.blk (0::q)=some ((T_interp_Args.C a2))/\m'.gl=m.gl/\m'.hp=m.hp/\m.back q m'=m) ?_ ?_
  ·obtain ⟨x6,h7,hy5⟩:=aA hy5
   rcases dH hy5 with ⟨c8,hy5⟩ | ⟨c8,hy5⟩
   ·refine aN fun K hK=>?_;simp only [go_sem,seval,c4];refine SC.by_ (pY a0 a2 a3 _ h7 _ _ _ (by simp only [go_sem])) ?_;simp only [go_sem,seval,c8];apply hK;obtain rfl:=bV hy5;refine ⟨by decide,?_⟩;simp only [go_sem,seval,aO,aJ,hgh]
   ·
    rcases dH hy5 with ⟨c9,hy5⟩ | ⟨c9,hy5⟩
    ·refine aN fun K hK=>?_;simp only [go_sem,seval,c4];refine SC.by_ (pY a0 a2 a3 _ h7 _ _ _ (by simp only [go_sem])) ?_;simp only [go_sem,seval,c8,c9];apply hK;obtain rfl:=bV hy5;refine ⟨by decide,?_⟩;simp only [go_sem,seval,aO,aJ,hgh]
    ·refine aN fun K hK=>?_;simp only [go_sem,seval,c4];refine SC.by_ (pY a0 a2 a3 _ h7 _ _ _ (by simp only [go_sem])) ?_;simp only [go_sem,seval,c8,c9];apply hK;obtain rfl:=bV hy5;refine ⟨by decide,?_⟩;simp only [go_sem,seval,aO,aJ,hgh]
  ·intro E10 m11 e12 _;refine bJ h (fun c13 h=>?_) (fun c13 h=>?_)
   ·refine aM ?_;simp only [go_sem,seval];refine aQ ?_
    try simp only [aU]
    cases h;refine ⟨by simp,?_⟩;simp only [go_sem,seval,e12]
   ·refine aV ?_
    refine aF ?_;obtain ⟨x14,h16,h⟩:=aA h;refine aN fun K hK=>?_;simp only [go_sem,seval,e12];refine SC.by_ (DC n a0 _ h16 _ _ _ (by simp only [go_sem,e12,hgh,hg0,hg1,hg2,hg5])) ?_;simp only [go_sem,seval];apply hK;refine aF (aM ?_);simp only [go_sem,seval];refine bJ h (fun c17 h=>?_) (fun c17 h=>?_)
    ·refine aM ?_;simp only [go_sem,seval,c17];refine aQ ?_
     try simp only [aU]
     cases h;refine ⟨by simp,?_⟩;simp only [go_sem,seval,aO,e12]
    ·refine aV ?_
     refine aF ?_;obtain ⟨x18,h20,h⟩:=aA h;refine aN fun K hK=>?_;simp only [go_sem,seval,c17,e12];refine SC.by_ (wB n x14.1 a1 a2 a3 _ h20 _ _ _ (by simp only [go_sem,e12,hgh,hg3])) ?_;simp only [go_sem,seval];apply hK;refine aF ?_;obtain ⟨x21,h23,h⟩:=aA h;refine aN fun K hK=>?_;simp only [go_sem,seval,e12];refine SC.by_ (wB n x14.1 a1 a2 a4 _ h23 _ _ _ (by simp only [go_sem,e12,hgh,hg3])) ?_;simp only [go_sem,seval];apply hK;refine aF (aM ?_);simp only [go_sem,seval];refine bJ h (fun c24 h=>?_) (fun c24 h=>?_)
     ·refine aF ?_;obtain ⟨y25,hy25,h⟩:=aA h;refine gN 64 (fun E' m'=>E' 10=.lit (.bool y25)/\m'.gl=m.gl/\m'.hp=m.hp/\m.back q m'=m) ?_ ?_
      ·rcases dH hy25 with ⟨c26,hy25⟩ | ⟨c26,hy25⟩
       ·refine aN fun K hK=>?_;simp only [go_sem,seval,c24,c26];apply hK;obtain rfl:=bV hy25;refine ⟨by decide,?_⟩;simp only [go_sem,seval,aO,e12,hgh]
       ·
        rcases dH hy25 with ⟨c27,hy25⟩ | ⟨c27,hy25⟩
        ·refine aN fun K hK=>?_;simp only [go_sem,seval,c24,c26,c27];apply hK;obtain rfl:=bV hy25;refine ⟨by decide,?_⟩;simp only [go_sem,seval,aO,e12,hgh]
        ·refine aN fun K hK=>?_;simp only [go_sem,seval,c24,c26,c27];apply hK;obtain rfl:=bV hy25;refine ⟨by decide,?_⟩;simp only [go_sem,seval,aO,e12,hgh]
      ·intro E28 m29 e30 _;refine aQ ?_
       try simp only [aU]
       cases h;refine ⟨by simp,?_⟩;simp only [go_sem,e30]
     ·refine aV ?_
      refine aF ?_;obtain ⟨y31,hy31,h⟩:=aA h;refine gN 84 (fun E' m'=>E' 10=.lit (.bool y31)/\m'.gl=m.gl/\m'.hp=m.hp/\m.back q m'=m) ?_ ?_
      ·rcases dH hy31 with ⟨c32,hy31⟩ | ⟨c32,hy31⟩
       ·
        rcases dH hy31 with ⟨c33,hy31⟩ | ⟨c33,hy31⟩
        ·
         rcases dH hy31 with ⟨c34,hy31⟩ | ⟨c34,hy31⟩
         ·obtain ⟨x35,h36,hy31⟩:=aA hy31
          rcases dH hy31 with ⟨c37,hy31⟩ | ⟨c37,hy31⟩
          ·obtain ⟨x38,h39,hy31⟩:=aA hy31;refine aN fun K hK=>?_;simp only [go_sem,seval,c24,c32,c33,c34];refine SC.by_ (tX n x18.1.kD x21.1.kD _ h36 _ _ _ (by simp only [go_sem])) ?_;simp only [go_sem,seval,c37];refine SC.by_ (Ap n x18.1.Cr x21.1.Cr _ h39 _ _ _ (by simp only [go_sem])) ?_;simp only [go_sem,seval];apply hK;obtain rfl:=bV hy31;refine ⟨by decide,?_⟩;simp only [go_sem,seval,aO,e12,hgh]
          ·refine aN fun K hK=>?_;simp only [go_sem,seval,c24,c32,c33,c34];refine SC.by_ (tX n x18.1.kD x21.1.kD _ h36 _ _ _ (by simp only [go_sem])) ?_;simp only [go_sem,seval,c37];apply hK;obtain rfl:=bV hy31;refine ⟨by decide,?_⟩;simp only [go_sem,seval,aO,e12,hgh]
         ·refine aN fun K hK=>?_;simp only [go_sem,seval,c24,c32,c33,c34];apply hK;obtain rfl:=bV hy31;refine ⟨by decide,?_⟩;simp only [go_sem,seval,aO,e12,hgh]
        ·refine aN fun K hK=>?_;simp only [go_sem,seval,c24,c32,c33];apply hK;obtain rfl:=bV hy31;refine ⟨by decide,?_⟩;simp only [go_sem,seval,aO,e12,hgh]
       ·refine aN fun K hK=>?_;simp only [go_sem,seval,c24,c32];apply hK;obtain rfl:=bV hy31;refine ⟨by decide,?_⟩;simp only [go_sem,seval,aO,e12,hgh]
      ·intro E40 m41 e42 _;refine aQ ?_;cases h;refine ⟨by simp,?_⟩;simp only [go_sem,e42]
end Go.Proofs.YtncembphlfbgoaaGreatDoor.Abs
