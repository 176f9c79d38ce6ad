/- Lemmas of ours. -/
import Derived.Test.YtncembphlfbgoaaGreatDoorIPH8
import Derived.Test.YtncembphlfbgoaaGreatDoorIPIrun
namespace Go.Proofs.YtncembphlfbgoaaGreatDoor.Abs
open Go.RowKit Tryz
open IntKind (i64 u32 u64 u8)
set_option linter.unusedVariables false
set_option maxRecDepth 10000
@[go_sem high] theorem eqT_71_neq {x y:Operand} {C:V->Prop} {a0 b0:Int} {a1 b1:Int} {a2 b2:Int}:oZ prog .neq 71 x y (.agg [.lit (.int .i64 a0),.lit (.int .u32 a1),.lit (.int .u32 a2)]) (.agg [.lit (.int .i64 b0),.lit (.int .u32 b1),.lit (.int .u32 b2)]) C=C (.lit (.bool (!((a0 == b0) && ((a1 == b1) && (a2 == b2)))))):=by
 have h:=OB (P:=prog) (T:=71) (x:=x) (y:=y) (C:=C) (xs:=[.int .i64 a0,.int .u32 a1,.int .u32 a2]) (ys:=[.int .i64 b0,.int .u32 b1,.int .u32 b2]) (es:=[a0 == b0,a1 == b1,a2 == b2]) (by kernel_rfl) (by kernel_rfl) (by kernel_rfl) (by kernel_rfl) (by kernel_rfl);simp only [lQ,oU,List.all_cons,List.all_nil,Bool.and_true,id] at h;exact h
def AA (f:Option Bool):Prop:=∀r,f=some r->∀(q:Pa) (m:M) (vs:List V),vs.map V.weak1=[]/\(m.hp=fun _=>none)/\m.gl 0=.eptr [(cA bL.C cX)] 0 0/\m.gl 1=.eptr [(cA cS fO)] 0 0/\m.gl 2=.eptr [(cA cS cN)] 0 0/\m.gl 3=.eptr [(cA bY.C dR)] 0 0/\m.gl 5=.eptr [(cA (cA cS) dH)] 0 0->SC prog 18 vs q m (fun v Y=>v=.lit (.bool r)/\Y=m)
theorem zO (n:Nat):AA (pA n):=by
 rintro r h q m vs ⟨hv,hgh,hg0,hg1,hg2,hg3,hg5⟩;refine SC.wv hv (eD func18 call18 ntmps18 results18 ?_);unfold pA at h;refine aL ?_;refine aF ?_;obtain ⟨x1,h3,h⟩:=aA h;refine aP fun K hK=>?_;simp only [go_sem,seval];refine SC.bA (DP n ([101,120,112,111,114,116,32,102,110,32,102,40,112,58,32,112,117,98,44,32,120,58,32,117,51,50,41,32,45,62,32,117,51,50,32,123,32,114,101,116,117,114,110,32,120,32,43,32,49,48,32,47,32,112,59,32,125]:cQ) _ h3 _ _ _) ?_;simp only [go_sem,seval];apply hK;refine aF (aF ?_);obtain ⟨y4,j4,h⟩:=aA h;refine fX 20 (fun X Y=>X 1=.ptr (8::q) 0/\X 22=.lit (.bool y4)/\Y.blk (8::q)=some ((aN.C x1.1))/\Y.gl=m.gl/\Y.hp=m.hp/\m.back q Y=m) ?_ ?_
 ·rcases dD j4 with ⟨c5,j4⟩ | ⟨c5,j4⟩
  ·refine cH ?_;obtain rfl:=bO j4;exact jD
  ·refine cH ?_;obtain rfl:=bO j4;exact jD
 ·intro E6 m7 e8 _;refine bH h (fun c9 h=>?_) (fun c9 h=>?_)
  ·refine aL ?_;refine aO ?_
   try simp only [aT]
   cases h;exact jS
  ·refine aU ?_
   refine aF ?_;obtain ⟨x10,h12,h⟩:=aA h;refine aP fun K hK=>?_;simp only [go_sem,seval,e8];refine SC.bA (wN n x1.1 0 (T_interp_Args.mk [0,1] []) 9 _ h12 _ _ _) ?_;simp only [go_sem,seval];apply hK;refine aF ?_;obtain ⟨x13,h15,h⟩:=aA h;refine aP fun K hK=>?_;simp only [go_sem,seval,e8];refine SC.bA (wN n x1.1 0 (T_interp_Args.mk [3,1] []) 9 _ h15 _ _ _) ?_;simp only [go_sem,seval];apply hK;refine aF ?_;obtain ⟨y16,j16,h⟩:=aA h;refine fX 62 (fun X Y=>X 0=.lit (.bool y16)/\Y.gl=m.gl/\Y.hp=m.hp/\m.back q Y=m) ?_ ?_
   ·rcases dD j16 with ⟨c17,j16⟩ | ⟨c17,j16⟩
    ·
     rcases dD j16 with ⟨c18,j16⟩ | ⟨c18,j16⟩
     ·
      rcases dD j16 with ⟨c19,j16⟩ | ⟨c19,j16⟩
      ·
       rcases dD j16 with ⟨c20,j16⟩ | ⟨c20,j16⟩
       ·refine aP fun K hK=>?_;simp only [go_sem,seval,c17,c18,c19,c20];apply hK;obtain rfl:=bO j16;exact jD
       ·refine aP fun K hK=>?_;simp only [go_sem,seval,c17,c18,c19,c20];apply hK;obtain rfl:=bO j16;exact jD
      ·refine aP fun K hK=>?_;simp only [go_sem,seval,c17,c18,c19];apply hK;obtain rfl:=bO j16;exact jD
     ·refine cH ?_;obtain rfl:=bO j16;exact jD
    ·refine cH ?_;obtain rfl:=bO j16;exact jD
   ·intro E21 m22 e23 _;refine aO ?_;cases h;exact jS
def Bi (f:cQ->T_interp_Args->Int->Option Bool):Prop:=∀a0 a1 a2 r,f a0 a1 a2=some r->∀(q:Pa) (m:M) (vs:List V),vs.map V.weak1=[.list .none (nQ a0),.agg ((T_interp_Args.C a1)),.lit (.int .i64 a2)]->SC prog 19 vs q m (fun v Y=>v=.lit (.bool r)/\Y=m)
theorem qK:Bi (kM):=by
 intro a0 a1 a2 r h q m vs hv;refine SC.wv hv (eD func19 call19 ntmps19 results19 ?_);unfold kM at h;refine aL ?_;refine aF ?_;obtain ⟨y2,j2,h⟩:=aA h;refine fX 22 (fun X Y=>X 6=.lit (.bool y2)/\Y.gl=m.gl/\m.back q Y=m) ?_ ?_
 ·rcases dD j2 with ⟨c3,j2⟩ | ⟨c3,j2⟩
  ·refine cH ?_;obtain rfl:=bO j2;exact jD
  ·
   rcases dD j2 with ⟨c4,j2⟩ | ⟨c4,j2⟩
   ·refine cH ?_;obtain rfl:=bO j2;exact jD
   ·
    rcases dD j2 with ⟨c5,j2⟩ | ⟨c5,j2⟩
    ·refine cH ?_;obtain rfl:=bO j2;exact jD
    ·refine cH ?_;obtain rfl:=bO j2;exact jD
 ·intro E6 m7 e8 _;refine aO ?_;cases h;exact jS
def Bj (f:(List bC)->(List bC)->Option Bool):Prop:=∀a0 a1 r,f a0 a1=some r->∀(q:Pa) (m:M) (vs:List V),vs.map V.weak1=[.list .none (a0.map bC.C),.list .none (a1.map bC.C)]->SC prog 22 vs q m (fun v Y=>v=.lit (.bool r)/\Y=m)
theorem AB (n:Nat):Bj (nE n):=by
 intro a0 a1 r h q m vs hv;refine SC.wv hv (eD func22 call22 ntmps22 results22 ?_);unfold nE at h;refine aL ?_;refine aF (aL ?_);refine bH h (fun c1 h=>?_) (fun c1 h=>?_)
 ·refine aL ?_;refine aO ?_
  try simp only [aT]
  cases h;exact jS
 ·refine aU ?_
  refine aF (aL ?_);refine bM ?_;obtain ⟨y4,j4,h⟩:=aA h;refine kX (fun c X Y=>∃v3,iU a0 a1 c v3=some y4/\X 0=.list .none (a0.map bC.C)/\X 1=.list .none (a1.map bC.C)/\X 12=.lit (.int .i64 (a0.length:Int))/\X 13=.lit (.int .i64 v3)/\Y.gl=m.gl/\m.back q Y=m) n ⟨0,j4,?_⟩ ?_
  ·simp only [go_sem,seval,bK]
  rintro i2 c5 E6 m7 ⟨v3,j4,e8⟩ _
  rcases c5 with _ | c5
  ·cases j4
  rw [iU] at j4;refine aL ?_;refine aF (bH j4 (fun c9 j4=>?_) (fun c9 j4=>?_))
  ·refine aU ?_
   refine aF (bM (aL ?_));refine aF ?_;obtain ⟨x10,h15,j4⟩:=aA j4;obtain ⟨f12,f13,f14⟩:=aZ h15;obtain ⟨x11,h19,j4⟩:=aA j4;obtain ⟨f16,f17,f18⟩:=aZ h19;refine BN (o0 [0,1,2,3,4,5,6,7,8]) 12 ?_;refine bH j4 (fun c20 j4=>?_) (fun c20 j4=>?_)
   ·refine aL ?_;refine aO ?_
    try simp only [aT,bI]
    obtain rfl:=bO j4;simp only [Es] at h;cases h;exact jS
   ·refine aU ?_
    try simp only [aK,aQ]
    refine cH ?_;refine ⟨c5,xQ _,(i64.wrap (v3+1)),j4,?_⟩;simp only [go_sem,seval,e8]
  ·refine dQ ?_
   try simp only [bZ,bR,↓reduceIte,aK]
   obtain rfl:=bO j4;simp only [GH] at h;refine aL ?_;refine aO ?_;cases h;exact jS
end Go.Proofs.YtncembphlfbgoaaGreatDoor.Abs
