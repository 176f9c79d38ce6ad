import Derived.Test.YtnheknbibdgglaaGreatDoorMGFw
import Derived.Test.YtnheknbibdgglaaGreatDoorMIrun
namespace Go.Proofs.YtnheknbibdgglaaGreatDoor.Abs
open Go.RowKit Tryz
open IntKind (i64 u32 u64 u8)
set_option linter.all false
set_option maxRecDepth 10000
@[go_sem high] theorem eqT_71_neq {x y:Operand} {C:V->Prop} {a0 b0:Int} {a1 b1:Int} {a2 b2:Int}:qU prog .neq 71 x y (.agg [.li a0,.lw a1,.lw a2]) (.agg [.li b0,.lw b1,.lw b2]) C=C (.lb (!((a0 == b0) && ((a1 == b1) && (a2 == b2))))):=by
 have h:=Ry (P:=prog) (T:=71) (x:=x) (y:=y) (C:=C) (xs:=[.int .i64 a0,.int .u32 a1,.int .u32 a2]) (ys:=[.int .i64 b0,.int .u32 b1,.int .u32 b2]) (es:=[a0 == b0,a1 == b1,a2 == b2]) zd zd zd zd zd;simp only [oC,qA,List.all_cons,List.all_nil,Bool.and_true,id] at h;exact h
def Cs (f:Option Bool):Prop:=∀r,f=some r->∀(q:Pa) (m:M) (vs:List V),vs.map V.weak1=[]/\(m.hp=λ_=>none)/\m.gl 0=.eptr [(cA bK.C dD)] 0 0/\m.gl 1=.eptr [(cA cS gO)] 0 0/\m.gl 2=.eptr [(cA cS cT)] 0 0/\m.gl 6=.eptr [(cA (cA cS) dM)] 0 0->SC prog 11 vs q m (λv Y=>v=.lb r/\Y=m)
theorem Bv (n:Nat):Cs (nH n):=by
 rintro r h q m vs ⟨hv,hgh,hg0,hg1,hg2,hg6⟩;refine SC.wv hv (oE func11 call11 ntmps11 results11 ?_);unfold nH at h;refine bC ?_;refine aN ?_;obtain ⟨x1,h3,h⟩:=aD h;refine bX λK hK=>?_;simp only [go_sem,seval];refine SC.bA (FA n ((102::110::32::103::40::120::58::32::117::51::50::41::32::45::62::32::117::51::50::32::123::32::114::101::116::117::114::110::32::120::32::43::32::49::59::32::125::32::102::110::32::102::40::121::58::32::117::51::50::41::32::45::62::32::117::51::50::32::123::32::121::32::61::32::103::40::121::41::59::32::114::101::116::117::114::110::32::121::59::32::125::[]):cQ) _ h3 _ _ _) ?_;simp only [go_sem,seval];apply hK;refine aN ?_;obtain ⟨x4,h6,h⟩:=aD h;refine bX λK hK=>?_;simp only [go_sem,seval];refine SC.bA (Hq n x1.1 1 _ h6 _ _ _) ?_;simp only [go_sem,seval];apply hK;refine aN ?_;obtain ⟨y7,j7,h⟩:=aD h;refine rE 63 (λX Y=>X 0=.lb y7/\Y.gl=m.gl/\Y.hp=m.hp/\m.back q Y=m) ?_ ?_
 ·clear h;rcases mL j7 with ⟨c8,j7⟩ | ⟨c8,j7⟩
  ·
   rcases mL j7 with ⟨c9,j7⟩ | ⟨c9,j7⟩
   ·
    rcases mL j7 with ⟨c10,j7⟩ | ⟨c10,j7⟩
    ·
     rcases mL j7 with ⟨c11,j7⟩ | ⟨c11,j7⟩
     ·obtain ⟨x12,h16,j7⟩:=aD j7;obtain ⟨f13,f14,f15⟩:=aY h16;have f17:x4.1.bR[0]? = some x12:=f15
      rcases mL j7 with ⟨c18,j7⟩ | ⟨c18,j7⟩
      ·obtain ⟨x19,h23,j7⟩:=aD j7;obtain ⟨f20,f21,f22⟩:=aY h23;have f24:x4.1.bR[1]? = some x19:=f22
       rcases mL j7 with ⟨c25,j7⟩ | ⟨c25,j7⟩
       ·obtain ⟨x26,h30,j7⟩:=aD j7;obtain ⟨f27,f28,f29⟩:=aY h30;have f31:x4.1.bR[2]? = some x26:=f29;obtain rfl:=aZ j7;refine dY ?_;exact jD
       ·obtain rfl:=aZ j7;refine dY ?_;exact jD
      ·obtain rfl:=aZ j7;refine dY ?_;exact jD
     ·obtain rfl:=aZ j7;refine dY ?_;exact jD
    ·obtain rfl:=aZ j7;refine dY ?_;exact jD
   ·obtain rfl:=aZ j7;refine dY ?_;exact jD
  ·obtain rfl:=aZ j7;refine dY ?_;exact jD
 ·intro E32 m33 e34 _;refine cB ?_;cases h;exact jS
def tX (f:cQ->Int->T_interp_Args->Int->Option Bool):Prop:=∀a0 a1 a2 a3 r,f a0 a1 a2 a3=some r->∀(q:Pa) (m:M) (vs:List V),vs.map V.weak1=[.list .none (pK a0),.li a1,.agg ((T_interp_Args.C a2)),.li a3]/\(m.hp=λ_=>none)/\m.gl 0=.eptr [(cA bK.C dD)] 0 0/\m.gl 1=.eptr [(cA cS gO)] 0 0/\m.gl 2=.eptr [(cA cS cT)] 0 0/\m.gl 3=.eptr [(cA bY.C eY)] 0 0/\m.gl 6=.eptr [(cA (cA cS) dM)] 0 0->SC prog 4 vs q m (λv Y=>v=.lb r/\Y=m)
theorem zY (n:Nat):tX (lO n):=by
 rintro a0 a1 a2 a3 r h q m vs ⟨hv,hgh,hg0,hg1,hg2,hg3,hg6⟩;refine SC.wv hv (oE func4 call4 ntmps4 results4 ?_);unfold lO at h;refine bC ?_;refine aN (aN ?_);obtain ⟨x2,h3,h⟩:=aD h;refine bX λK hK=>?_;simp only [go_sem];refine SC.bA (Bv n _ h3 _ _ _) ?_;simp only [go_sem,seval];apply hK;refine cY h (λc4 h=>?_) (λc4 h=>?_)
 ·refine bC ?_;refine cB ?_
  try simp only [cE]
  cases h;exact jS
 ·refine bL ?_
  refine aN (aN ?_);obtain ⟨y5,j5,h⟩:=aD h;refine rE 23 (λX Y=>X 0=.list .none (pK a0)/\X 1=.li a1/\X 3=.li a3/\X 6=.ptr (0::q) 0/\X 41=.lb y5/\Y.blk (0::q)=some ((T_interp_Args.C a2))/\Y.gl=m.gl/\Y.hp=m.hp/\m.back q Y=m) ?_ ?_
  ·rcases mL j5 with ⟨c6,j5⟩ | ⟨c6,j5⟩
   ·refine dY ?_;obtain rfl:=aZ j5;exact jD
   ·
    rcases mL j5 with ⟨c7,j5⟩ | ⟨c7,j5⟩
    ·refine dY ?_;obtain rfl:=aZ j5;exact jD
    ·
     rcases mL j5 with ⟨c8,j5⟩ | ⟨c8,j5⟩
     ·refine dY ?_;obtain rfl:=aZ j5;exact jD
     ·refine dY ?_;obtain rfl:=aZ j5;exact jD
  ·intro E9 m10 e11 _;refine cY h (λc12 h=>?_) (λc12 h=>?_)
   ·refine bC ?_;refine cB ?_
    try simp only [cE]
    cases h;exact jS
   ·refine bL ?_
    refine aN ?_;obtain ⟨x13,h15,h⟩:=aD h;refine bX λK hK=>?_;simp only [go_sem,seval,e11];refine SC.bA (FA n a0 _ h15 _ _ _) ?_;simp only [go_sem,seval];apply hK;refine aN (bC ?_);refine cY h (λc16 h=>?_) (λc16 h=>?_)
    ·refine bC ?_;refine cB ?_
     try simp only [cE]
     cases h;exact jS
    ·refine bL ?_
     refine aN ?_;obtain ⟨x17,h19,h⟩:=aD h;refine bX λK hK=>?_;simp only [go_sem,seval,c16,e11];refine SC.bA (Hq n x13.1 a1 _ h19 _ _ _) ?_;simp only [go_sem,seval];apply hK;refine aN (bC ?_);refine cY h (λc20 h=>?_) (λc20 h=>?_)
     ·refine aN ?_;obtain ⟨y21,j21,h⟩:=aD h;refine rE 53 (λX Y=>X 8=.lb y21/\Y.gl=m.gl/\Y.hp=m.hp/\m.back q Y=m) ?_ ?_
      ·rcases mL j21 with ⟨c22,j21⟩ | ⟨c22,j21⟩
       ·refine dY ?_;obtain rfl:=aZ j21;exact jD
       ·refine dY ?_;obtain rfl:=aZ j21;exact jD
      ·intro E23 m24 e25 _;refine cB ?_
       try simp only [cE]
       cases h;exact jS
     ·refine bL ?_
      refine aN ?_;obtain ⟨x26,h28,h⟩:=aD h;refine bX λK hK=>?_;simp only [go_sem,seval,c20,e11];refine SC.bA (Gu n x13.1 a1 a2 a3 _ h28 _ _ _) ?_;simp only [go_sem,seval];apply hK;refine aN ?_;obtain ⟨x29,h31,h⟩:=aD h;refine bX λK hK=>?_;simp only [go_sem,seval,e11];refine SC.bA (Gu n (aK.mk [x17.1]) 0 a2 a3 _ h31 _ _ _) ?_;simp only [go_sem,seval];apply hK;refine aN (aN ?_);obtain ⟨y32,j32,h⟩:=aD h;refine rE 75 (λX Y=>X 14=.ptr (54::q) 0/\X 15=.li x26.2/\X 16=.ptr (66::q) 0/\X 17=.li x29.2/\X 86=.lb y32/\Y.blk (54::q)=some ((cC.C x26.1))/\Y.blk (66::q)=some ((cC.C x29.1))/\Y.gl=m.gl/\Y.hp=m.hp/\m.back q Y=m) ?_ ?_
      ·rcases mL j32 with ⟨c33,j32⟩ | ⟨c33,j32⟩
       ·refine dY ?_;obtain rfl:=aZ j32;exact jD
       ·refine dY ?_;obtain rfl:=aZ j32;exact jD
      ·intro E34 m35 e36 _;refine cY h (λc37 h=>?_) (λc37 h=>?_)
       ·refine bC ?_;refine cB ?_
        try simp only [cE]
        cases h;exact jS
       ·refine bL ?_
        refine aN (aN ?_);obtain ⟨y38,j38,h⟩:=aD h;refine rE 105 (λX Y=>X 14=.ptr (54::q) 0/\X 16=.ptr (66::q) 0/\X 121=.lb y38/\Y.blk (54::q)=some ((cC.C x26.1))/\Y.blk (66::q)=some ((cC.C x29.1))/\Y.gl=m.gl/\Y.hp=m.hp/\m.back q Y=m) ?_ ?_
        ·rcases mL j38 with ⟨c39,j38⟩ | ⟨c39,j38⟩
         ·refine dY ?_;obtain rfl:=aZ j38;exact jD
         ·
          rcases mL j38 with ⟨c40,j38⟩ | ⟨c40,j38⟩
          ·refine dY ?_;obtain rfl:=aZ j38;exact jD
          ·
           rcases mL j38 with ⟨c41,j38⟩ | ⟨c41,j38⟩
           ·refine dY ?_;obtain rfl:=aZ j38;exact jD
           ·refine dY ?_;obtain rfl:=aZ j38;exact jD
        ·intro E42 m43 e44 _;refine cY h (λc45 h=>?_) (λc45 h=>?_)
         ·refine bC ?_;refine cB ?_
          try simp only [cE]
          cases h;exact jS
         ·refine bL ?_
          refine aN (bC ?_);refine cK ?_;obtain ⟨y48,j48,h⟩:=aD h;refine rG (λc X Y=>∃v47,iR x26 x29 c v47=some y48/\X 14=.ptr (54::q) 0/\X 16=.ptr (66::q) 0/\X 124=.li (x26.1.uL.length:Int)/\X 125=.li v47/\Y.blk (54::q)=some ((cC.C x26.1))/\Y.blk (66::q)=some ((cC.C x29.1))/\Y.gl=m.gl/\Y.hp=m.hp/\m.back q Y=m) n ⟨0,j48,?_⟩ ?_
          ·simp only [go_sem,seval,e44,hgh]
          rintro i46 c49 E50 m51 ⟨v47,j48,e52⟩ _
          rcases c49 with _ | c49
          ·cases j48
          rw [iR] at j48;refine bC ?_;refine aN (cY j48 (λc53 j48=>?_) (λc53 j48=>?_))
          ·refine bL ?_
           refine aN (cK (bC ?_));refine aN ?_;obtain ⟨x54,h59,j48⟩:=aD j48;obtain ⟨f56,f57,f58⟩:=aY h59;obtain ⟨x55,h63,j48⟩:=aD j48;obtain ⟨f60,f61,f62⟩:=aY h63;refine eV λK hK=>?_;simp only [go_sem,seval,f56,f57,f58,f61,f62,e52];apply hK;refine cY j48 (λc64 j48=>?_) (λc64 j48=>?_)
           ·refine bC ?_;refine cB ?_
            try simp only [cE,gP]
            obtain rfl:=aZ j48;simp only [PQ] at h;cases h;exact jS
           ·refine bL ?_
            try simp only [aR,bJ]
            refine dY ?_;refine ⟨c49,EO _,(i64.wrap (v47+1)),j48,?_⟩;simp only [go_sem,seval,e52,hgh]
          ·refine gE ?_
           try simp only [cV,cM,↓reduceIte,aR]
           obtain rfl:=aZ j48;simp only [SP] at h;refine aN (bC ?_);refine cK ?_;obtain ⟨y67,j67,h⟩:=aD h;refine rG (λc X Y=>∃v66,gT n x26 x29 c v66=some y67/\X 14=.ptr (54::q) 0/\X 16=.ptr (66::q) 0/\X 142=.li (x26.1.iX.length:Int)/\X 143=.li v66/\Y.blk (54::q)=some ((cC.C x26.1))/\Y.blk (66::q)=some ((cC.C x29.1))/\Y.gl=m.gl/\Y.hp=m.hp/\m.back q Y=m) n ⟨0,j67,?_⟩ ?_
           ·simp only [go_sem,seval,e52,hgh]
           rintro i65 c68 E69 m70 ⟨v66,j67,e71⟩ _
           rcases c68 with _ | c68
           ·cases j67
           rw [gT] at j67;refine bC ?_;refine aN (cY j67 (λc72 j67=>?_) (λc72 j67=>?_))
           ·refine bL ?_
            refine aN (cK (bC ?_));refine aN (aN ?_);obtain ⟨x73,h78,j67⟩:=aD j67;obtain ⟨f75,f76,f77⟩:=aY h78;obtain ⟨x74,h82,j67⟩:=aD j67;obtain ⟨f79,f80,f81⟩:=aY h82;refine eV λK hK=>?_;simp only [go_sem,seval,f75,f76,f77,f80,f81,e71];apply hK;refine cY j67 (λc83 j67=>?_) (λc83 j67=>?_)
            ·refine bC ?_;refine cB ?_
             try simp only [cE,gP]
             obtain rfl:=aZ j67;simp only [PQ] at h;cases h;exact jS
            ·refine bL ?_
             refine bC ?_;refine cK ?_;obtain ⟨y86,j86,j67⟩:=aD j67;refine rG (λc X Y=>∃v85,iQ x73 x74 c v85=some y86/\X 14=.ptr (54::q) 0/\X 16=.ptr (66::q) 0/\X 19=.li v66/\X 142=.li (x26.1.iX.length:Int)/\X 143=.li v66/\X 164=.li (x73.length:Int)/\X 165=.li v85/\Y.blk (54::q)=some ((cC.C x26.1))/\Y.blk (66::q)=some ((cC.C x29.1))/\Y.gl=m.gl/\Y.hp=m.hp/\m.back q Y=m) n ⟨0,j86,?_⟩ ?_
             ·simp only [go_sem,seval,e71,hgh]
             rintro i84 c87 E88 m89 ⟨v85,j86,e90⟩ _
             rcases c87 with _ | c87
             ·cases j86
             rw [iQ] at j86;refine bC ?_;refine aN (cY j86 (λc91 j86=>?_) (λc91 j86=>?_))
             ·refine bL ?_
              refine aN (cK (bC ?_));refine aN ?_;obtain ⟨x92,h97,j86⟩:=aD j86;obtain ⟨f94,f95,f96⟩:=aY h97;obtain ⟨x93,h101,j86⟩:=aD j86;obtain ⟨f98,f99,f100⟩:=aY h101;refine eV λK hK=>?_;simp only [go_sem,seval,f75,f76,f77,f80,f81,f94,f95,f96,f99,f100,e90];apply hK;refine cY j86 (λc102 j86=>?_) (λc102 j86=>?_)
              ·refine bC ?_;refine cB ?_
               try simp only [cE,gP]
               obtain rfl:=aZ j86;simp only [PQ] at j67;obtain rfl:=aZ j67;simp only [PQ] at h;cases h;exact jS
              ·refine bL ?_
               try simp only [aR,bJ]
               refine dY ?_;refine ⟨c87,EO _,(i64.wrap (v85+1)),j86,?_⟩;simp only [go_sem,seval,e90,hgh]
             ·refine gE ?_
              try simp only [cV,cM,↓reduceIte,aR,bJ]
              obtain rfl:=aZ j86;simp only [SP] at j67;refine dY ?_;refine ⟨c68,EO _,(i64.wrap (v66+1)),j67,?_⟩;simp only [go_sem,seval,e90,hgh]
           ·refine gE ?_
            try simp only [cV,cM,↓reduceIte,aR]
            obtain rfl:=aZ j67;simp only [SP] at h;refine bC ?_;refine cB ?_;cases h;exact jS
