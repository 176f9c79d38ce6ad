/-
 Walks: each function does what its model says. Written by a program of mine (gen.py) for this claim.
-/
import Derived.Test.YtldnmmnnohnpkaaGreatDoorILH8
import Derived.Test.YtldnmmnnohnpkaaGreatDoorILIrun
import Derived.Test.YtldnmmnnohnpkaaGreatDoorILGMm
namespace Go.Proofs.YtldnmmnnohnpkaaGreatDoor.Abs
set_option linter.unusedVariables false
open Go.RowKit
set_option maxRecDepth 10000
def zh0 (f:Option Bool):Prop:=∀r,f=some r->∀(q:Pa) (m:M) (vs:List V),vs.map V.weak1=[]/\(m.hp=fun _=>none)/\m.gl 0=.eptr [(cA zaJ.C zbx)] 0 0/\m.gl 1=.eptr [(cA zaE.C za3)] 0 0/\m.gl 2=.eptr [(cA cS zcz)] 0 0/\m.gl 3=.eptr [(cA cS zaZ)] 0 0/\m.gl 5=.eptr [(cA (cA cS) zbq)] 0 0->SC Tryz.prog 27 vs q m (fun v m'=>v=.lit (.bool r)/\m'=m)
theorem zhB (n:Nat):zh0 (zdY n):=by
 rintro r h q m vs ⟨hv,hgh,hg0,hg1,hg2,hg3,hg5⟩;refine SC.weak ?_;rw [hv];refine SC_w Tryz.func27 rfl (fun xs w=>Tryz.call27 xs w) Tryz.ntmps27 (by kernel_rfl) Tryz.results27 ?_;unfold zdY at h;refine zan fun K hK=>?_;simp only [go_sem];apply hK;refine zah ?_;obtain ⟨x1,h3,h⟩:=bind_some h;refine zao fun K hK=>?_;simp only [go_sem,seval];refine SC.by_ (zka n ([101,120,112,111,114,116,32,102,110,32,102,40,112,58,32,112,117,98,44,32,120,58,32,117,51,50,41,32,45,62,32,117,51,50,32,123,32,114,101,116,117,114,110,32,120,32,43,32,49,48,32,47,32,112,59,32,125]:Str) _ h3 _ _ _ (by simp only [go_sem,UInt8.reduceToNat,hgh,hg1,hg2,hg3,hg5])) ?_;simp only [go_sem,seval];apply hK;refine zah ?_;refine zah ?_;obtain ⟨y4,hy4,h⟩:=bind_some h;refine zbf 20 [] [] rfl (fun E' m'=>E' 1=.ptr (8::q) 0/\E' 22=.lit (.bool y4)/\m'.blk (8::q)=some ((zas.C x1.1))/\m'.gl=m.gl/\m'.hp=m.hp/\m.back q m'=m) ?_ ?_
 ·rcases za9 (x1.2.1 != (0:Int)) with c5 | c5
  ·replace hy4:=zaA c5 hy4;refine zao fun K hK=>?_;simp only [go_sem,seval,c5];apply hK;obtain rfl:=zag hy4;refine ⟨by decide,?_⟩;simp only [go_sem,seval,zam,zak,hgh]
  ·replace hy4:=zaB c5 hy4;refine zao fun K hK=>?_;simp only [go_sem,seval,c5];apply hK;obtain rfl:=zag hy4;refine ⟨by decide,?_⟩;simp only [go_sem,seval,zam,zak,hgh]
 ·intro E6 m7 e8 _;simp only [zaa];refine zbF y4 (by simp only [go_sem,e8]) (fun c9=>?_) (fun c9=>?_)
  ·replace h:=zaA c9 h;refine zan fun K hK=>?_;simp only [go_sem,Nat.reduceAdd];apply hK;refine zau ?_
   try simp only [zat]
   obtain rfl:=zag h;refine ⟨by simp,?_⟩;simp only [go_sem,↓reduceIte,e8]
  ·replace h:=zaB c9 h;refine zav ?_
   try simp only [zaa]
   refine zah ?_;obtain ⟨x10,h12,h⟩:=bind_some h;refine zao fun K hK=>?_;simp only [go_sem,seval,e8];refine SC.by_ (ziO n x1.1 (0:Int) (zbi.mk [(0:Int),(1:Int)] []) (9:Int) _ h12 _ _ _ (by simp only [go_sem,e8,hgh,hg0])) ?_;simp only [go_sem,seval];apply hK;refine zah ?_;obtain ⟨x13,h15,h⟩:=bind_some h;refine zao fun K hK=>?_;simp only [go_sem,seval,e8];refine SC.by_ (ziO n x1.1 (0:Int) (zbi.mk [(3:Int),(1:Int)] []) (9:Int) _ h15 _ _ _ (by simp only [go_sem,e8,hgh,hg0])) ?_;simp only [go_sem,seval];apply hK;refine zah ?_;obtain ⟨y16,hy16,h⟩:=bind_some h;refine zbf 62 [] [] rfl (fun E' m'=>E' 0=.lit (.bool y16)/\m'.gl=m.gl/\m'.hp=m.hp/\m.back q m'=m) ?_ ?_
   ·rcases za9 (x10.2 == (0:Int)) with c17 | c17
    ·replace hy16:=zaA c17 hy16
     rcases za9 (x13.2 == (0:Int)) with c18 | c18
     ·replace hy16:=zaA c18 hy16
      rcases za9 (x10.1.znm == (2:Int)) with c19 | c19
      ·replace hy16:=zaA c19 hy16
       rcases za9 (x13.1.znm == (0:Int)) with c20 | c20
       ·replace hy16:=zaA c20 hy16;refine zao fun K hK=>?_;simp only [go_sem,seval,c17,c18,c19,c20];apply hK;obtain rfl:=zag hy16;refine ⟨by decide,?_⟩;simp only [go_sem,↓reduceIte,zam,e8,hgh]
       ·replace hy16:=zaB c20 hy16;refine zao fun K hK=>?_;simp only [go_sem,seval,c17,c18,c19,c20];apply hK;obtain rfl:=zag hy16;refine ⟨by decide,?_⟩;simp only [go_sem,↓reduceIte,zam,e8,hgh]
      ·replace hy16:=zaB c19 hy16;refine zao fun K hK=>?_;simp only [go_sem,seval,c17,c18,c19];apply hK;obtain rfl:=zag hy16;refine ⟨by decide,?_⟩;simp only [go_sem,↓reduceIte,zam,e8,hgh]
     ·replace hy16:=zaB c18 hy16;refine zao fun K hK=>?_;simp only [go_sem,seval,c17,c18];apply hK;obtain rfl:=zag hy16;refine ⟨by decide,?_⟩;simp only [go_sem,↓reduceIte,zam,e8,hgh]
    ·replace hy16:=zaB c17 hy16;refine zao fun K hK=>?_;simp only [go_sem,seval,c17];apply hK;obtain rfl:=zag hy16;refine ⟨by decide,?_⟩;simp only [go_sem,↓reduceIte,zam,e8,hgh]
   ·intro E21 m22 e23 _;simp only [zaa];refine zau ?_;obtain rfl:=zag h;refine ⟨by simp,?_⟩;simp only [go_sem,e23]
def zjn (f:Str->(List Int)->Option (Int × Bool)):Prop:=∀a0 a1 r,f a0 a1=some r->∀(q:Pa) (m:M) (vs:List V),vs.map V.weak1=[.lit (.string (bs a0)),.list .none (a1.map (cI .u64))]/\(m.hp=fun _=>none)/\m.gl 0=.eptr [(cA zaJ.C zbx)] 0 0/\m.gl 1=.eptr [(cA zaE.C za3)] 0 0/\m.gl 2=.eptr [(cA cS zcz)] 0 0/\m.gl 3=.eptr [(cA cS zaZ)] 0 0/\m.gl 5=.eptr [(cA (cA cS) zbq)] 0 0->SC Tryz.prog 32 vs q m (fun v m'=>v=.tup [.lit (.int .u64 r.1),.lit (.bool r.2)]/\m'=m)
theorem zdg (n:Nat):zjn (za8 n):=by
 rintro a0 a1 r h q m vs ⟨hv,hgh,hg0,hg1,hg2,hg3,hg5⟩;refine SC.weak ?_;rw [hv];refine SC_w Tryz.func32 rfl (fun xs w=>Tryz.call32 xs w) Tryz.ntmps32 (by kernel_rfl) Tryz.results32 ?_;unfold za8 at h;refine zan fun K hK=>?_;simp only [go_sem,Nat.reduceAdd];apply hK;refine zah ?_;obtain ⟨f3,h⟩:=zaM h;have f4:a0.length<=4611686018427387904:=by first | omega | (simp only [List.length_append,List.length_cons,List.length_nil] at f3 ⊢;omega)
 obtain ⟨x1,h5,h⟩:=bind_some h;refine zao fun K hK=>?_;simp only [go_sem,seval,f3];refine SC.by_ (zka n a0 _ h5 _ _ _ (by simp only [go_sem,hgh,hg1,hg2,hg3,hg5])) ?_;simp only [go_sem,seval];apply hK;refine zah ?_;refine zan fun K hK=>?_;simp only [go_sem,seval];apply hK;refine zbn (x1.2.1 != (0:Int)) (fun c6=>?_) (fun c6=>?_)
 ·replace h:=zaA c6 h;refine zan fun K hK=>?_;simp only [go_sem,Nat.reduceAdd,c6];apply hK;refine zau ?_
  try simp only [zat]
  obtain rfl:=zag h;refine ⟨by simp,?_⟩;simp only [go_sem,seval,zam,zak]
 ·replace h:=zaB c6 h;refine zav ?_
  try simp only [zaa]
  refine zah ?_;obtain ⟨x7,h9,h⟩:=bind_some h;refine zao fun K hK=>?_;simp only [go_sem,seval,c6];refine SC.by_ (ziO n x1.1 (0:Int) (zbi.mk a1 []) (1000:Int) _ h9 _ _ _ (by simp only [go_sem,hgh,hg0])) ?_;simp only [go_sem,seval];apply hK;refine zah ?_;obtain ⟨y10,hy10,h⟩:=bind_some h;refine zbf 36 [] [] rfl (fun E' m'=>E' 4=.lit (.int .u64 y10.1)/\E' 5=.lit (.bool y10.2)/\m'.gl=m.gl/\m'.hp=m.hp/\m.back q m'=m) ?_ ?_
  ·rcases za9 (x7.2 == (0:Int)) with c11 | c11
   ·replace hy10:=zaA c11 hy10;refine zaO (tbl:=[0,1,0,4,12,28,60,124,252,31,1023]) (ord:=[(0,0),(1,0),(2,0),(3,0),(4,0),(5,0),(6,0),(7,0),(8,0),(9,0),(10,0)]) 36 rfl (by kernel_rfl) (by kernel_rfl) fun K hK=>?_;simp only [go_sem,seval,c11];apply hK;simp only [zaa];obtain rfl:=zag hy10;refine ⟨by decide,?_⟩;simp only [go_sem,seval,zam,zak,hgh]
   ·replace hy10:=zaB c11 hy10;refine zaO (tbl:=[0,1,0,4,12,28,60,124,252,31,1023]) (ord:=[(0,0),(1,0),(2,0),(3,0),(4,0),(5,0),(6,0),(7,0),(8,0),(9,0),(10,0)]) 36 rfl (by kernel_rfl) (by kernel_rfl) fun K hK=>?_;simp only [go_sem,seval,c11];apply hK;simp only [zaa];obtain rfl:=zag hy10;refine ⟨by decide,?_⟩;simp only [go_sem,seval,zam,zak,hgh]
  ·intro E12 m13 e14 _;simp only [zaa];refine zau ?_;obtain rfl:=zag h;refine ⟨by simp,?_⟩;simp only [go_sem,e14]
def zgG (f:Int->Int->Option Bool):Prop:=∀a0 a1 r,f a0 a1=some r->∀(q:Pa) (m:M) (vs:List V),vs.map V.weak1=[.lit (.int .u64 a0),.lit (.int .u64 a1)]/\(m.hp=fun _=>none)/\m.gl 0=.eptr [(cA zaJ.C zbx)] 0 0/\m.gl 1=.eptr [(cA zaE.C za3)] 0 0/\m.gl 2=.eptr [(cA cS zcz)] 0 0/\m.gl 3=.eptr [(cA cS zaZ)] 0 0/\m.gl 5=.eptr [(cA (cA cS) zbq)] 0 0->SC Tryz.prog 9 vs q m (fun v m'=>v=.lit (.bool r)/\m'=m)
theorem zgq (n:Nat):zgG (zcl n):=by
 rintro a0 a1 r h q m vs ⟨hv,hgh,hg0,hg1,hg2,hg3,hg5⟩;refine SC.weak ?_;rw [hv];refine SC_w Tryz.func9 rfl (fun xs w=>Tryz.call9 xs w) Tryz.ntmps9 (by kernel_rfl) Tryz.results9 ?_;unfold zcl at h;refine zan fun K hK=>?_;simp only [go_sem];apply hK;refine zah ?_;refine zah ?_;obtain ⟨x1,h2,h⟩:=bind_some h;refine zao fun K hK=>?_;simp only [go_sem];refine SC.by_ (zhB n _ h2 _ _ _ (by simp only [go_sem,hgh,hg0,hg1,hg2,hg3,hg5])) ?_;simp only [go_sem,seval];apply hK;refine zbn (!x1) (fun c3=>?_) (fun c3=>?_)
 ·replace h:=zaA c3 h;refine zan fun K hK=>?_;simp only [go_sem,Nat.reduceAdd,c3];apply hK;refine zau ?_
  try simp only [zat]
  obtain rfl:=zag h;refine ⟨by simp,?_⟩;simp only [go_sem,↓reduceIte,zak]
 ·replace h:=zaB c3 h;refine zav ?_
  try simp only [zaa]
  refine zah ?_;obtain ⟨x4,h5,h⟩:=bind_some h;refine zao fun K hK=>?_;simp only [go_sem,seval,c3];refine SC.by_ (zdg n ([102,110,32,102,40,120,58,32,117,54,52,44,32,121,58,32,117,54,52,41,32,45,62,32,117,54,52,32,123,32,114,101,116,117,114,110,32,120,32,43,32,121,32,45,32,121,59,32,125]:Str) [a0,a1] _ h5 _ _ _ (by simp only [go_sem,hgh,hg0,hg1,hg2,hg3,hg5])) ?_;simp only [go_sem,seval];apply hK;refine zah ?_;obtain ⟨x6,h7,h⟩:=bind_some h;refine zao fun K hK=>?_;simp only [go_sem,seval];refine SC.by_ (zdg n (102::110::32::102::40::120::58::32::117::54::52::44::32::121::58::32::117::54::52::41::32::45::62::32::117::54::52::32::123::32::114::101::116::117::114::110::32::108::111::110::103::40::104::105::40::120::41::41::32::60::60::32::51::50::32::124::32::108::111::110::103::40::108::111::40::120::41::41::59::32::125::[]:Str) [a0,a1] _ h7 _ _ _ (by simp only [go_sem,hgh,hg0,hg1,hg2,hg3,hg5])) ?_;simp only [go_sem,seval];apply hK;refine zah ?_;obtain ⟨x8,h9,h⟩:=bind_some h;refine zao fun K hK=>?_;simp only [go_sem,seval];refine SC.by_ (zdg n ([102,110,32,102,40,120,58,32,117,54,52,44,32,121,58,32,117,54,52,41,32,45,62,32,117,54,52,32,123,32,114,101,116,117,114,110,32,40,120,32,60,60,60,32,51,55,41,32,60,60,60,32,50,55,59,32,125]:Str) [a0,a1] _ h9 _ _ _ (by simp only [go_sem,hgh,hg0,hg1,hg2,hg3,hg5])) ?_;simp only [go_sem,seval];apply hK;refine zah ?_;obtain ⟨x10,h11,h⟩:=bind_some h;refine zao fun K hK=>?_;simp only [go_sem,seval];refine SC.by_ (zdg n (102::110::32::102::40::120::58::32::117::54::52::44::32::121::58::32::117::54::52::41::32::45::62::32::117::54::52::32::123::32::114::101::116::117::114::110::32::108::111::110::103::40::40::120::32::60::32::121::41::32::43::32::40::121::32::60::32::120::41::32::43::32::40::120::32::61::61::32::121::41::41::59::32::125::[]:Str) [a0,a1] _ h11 _ _ _ (by simp only [go_sem,hgh,hg0,hg1,hg2,hg3,hg5])) ?_;simp only [go_sem,seval];apply hK;refine zah ?_;obtain ⟨x12,h13,h⟩:=bind_some h;refine zao fun K hK=>?_;simp only [go_sem,seval];refine SC.by_ (zdg n (102::110::32::102::40::120::58::32::117::54::52::44::32::121::58::32::117::54::52::41::32::45::62::32::117::54::52::32::123::32::114::101::116::117::114::110::32::119::105::100::101::40::108::111::40::120::41::44::32::108::111::40::121::41::41::32::45::32::119::105::100::101::40::108::111::40::121::41::44::32::108::111::40::120::41::41::32::43::32::115::101::108::101::99::116::40::49::44::32::120::44::32::121::41::59::32::125::[]:Str) [a0,a1] _ h13 _ _ _ (by simp only [go_sem,hgh,hg0,hg1,hg2,hg3,hg5])) ?_;simp only [go_sem,seval];apply hK;refine zah ?_;obtain ⟨y14,hy14,h⟩:=bind_some h;refine zbf 86 [] [] rfl (fun E' m'=>E' 4=.lit (.bool y14)/\m'.gl=m.gl/\m'.hp=m.hp/\m.back q m'=m) ?_ ?_
  ·rcases za9 x4.2 with c15 | c15
   ·replace hy14:=zaA c15 hy14
    rcases za9 x6.2 with c16 | c16
    ·replace hy14:=zaA c16 hy14
     rcases za9 x8.2 with c17 | c17
     ·replace hy14:=zaA c17 hy14
      rcases za9 x10.2 with c18 | c18
      ·replace hy14:=zaA c18 hy14
       rcases za9 x12.2 with c19 | c19
       ·replace hy14:=zaA c19 hy14
        rcases za9 (x4.1 == a0) with c20 | c20
        ·replace hy14:=zaA c20 hy14
         rcases za9 (x6.1 == a0) with c21 | c21
         ·replace hy14:=zaA c21 hy14
          rcases za9 (x8.1 == a0) with c22 | c22
          ·replace hy14:=zaA c22 hy14
           rcases za9 (x10.1 == (1:Int)) with c23 | c23
           ·replace hy14:=zaA c23 hy14;refine zao fun K hK=>?_;simp only [go_sem,seval,c15,c16,c17,c18,c19,c20,c21,c22,c23];apply hK;obtain rfl:=zag hy14;refine ⟨by decide,?_⟩;simp only [go_sem,↓reduceIte,zak,hgh]
           ·replace hy14:=zaB c23 hy14;refine zao fun K hK=>?_;simp only [go_sem,seval,c15,c16,c17,c18,c19,c20,c21,c22,c23];apply hK;obtain rfl:=zag hy14;refine ⟨by decide,?_⟩;simp only [go_sem,↓reduceIte,zak,hgh]
          ·replace hy14:=zaB c22 hy14;refine zao fun K hK=>?_;simp only [go_sem,seval,c15,c16,c17,c18,c19,c20,c21,c22];apply hK;obtain rfl:=zag hy14;refine ⟨by decide,?_⟩;simp only [go_sem,↓reduceIte,zak,hgh]
         ·replace hy14:=zaB c21 hy14;refine zao fun K hK=>?_;simp only [go_sem,seval,c15,c16,c17,c18,c19,c20,c21];apply hK;obtain rfl:=zag hy14;refine ⟨by decide,?_⟩;simp only [go_sem,↓reduceIte,zak,hgh]
        ·replace hy14:=zaB c20 hy14;refine zao fun K hK=>?_;simp only [go_sem,seval,c15,c16,c17,c18,c19,c20];apply hK;obtain rfl:=zag hy14;refine ⟨by decide,?_⟩;simp only [go_sem,↓reduceIte,zak,hgh]
       ·replace hy14:=zaB c19 hy14;refine zao fun K hK=>?_;simp only [go_sem,seval,c15,c16,c17,c18,c19];apply hK;obtain rfl:=zag hy14;refine ⟨by decide,?_⟩;simp only [go_sem,↓reduceIte,zak,hgh]
      ·replace hy14:=zaB c18 hy14;refine zao fun K hK=>?_;simp only [go_sem,seval,c15,c16,c17,c18];apply hK;obtain rfl:=zag hy14;refine ⟨by decide,?_⟩;simp only [go_sem,↓reduceIte,zak,hgh]
     ·replace hy14:=zaB c17 hy14;refine zao fun K hK=>?_;simp only [go_sem,seval,c15,c16,c17];apply hK;obtain rfl:=zag hy14;refine ⟨by decide,?_⟩;simp only [go_sem,↓reduceIte,zak,hgh]
    ·replace hy14:=zaB c16 hy14;refine zao fun K hK=>?_;simp only [go_sem,seval,c15,c16];apply hK;obtain rfl:=zag hy14;refine ⟨by decide,?_⟩;simp only [go_sem,↓reduceIte,zak,hgh]
   ·replace hy14:=zaB c15 hy14;refine zao fun K hK=>?_;simp only [go_sem,seval,c15];apply hK;obtain rfl:=zag hy14;refine ⟨by decide,?_⟩;simp only [go_sem,↓reduceIte,zak,hgh]
  ·intro E24 m25 e26 _;simp only [zaa];refine zau ?_;obtain rfl:=zag h;refine ⟨by simp,?_⟩;simp only [go_sem,e26]
end Go.Proofs.YtldnmmnnohnpkaaGreatDoor.Abs
