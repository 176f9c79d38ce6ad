/-
 Walks: each function does what its model says. Written by a program of mine (gen.py) for this claim.
-/
import Derived.Test.YtldnmmnnohnpkaaDoorNuS3
import Derived.Test.YtldnmmnnohnpkaaDoorNuGMm
import Derived.Test.YtldnmmnnohnpkaaDoorNuFacts
import Derived.Test.YtldnmmnnohnpkaaDoorNuH1
import Derived.Test.YtldnmmnnohnpkaaDoorNuH4
namespace Go.Proofs.YtldnmmnnohnpkaaDoor.Abs
open Go.RowKit
set_option linter.unusedVariables false
set_option maxRecDepth 10000
def zkK (f : Int -> Option Bool) : Prop := ∀ a0 r, f a0 = some r -> ∀ (q : Pa) (m : M) (vs : List V), vs.map V.weak1 = [.lit (.int .u8 a0)] -> SC Tryd.prog 43 vs q m (fun v m' => v = .lit (.bool r) /\ m' = m)
theorem zkg : zkK (zhV) := by
 intro a0 r h q m vs hv; refine SC.weak ?_; rw [hv]; refine SC_w Tryd.func43 rfl (fun xs w => Tryd.call43 xs w) Tryd.ntmps43 (by kernel_rfl) Tryd.results43 ?_; unfold zhV at h; refine zan fun _ z => ?_; simp only [go_sem]; apply z; refine zai ?_; obtain ⟨y1, hy1, h⟩ := bind_some h; refine zbe 16 [] [] rfl (fun E' m' => E' 2 = .lit (.bool y1) /\ m'.gl = m.gl /\ m.back q m' = m) ?_ ?_
 ·rcases zbb (a0 == (32 : Int)) with c2 | c2
  ·replace hy1 := zaE c2 hy1; refine zao fun _ z => ?_; simp only [go_sem, seval, c2]; apply z; obtain rfl := zah hy1; refine ⟨by decide, ?_⟩; simp only [go_sem, ↓reduceIte, zaj]
  ·replace hy1 := zaF c2 hy1
   rcases zbb (a0 == (9 : Int)) with c3 | c3
   ·replace hy1 := zaE c3 hy1; refine zao fun _ z => ?_; simp only [go_sem, seval, c2, c3]; apply z; obtain rfl := zah hy1; refine ⟨by decide, ?_⟩; simp only [go_sem, ↓reduceIte, zaj]
   ·replace hy1 := zaF c3 hy1
    rcases zbb (a0 == (13 : Int)) with c4 | c4
    ·replace hy1 := zaE c4 hy1; refine zao fun _ z => ?_; simp only [go_sem, seval, c2, c3, c4]; apply z; obtain rfl := zah hy1; refine ⟨by decide, ?_⟩; simp only [go_sem, ↓reduceIte, zaj]
    ·replace hy1 := zaF c4 hy1; refine zao fun _ z => ?_; simp only [go_sem, seval, c2, c3, c4]; apply z; obtain rfl := zah hy1; refine ⟨by decide, ?_⟩; simp only [go_sem, ↓reduceIte, zaj]
 ·intro E5 m6 e7 _; simp only [zac]; refine zar ?_; obtain rfl := zah h; refine ⟨by simp, ?_⟩; simp only [go_sem, e7]
def ze3 (f : Str -> Str -> Option Bool) : Prop := ∀ a0 a1 r, f a0 a1 = some r -> ∀ (q : Pa) (m : M) (vs : List V), vs.map V.weak1 = [.lit (.string (bs a0)), .lit (.string (bs a1))] -> SC Tryd.prog 64 vs q m (fun v m' => v = .lit (.bool r) /\ m' = m)
theorem zdp : ze3 (zbt) := by
 intro a0 a1 r h q m vs hv; refine SC.weak ?_; rw [hv]; refine SC_w Tryd.func64 rfl (fun xs w => Tryd.call64 xs w) Tryd.ntmps64 (by kernel_rfl) Tryd.results64 ?_; unfold zbt at h; refine zan fun _ z => ?_; simp only [go_sem]; apply z; refine zai ?_; obtain ⟨y1, hy1, h⟩ := bind_some h; refine zbe 15 [] [] rfl (fun E' m' => E' 4 = .lit (.bool y1) /\ m'.gl = m.gl /\ m.back q m' = m) ?_ ?_
 ·rcases zbb (decide ((a1.length : Int) <= (a0.length : Int))) with c2 | c2
  ·replace hy1 := zaE c2 hy1; obtain ⟨⟨f3, f4⟩, hy1⟩ := zaO hy1; refine zao fun _ z => ?_; simp only [go_sem, seval, f3, f4]; apply z; obtain rfl := zah hy1; refine ⟨by decide, ?_⟩; simp only [go_sem, ↓reduceIte, zaj]
  ·replace hy1 := zaF c2 hy1; refine zao fun _ z => ?_; simp only [go_sem, seval, c2]; apply z; obtain rfl := zah hy1; refine ⟨by decide, ?_⟩; simp only [go_sem, ↓reduceIte, zaj]
 ·intro E5 m6 e7 _; simp only [zac]; refine zar ?_; obtain rfl := zah h; refine ⟨by simp, ?_⟩; simp only [go_sem, e7]
def zim (f : Str -> Str -> Option Bool) : Prop := ∀ a0 a1 r, f a0 a1 = some r -> ∀ (q : Pa) (m : M) (vs : List V), vs.map V.weak1 = [.lit (.string (bs a0)), .lit (.string (bs a1))] -> SC Tryd.prog 44 vs q m (fun v m' => v = .lit (.bool r) /\ m' = m)
theorem zfD : zim (zdb) := by
 intro a0 a1 r h q m vs hv; refine SC.weak ?_; rw [hv]; refine SC_w Tryd.func44 rfl (fun xs w => Tryd.call44 xs w) Tryd.ntmps44 (by kernel_rfl) Tryd.results44 ?_; unfold zdb at h; refine zan fun _ z => ?_; simp only [go_sem]; apply z; refine zai ?_; obtain ⟨x1, h2, h⟩ := bind_some h; refine zao fun _ z => ?_; simp only [go_sem, seval]; refine SC.by_ (zdp a0 a1 _ h2 _ _ _ (by simp only [go_sem])) ?_; simp only [go_sem, seval]; apply z; refine zar ?_; obtain rfl := zah h; refine ⟨by simp, ?_⟩; simp only [go_sem, ↓reduceIte, zaj]
def zeQ (f : Str -> Int -> Option Int) : Prop := ∀ a0 a1 r, f a0 a1 = some r -> ∀ (q : Pa) (m : M) (vs : List V), vs.map V.weak1 = [.lit (.string (bs a0)), .lit (.int .u8 a1)] -> SC Tryd.prog 85 vs q m (fun v m' => v = .lit (.int .i64 r) /\ m' = m)
theorem zeI : zeQ zdx := by
 intro a0 a1 r h q m vs hv; refine SC.weak ?_; rw [hv]; obtain rfl := zah h; intro c xs w h1 h2 h3; obtain ⟨x, xs, rfl, k1, k2⟩ := h2.uncons; obtain ⟨y, rfl, k3⟩ := k2.inv_one; obtain rfl := k1.inv_lit; obtain rfl := k3.inv_lit; refine .inr ⟨.int .i64 (Lib.indexByte a0 a1.toNat.toUInt8), w, ?_, _, c, _, m, rfl, ⟨rfl, rfl⟩, h1, .refl q c m w, .lit .nil⟩; rw [run_callFunc_extern (fn := Tryd.f85) (e := Extern.BytealgIndexByte.indexByte) Tryd.func85 (by kernel_rfl) (by kernel_rfl) (by kernel_rfl) (by rfl)]; have := Lib.run_indexByteString (P := Tryd.prog) (bs a0) a1 w; rw [this]; rfl
def ze2 (f : Str -> Int -> Option Int) : Prop := ∀ a0 a1 r, f a0 a1 = some r -> ∀ (q : Pa) (m : M) (vs : List V), vs.map V.weak1 = [.lit (.string (bs a0)), .lit (.int .u8 a1)] -> SC Tryd.prog 65 vs q m (fun v m' => v = .lit (.int .i64 r) /\ m' = m)
theorem zeW : ze2 (zcQ) := by
 intro a0 a1 r h q m vs hv; refine SC.weak ?_; rw [hv]; refine SC_w Tryd.func65 rfl (fun xs w => Tryd.call65 xs w) Tryd.ntmps65 (by kernel_rfl) Tryd.results65 ?_; unfold zcQ at h; refine zan fun _ z => ?_; simp only [go_sem]; apply z; refine zai ?_; obtain ⟨x1, h2, h⟩ := bind_some h; refine zao fun _ z => ?_; simp only [go_sem, seval]; refine SC.by_ (zeI a0 a1 _ h2 _ _ _ (by simp only [go_sem])) ?_; simp only [go_sem, seval]; apply z; refine zar ?_; obtain rfl := zah h; refine ⟨by simp, ?_⟩; simp only [go_sem, ↓reduceIte, zaj]
def zil (f : Str -> Int -> Option Int) : Prop := ∀ a0 a1 r, f a0 a1 = some r -> ∀ (q : Pa) (m : M) (vs : List V), vs.map V.weak1 = [.lit (.string (bs a0)), .lit (.int .u8 a1)] -> SC Tryd.prog 45 vs q m (fun v m' => v = .lit (.int .i64 r) /\ m' = m)
theorem zeu : zil (zda) := by
 intro a0 a1 r h q m vs hv; refine SC.weak ?_; rw [hv]; refine SC_w Tryd.func45 rfl (fun xs w => Tryd.call45 xs w) Tryd.ntmps45 (by kernel_rfl) Tryd.results45 ?_; unfold zda at h; refine zan fun _ z => ?_; simp only [go_sem]; apply z; refine zai ?_; obtain ⟨x1, h2, h⟩ := bind_some h; refine zao fun _ z => ?_; simp only [go_sem, seval]; refine SC.by_ (zeW a0 a1 _ h2 _ _ _ (by simp only [go_sem])) ?_; simp only [go_sem, seval]; apply z; refine zar ?_; obtain rfl := zah h; refine ⟨by simp, ?_⟩; simp only [go_sem, ↓reduceIte, zaj]
def zlt (f : Str -> Int -> Option Int) : Prop := ∀ a0 a1 r, f a0 a1 = some r -> ∀ (q : Pa) (m : M) (vs : List V), vs.map V.weak1 = [.lit (.string (bs a0)), .lit (.int .i64 a1)] -> SC Tryd.prog 31 vs q m (fun v m' => v = .lit (.int .i64 r) /\ m' = m)
theorem zje (n : Nat) : zlt (zfI n) := by
 intro a0 a1 r h q m vs hv; refine SC.weak ?_; rw [hv]; refine SC_w Tryd.func31 rfl (fun xs w => Tryd.call31 xs w) Tryd.ntmps31 (by kernel_rfl) Tryd.results31 ?_; unfold zfI at h; refine zan fun _ z => ?_; simp only [go_sem]; apply z; refine zai ?_; refine zaH ?_; obtain ⟨y3, hy3, h⟩ := bind_some h; refine zbm [] [] rfl (fun c E' m' => ∃ v2, zdv a0 c v2 = some y3 /\ E' 0 = .lit (.string (bs a0)) /\ E' 1 = .lit (.int .i64 v2) /\ m'.gl = m.gl /\ m.back q m' = m) n ⟨a1, hy3, ?_⟩ ?_
 ·simp only [go_sem, seval, zaj]
 rintro i1 c4 E5 m6 ⟨v2, hy3, e7⟩ _
 rcases c4 with _ | c4
 ·exact absurd hy3 (by rw [zdv]; exact fun e => nomatch e)
 rw [zdv] at hy3; refine zai ?_; refine zan fun _ z => ?_; simp only [go_sem, seval, e7]; apply z; refine zcg (decide (v2 < (a0.length : Int))) (by simp only [go_sem, ↓reduceIte]) (fun c8 => ?_) (fun c8 => ?_)
 ·replace hy3 := zaE c8 hy3; refine zaw ?_
  try simp only [zac]
  refine zaH ?_; refine zaH ?_; refine zai ?_; obtain ⟨x9, h14, hy3⟩ := bind_some hy3; obtain ⟨f11, f12, f13⟩ := zaA h14; obtain ⟨x10, h15, hy3⟩ := bind_some hy3; refine zao fun _ z => ?_; simp only [go_sem, seval, f11, f12, f13, e7]; refine SC.by_ (zkg (x9.toNat : Int) _ h15 _ _ _ (by simp only [go_sem])) ?_; simp only [go_sem, seval]; apply z; refine zby x10 (fun c16 => ?_) (fun c16 => ?_)
  ·replace hy3 := zaE c16 hy3; refine zcW fun _ z => ?_; simp only [go_sem, seval, c16, e7]; apply z; simp only [zac, zap]; refine ⟨c4, Nat.lt_succ_self _, (IntKind.i64.wrap (v2 + (1 : Int))), hy3, ?_⟩; simp only [go_sem, seval, e7]
  ·replace hy3 := zaF c16 hy3; refine zai ?_; obtain ⟨⟨f18, f19⟩, hy3⟩ := zaO hy3; obtain ⟨x17, h20, hy3⟩ := bind_some hy3; refine zao fun _ z => ?_; simp only [go_sem, seval, f11, c16, f19, e7]; refine SC.by_ (zfD (a0.drop v2.toNat) ([47, 47] : Str) _ h20 _ _ _ (by simp only [go_sem])) ?_; simp only [go_sem, seval]; apply z; refine zby x17 (fun c21 => ?_) (fun c21 => ?_)
   ·replace hy3 := zaE c21 hy3; refine zai ?_; obtain ⟨⟨f23, f24⟩, hy3⟩ := zaO hy3; obtain ⟨x22, h25, hy3⟩ := bind_some hy3; refine zao fun _ z => ?_; simp only [go_sem, seval, f11, f19, c21, e7]; refine SC.by_ (zeu (a0.drop v2.toNat) (10 : Int) _ h25 _ _ _ (by simp only [go_sem])) ?_; simp only [go_sem, seval]; apply z; refine zai ?_; refine zan fun _ z => ?_; simp only [go_sem, seval]; apply z; refine zcg (decide (x22 < (0 : Int))) (by simp only [go_sem, ↓reduceIte]) (fun c26 => ?_) (fun c26 => ?_)
    ·replace hy3 := zaE c26 hy3; refine zan fun _ z => ?_; simp only [go_sem, seval, c26, e7]; apply z; refine zar ?_
     try simp only [zax, zaL]
     obtain rfl := zah hy3; simp only [Sum.elim_inr] at h; obtain rfl := zah h; refine ⟨by simp, ?_⟩; simp only [go_sem, ↓reduceIte, e7]
    ·replace hy3 := zaF c26 hy3; refine zaw ?_
     try simp only [zac]
     refine zcW fun _ z => ?_; simp only [go_sem, seval, c26, e7]; apply z; simp only [zac, zap]; refine ⟨c4, Nat.lt_succ_self _, (IntKind.i64.wrap (v2 + x22)), hy3, ?_⟩; simp only [go_sem, seval, e7]
   ·replace hy3 := zaF c21 hy3; refine zan fun _ z => ?_; simp only [go_sem, seval, c21, e7]; apply z; refine zar ?_
    try simp only [zax, zaL]
    obtain rfl := zah hy3; simp only [Sum.elim_inr] at h; obtain rfl := zah h; refine ⟨by simp, ?_⟩; simp only [go_sem, ↓reduceIte, e7]
 ·replace hy3 := zaF c8 hy3; refine zbP ?_
  try simp only [zaU, zaK, ↓reduceIte, zac]
  obtain rfl := zah hy3; simp only [Sum.elim_inl] at h; refine zan fun _ z => ?_; simp only [go_sem, seval, c8, e7]; apply z; refine zar ?_; obtain rfl := zah h; refine ⟨by simp, ?_⟩; simp only [go_sem, ↓reduceIte, e7]
def zki (f : Int -> Option Bool) : Prop := ∀ a0 r, f a0 = some r -> ∀ (q : Pa) (m : M) (vs : List V), vs.map V.weak1 = [.lit (.int .u8 a0)] -> SC Tryd.prog 47 vs q m (fun v m' => v = .lit (.bool r) /\ m' = m)
theorem zha : zki (zfO) := by
 intro a0 r h q m vs hv; refine SC.weak ?_; rw [hv]; refine SC_w Tryd.func47 rfl (fun xs w => Tryd.call47 xs w) Tryd.ntmps47 (by kernel_rfl) Tryd.results47 ?_; unfold zfO at h; refine zan fun _ z => ?_; simp only [go_sem]; apply z; refine zai ?_; obtain ⟨y1, hy1, h⟩ := bind_some h; refine zbe 12 [] [] rfl (fun E' m' => E' 2 = .lit (.bool y1) /\ m'.gl = m.gl /\ m.back q m' = m) ?_ ?_
 ·rcases zbb (decide ((97 : Int) <= a0)) with c2 | c2
  ·replace hy1 := zaE c2 hy1
   rcases zbb (decide (a0 <= (122 : Int))) with c3 | c3
   ·replace hy1 := zaE c3 hy1; refine zao fun _ z => ?_; simp only [go_sem, seval, c2, c3]; apply z; obtain rfl := zah hy1; refine ⟨by decide, ?_⟩; simp only [go_sem, ↓reduceIte, zaj]
   ·replace hy1 := zaF c3 hy1; refine zao fun _ z => ?_; simp only [go_sem, seval, c2, c3]; apply z; obtain rfl := zah hy1; refine ⟨by decide, ?_⟩; simp only [go_sem, ↓reduceIte, zaj]
  ·replace hy1 := zaF c2 hy1; refine zao fun _ z => ?_; simp only [go_sem, seval, c2]; apply z; obtain rfl := zah hy1; refine ⟨by decide, ?_⟩; simp only [go_sem, ↓reduceIte, zaj]
 ·intro E4 m5 e6 _; simp only [zac]; refine zar ?_; obtain rfl := zah h; refine ⟨by simp, ?_⟩; simp only [go_sem, e6]
def zkL (f : Int -> Option Bool) : Prop := ∀ a0 r, f a0 = some r -> ∀ (q : Pa) (m : M) (vs : List V), vs.map V.weak1 = [.lit (.int .u8 a0)] -> SC Tryd.prog 48 vs q m (fun v m' => v = .lit (.bool r) /\ m' = m)
theorem ziX : zkL (zgQ) := by
 intro a0 r h q m vs hv; refine SC.weak ?_; rw [hv]; refine SC_w Tryd.func48 rfl (fun xs w => Tryd.call48 xs w) Tryd.ntmps48 (by kernel_rfl) Tryd.results48 ?_; unfold zgQ at h; refine zan fun _ z => ?_; simp only [go_sem]; apply z; refine zai ?_; obtain ⟨y1, hy1, h⟩ := bind_some h; refine zbe 8 [] [] rfl (fun E' m' => E' 2 = .lit (.bool y1) /\ m'.gl = m.gl /\ m.back q m' = m) ?_ ?_
 ·rcases zbb (decide ((48 : Int) <= a0)) with c2 | c2
  ·replace hy1 := zaE c2 hy1; refine zao fun _ z => ?_; simp only [go_sem, seval, c2]; apply z; obtain rfl := zah hy1; refine ⟨by decide, ?_⟩; simp only [go_sem, ↓reduceIte, zaj]
  ·replace hy1 := zaF c2 hy1; refine zao fun _ z => ?_; simp only [go_sem, seval, c2]; apply z; obtain rfl := zah hy1; refine ⟨by decide, ?_⟩; simp only [go_sem, ↓reduceIte, zaj]
 ·intro E3 m4 e5 _; simp only [zac]; refine zar ?_; obtain rfl := zah h; refine ⟨by simp, ?_⟩; simp only [go_sem, e5]
def zls (f : Str -> Option Str) : Prop := ∀ a0 r, f a0 = some r -> ∀ (q : Pa) (m : M) (vs : List V), vs.map V.weak1 = [.lit (.string (bs a0))] -> SC Tryd.prog 46 vs q m (fun v m' => v = .lit (.string (bs r)) /\ m' = m)
theorem zkG (n : Nat) : zls (zh6 n) := by
 intro a0 r h q m vs hv; refine SC.weak ?_; rw [hv]; refine SC_w Tryd.func46 rfl (fun xs w => Tryd.call46 xs w) Tryd.ntmps46 (by kernel_rfl) Tryd.results46 ?_; unfold zh6 at h; refine zan fun _ z => ?_; simp only [go_sem]; apply z; refine zai ?_; refine zan fun _ z => ?_; simp only [go_sem, seval]; apply z; refine zaH ?_; obtain ⟨y3, hy3, h⟩ := bind_some h; refine zbm [] [] rfl (fun c E' m' => ∃ v2, zeG a0 c v2 = some y3 /\ E' 0 = .lit (.string (bs a0)) /\ E' 5 = .lit (.int .i64 (a0.length : Int)) /\ E' 6 = .lit (.int .i64 v2) /\ m'.gl = m.gl /\ m.back q m' = m) n ⟨(0 : Int), hy3, ?_⟩ ?_
 ·simp only [go_sem, seval, zaj]
 rintro i1 c4 E5 m6 ⟨v2, hy3, e7⟩ _
 rcases c4 with _ | c4
 ·exact absurd hy3 (by rw [zeG]; exact fun e => nomatch e)
 rw [zeG] at hy3; refine zan fun _ z => ?_; simp only [go_sem, e7]; apply z; refine zai ?_; refine zcg (decide (v2 < (a0.length : Int))) (by simp only [go_sem, ↓reduceIte]) (fun c8 => ?_) (fun c8 => ?_)
 ·replace hy3 := zaE c8 hy3; refine zaw ?_
  try simp only [zac]
  refine zai ?_; refine zaH ?_; refine zan fun _ z => ?_; simp only [go_sem, seval, c8, e7]; apply z; refine zai ?_; obtain ⟨y9, hy9, hy3⟩ := bind_some hy3; refine zbe 15 [] [] rfl (fun E' m' => E' 0 = .lit (.string (bs a0)) /\ E' 3 = .lit (.int .i64 v2) /\ E' 5 = .lit (.int .i64 (a0.length : Int)) /\ E' 6 = .lit (.int .i64 v2) /\ E' 20 = .lit (.bool y9) /\ m'.gl = m.gl /\ m.back q m' = m) ?_ ?_
  ·obtain ⟨x10, h15, hy9⟩ := bind_some hy9; obtain ⟨f12, f13, f14⟩ := zaA h15; obtain ⟨x11, h16, hy9⟩ := bind_some hy9
   rcases zbb (!x11) with c17 | c17
   ·replace hy9 := zaE c17 hy9; obtain ⟨x18, h19, hy9⟩ := bind_some hy9; refine zao fun _ z => ?_; simp only [go_sem, seval, f12, f14, e7]; refine SC.by_ (zha (x10.toNat : Int) _ h16 _ _ _ (by simp only [go_sem])) ?_; simp only [go_sem, seval, f12, f14, c17, e7]; refine SC.by_ (ziX (x10.toNat : Int) _ h19 _ _ _ (by simp only [go_sem])) ?_; simp only [go_sem, seval]; apply z; obtain rfl := zah hy9; refine ⟨by decide, ?_⟩; simp only [go_sem, seval, e7]
   ·replace hy9 := zaF c17 hy9; refine zao fun _ z => ?_; simp only [go_sem, seval, f12, f14, e7]; refine SC.by_ (zha (x10.toNat : Int) _ h16 _ _ _ (by simp only [go_sem])) ?_; simp only [go_sem, seval, c17]; apply z; obtain rfl := zah hy9; refine ⟨by decide, ?_⟩; simp only [go_sem, seval, e7]
  ·intro E20 m21 e22 _; simp only [zac]; refine zcg y9 (by simp only [go_sem, e22]) (fun c23 => ?_) (fun c23 => ?_)
   ·replace hy3 := zaE c23 hy3; refine zai ?_; obtain ⟨⟨f24, f25⟩, hy3⟩ := zaO hy3; refine zao fun _ z => ?_; simp only [go_sem, seval, f24, f25, e22]; apply z; refine zar ?_
    try simp only [zax, zaL]
    obtain rfl := zah hy3; simp only [Sum.elim_inr] at h; obtain rfl := zah h; refine ⟨by simp, ?_⟩; simp only [go_sem, ↓reduceIte, e22]
   ·replace hy3 := zaF c23 hy3; refine zaw ?_
    try simp only [zac, zap]
    refine zao fun _ z => ?_; simp only [go_sem, seval, e22]; apply z; refine ⟨c4, Nat.lt_succ_self _, (IntKind.i64.wrap (v2 + (1 : Int))), hy3, ?_⟩; simp only [go_sem, seval, e22]
 ·replace hy3 := zaF c8 hy3; refine zbP ?_
  try simp only [zaU, zaK, ↓reduceIte, zac]
  obtain rfl := zah hy3; simp only [Sum.elim_inl] at h; refine zan fun _ z => ?_; simp only [go_sem, seval, c8, e7]; apply z; refine zar ?_; obtain rfl := zah h; refine ⟨by simp, ?_⟩; simp only [go_sem, ↓reduceIte, e7]
def ze4 (f : Str -> Str -> Option (Str × Bool)) : Prop := ∀ a0 a1 r, f a0 a1 = some r -> ∀ (q : Pa) (m : M) (vs : List V), vs.map V.weak1 = [.lit (.string (bs a0)), .lit (.string (bs a1))] -> SC Tryd.prog 86 vs q m (fun v m' => v = .tup [.lit (.string (bs r.1)), .lit (.bool r.2)] /\ m' = m)
theorem zeX : ze4 (zb1) := by
 intro a0 a1 r h q m vs hv; refine SC.weak ?_; rw [hv]; refine SC_w Tryd.func86 rfl (fun xs w => Tryd.call86 xs w) Tryd.ntmps86 (by kernel_rfl) Tryd.results86 ?_; unfold zb1 at h; refine zan fun _ z => ?_; simp only [go_sem, Nat.reduceAdd]; apply z; refine zai ?_; refine zai ?_; obtain ⟨x1, h2, h⟩ := bind_some h; refine zao fun _ z => ?_; simp only [go_sem, seval]; refine SC.by_ (zdp a0 a1 _ h2 _ _ _ (by simp only [go_sem])) ?_; simp only [go_sem, seval]; apply z; refine zby (!x1) (fun c3 => ?_) (fun c3 => ?_)
 ·replace h := zaE c3 h; refine zan fun _ z => ?_; simp only [go_sem, seval, c3]; apply z; refine zar ?_
  try simp only [zax]
  obtain rfl := zah h; refine ⟨by simp, ?_⟩; simp only [go_sem, seval, zaj]
 ·replace h := zaF c3 h; refine zaw ?_
  try simp only [zac]
  refine zai ?_; obtain ⟨⟨f4, f5⟩, h⟩ := zaO h; refine zao fun _ z => ?_; simp only [go_sem, seval, c3, f4, f5]; apply z; refine zar ?_; obtain rfl := zah h; refine ⟨by simp, ?_⟩; simp only [go_sem, seval, zaj]
def zin (f : Str -> Str -> Option (Str × Bool)) : Prop := ∀ a0 a1 r, f a0 a1 = some r -> ∀ (q : Pa) (m : M) (vs : List V), vs.map V.weak1 = [.lit (.string (bs a0)), .lit (.string (bs a1))] -> SC Tryd.prog 66 vs q m (fun v m' => v = .tup [.lit (.string (bs r.1)), .lit (.bool r.2)] /\ m' = m)
theorem zh8 : zin (zdC) := by
 intro a0 a1 r h q m vs hv; refine SC.weak ?_; rw [hv]; refine SC_w Tryd.func66 rfl (fun xs w => Tryd.call66 xs w) Tryd.ntmps66 (by kernel_rfl) Tryd.results66 ?_; unfold zdC at h; refine zan fun _ z => ?_; simp only [go_sem, Nat.reduceAdd]; apply z; refine zai ?_; obtain ⟨x1, h2, h⟩ := bind_some h; refine zao fun _ z => ?_; simp only [go_sem, seval]; refine SC.by_ (zeX a0 a1 _ h2 _ _ _ (by simp only [go_sem])) ?_; simp only [go_sem, seval]; apply z; refine zar ?_; obtain rfl := zah h; refine ⟨by simp, ?_⟩; simp only [go_sem, seval, zaj]
def zkH (f : Str -> Option (Int × Bool)) : Prop := ∀ a0 r, f a0 = some r -> ∀ (q : Pa) (m : M) (vs : List V), vs.map V.weak1 = [.lit (.string (bs a0))] -> SC Tryd.prog 49 vs q m (fun v m' => v = .tup [.lit (.int .u32 r.1), .lit (.bool r.2)] /\ m' = m)
theorem zkf (n : Nat) : zkH (zfX n) := by
 intro a0 r h q m vs hv; refine SC.weak ?_; rw [hv]; refine SC_w Tryd.func49 rfl (fun xs w => Tryd.call49 xs w) Tryd.ntmps49 (by kernel_rfl) Tryd.results49 ?_; unfold zfX at h; refine zan fun _ z => ?_; simp only [go_sem, Nat.reduceAdd]; apply z; refine zan fun _ z => ?_; simp only [go_sem, Nat.reduceAdd]; apply z; refine zai ?_; refine zai ?_; obtain ⟨x1, h2, h⟩ := bind_some h; refine zao fun _ z => ?_; simp only [go_sem, seval]; refine SC.by_ (zh8 a0 ([48, 120] : Str) _ h2 _ _ _ (by simp only [go_sem])) ?_; simp only [go_sem, seval]; apply z; refine zan fun _ z => ?_; simp only [go_sem, seval]; apply z; refine zby x1.2 (fun c3 => ?_) (fun c3 => ?_)
 ·replace h := zaE c3 h; refine zao fun _ z => ?_; simp only [go_sem, seval, c3]; apply z; refine zan fun _ z => ?_; simp only [go_sem, Nat.reduceAdd]; apply z; refine zai ?_; refine zan fun _ z => ?_; simp only [go_sem, seval]; apply z; refine zaH ?_; obtain ⟨y7, hy7, h⟩ := bind_some h; refine zbm [] [] rfl (fun c E' m' => ∃ v5 v6, zep x1 c v5 v6 = some y7 /\ E' 0 = .lit (.string (bs x1.1)) /\ E' 4 = .lit (.int .i64 (16 : Int)) /\ E' 7 = .lit (.int .i64 v5) /\ E' 18 = .lit (.int .i64 (x1.1.length : Int)) /\ E' 19 = .lit (.int .i64 v6) /\ m'.gl = m.gl /\ m.back q m' = m) n ⟨(0 : Int), (0 : Int), hy7, ?_⟩ ?_
  ·simp only [go_sem, seval, zaj]
  rintro i4 c8 E9 m10 ⟨v5, v6, hy7, e11⟩ _
  rcases c8 with _ | c8
  ·exact absurd hy7 (by rw [zep]; exact fun e => nomatch e)
  rw [zep] at hy7; refine zan fun _ z => ?_; simp only [go_sem, e11]; apply z; refine zai ?_; refine zcg (decide (v6 < (x1.1.length : Int))) (by simp only [go_sem, ↓reduceIte]) (fun c12 => ?_) (fun c12 => ?_)
  ·replace hy7 := zaE c12 hy7; refine zaw ?_
   try simp only [zac]
   refine zai ?_; refine zaH ?_; refine zan fun _ z => ?_; simp only [go_sem, seval, c12, e11]; apply z; refine zai ?_; obtain ⟨⟨f15, f16⟩, hy7⟩ := zaO hy7; obtain ⟨x13, h20, hy7⟩ := bind_some hy7; obtain ⟨f17, f18, f19⟩ := zaA h20; obtain ⟨x14, h21, hy7⟩ := bind_some hy7; refine zaP (tbl := [0, 1, 0, 0, 12, 31, 63]) (ord := [(0, 0), (1, 0), (2, 0), (3, 0), (4, 0), (5, 0), (6, 0)]) 10 rfl (by kernel_rfl) (by kernel_rfl) fun _ z => ?_; simp only [go_sem, seval, Int.reduceToNat, f15, f17, f19, e11]; refine zaJ (zeu (([48, 49, 50, 51, 52, 53, 54, 55, 56, 57, 97, 98, 99, 100, 101, 102] : Str).take (16 : Int).toNat) (x13.toNat : Int) _ h21 _ _ _ (by simp only [go_sem, Int.reduceToNat])) rfl ?_; simp only [go_sem, ↓reduceIte]; apply z; simp only [zac]; refine zan fun _ z => ?_; simp only [go_sem, seval, e11]; apply z; refine zai ?_; obtain ⟨y22, hy22, hy7⟩ := bind_some hy7; refine zbe 22 [] [] rfl (fun E' m' => E' 0 = .lit (.string (bs x1.1)) /\ E' 4 = .lit (.int .i64 (16 : Int)) /\ E' 7 = .lit (.int .i64 (IntKind.i64.wrap ((IntKind.i64.wrap (v5 * (16 : Int))) + x14))) /\ E' 18 = .lit (.int .i64 (x1.1.length : Int)) /\ E' 19 = .lit (.int .i64 v6) /\ E' 38 = .lit (.bool y22) /\ m'.gl = m.gl /\ m.back q m' = m) ?_ ?_
   ·rcases zbb (decide (x14 < (0 : Int))) with c23 | c23
    ·replace hy22 := zaE c23 hy22; refine zao fun _ z => ?_; simp only [go_sem, seval, c23]; apply z; obtain rfl := zah hy22; refine ⟨by decide, ?_⟩; simp only [go_sem, seval, e11]
    ·replace hy22 := zaF c23 hy22; refine zao fun _ z => ?_; simp only [go_sem, seval, c23]; apply z; obtain rfl := zah hy22; refine ⟨by decide, ?_⟩; simp only [go_sem, seval, e11]
   ·intro E24 m25 e26 _; simp only [zac]; refine zcg y22 (by simp only [go_sem, e26]) (fun c27 => ?_) (fun c27 => ?_)
    ·replace hy7 := zaE c27 hy7; refine zan fun _ z => ?_; simp only [go_sem, Nat.reduceAdd]; apply z; refine zar ?_
     try simp only [zax, zaL]
     obtain rfl := zah hy7; simp only [Sum.elim_inr] at h; obtain rfl := zah h; refine ⟨by simp, ?_⟩; simp only [go_sem, seval, e26]
    ·replace hy7 := zaF c27 hy7; refine zaw ?_
     try simp only [zac, zap]
     refine zao fun _ z => ?_; simp only [go_sem, seval, e26]; apply z; refine ⟨c8, Nat.lt_succ_self _, (IntKind.i64.wrap ((IntKind.i64.wrap (v5 * (16 : Int))) + x14)), (IntKind.i64.wrap (v6 + (1 : Int))), hy7, ?_⟩; simp only [go_sem, seval, e26]
  ·replace hy7 := zaF c12 hy7; refine zbP ?_
   try simp only [zaU, zaK, ↓reduceIte, zac]
   obtain rfl := zah hy7; simp only [Sum.elim_inl] at h; refine zan fun _ z => ?_; simp only [go_sem, seval, c12, e11]; apply z; refine zar ?_; obtain rfl := zah h; refine ⟨by simp, ?_⟩; simp only [go_sem, seval, e11]
 ·replace h := zaF c3 h; refine zaw ?_
  try simp only [zac]
  refine zan fun _ z => ?_; simp only [go_sem, Nat.reduceAdd, c3]; apply z; refine zai ?_; refine zan fun _ z => ?_; simp only [go_sem, seval]; apply z; refine zaH ?_; obtain ⟨y31, hy31, h⟩ := bind_some h; refine zbm [] [] rfl (fun c E' m' => ∃ v29 v30, zdo a0 c v29 v30 = some y31 /\ E' 0 = .lit (.string (bs a0)) /\ E' 4 = .lit (.int .i64 (10 : Int)) /\ E' 7 = .lit (.int .i64 v29) /\ E' 18 = .lit (.int .i64 (a0.length : Int)) /\ E' 19 = .lit (.int .i64 v30) /\ m'.gl = m.gl /\ m.back q m' = m) n ⟨(0 : Int), (0 : Int), hy31, ?_⟩ ?_
  ·simp only [go_sem, seval, zaj]
  rintro i28 c32 E33 m34 ⟨v29, v30, hy31, e35⟩ _
  rcases c32 with _ | c32
  ·exact absurd hy31 (by rw [zdo]; exact fun e => nomatch e)
  rw [zdo] at hy31; refine zan fun _ z => ?_; simp only [go_sem, e35]; apply z; refine zai ?_; refine zcg (decide (v30 < (a0.length : Int))) (by simp only [go_sem, ↓reduceIte]) (fun c36 => ?_) (fun c36 => ?_)
  ·replace hy31 := zaE c36 hy31; refine zaw ?_
   try simp only [zac]
   refine zai ?_; refine zaH ?_; refine zan fun _ z => ?_; simp only [go_sem, seval, c36, e35]; apply z; refine zai ?_; obtain ⟨⟨f39, f40⟩, hy31⟩ := zaO hy31; obtain ⟨x37, h44, hy31⟩ := bind_some hy31; obtain ⟨f41, f42, f43⟩ := zaA h44; obtain ⟨x38, h45, hy31⟩ := bind_some hy31; refine zaP (tbl := [0, 1, 0, 0, 12, 31, 63]) (ord := [(0, 0), (1, 0), (2, 0), (3, 0), (4, 0), (5, 0), (6, 0)]) 10 rfl (by kernel_rfl) (by kernel_rfl) fun _ z => ?_; simp only [go_sem, seval, Int.reduceToNat, f39, f41, f43, e35]; refine zaJ (zeu (([48, 49, 50, 51, 52, 53, 54, 55, 56, 57, 97, 98, 99, 100, 101, 102] : Str).take (10 : Int).toNat) (x37.toNat : Int) _ h45 _ _ _ (by simp only [go_sem, Int.reduceToNat])) rfl ?_; simp only [go_sem, ↓reduceIte]; apply z; simp only [zac]; refine zan fun _ z => ?_; simp only [go_sem, seval, e35]; apply z; refine zai ?_; obtain ⟨y46, hy46, hy31⟩ := bind_some hy31; refine zbe 22 [] [] rfl (fun E' m' => E' 0 = .lit (.string (bs a0)) /\ E' 4 = .lit (.int .i64 (10 : Int)) /\ E' 7 = .lit (.int .i64 (IntKind.i64.wrap ((IntKind.i64.wrap (v29 * (10 : Int))) + x38))) /\ E' 18 = .lit (.int .i64 (a0.length : Int)) /\ E' 19 = .lit (.int .i64 v30) /\ E' 38 = .lit (.bool y46) /\ m'.gl = m.gl /\ m.back q m' = m) ?_ ?_
   ·rcases zbb (decide (x38 < (0 : Int))) with c47 | c47
    ·replace hy46 := zaE c47 hy46; refine zao fun _ z => ?_; simp only [go_sem, seval, c47]; apply z; obtain rfl := zah hy46; refine ⟨by decide, ?_⟩; simp only [go_sem, seval, e35]
    ·replace hy46 := zaF c47 hy46; refine zao fun _ z => ?_; simp only [go_sem, seval, c47]; apply z; obtain rfl := zah hy46; refine ⟨by decide, ?_⟩; simp only [go_sem, seval, e35]
   ·intro E48 m49 e50 _; simp only [zac]; refine zcg y46 (by simp only [go_sem, e50]) (fun c51 => ?_) (fun c51 => ?_)
    ·replace hy31 := zaE c51 hy31; refine zan fun _ z => ?_; simp only [go_sem, Nat.reduceAdd]; apply z; refine zar ?_
     try simp only [zax, zaL]
     obtain rfl := zah hy31; simp only [Sum.elim_inr] at h; obtain rfl := zah h; refine ⟨by simp, ?_⟩; simp only [go_sem, seval, e50]
    ·replace hy31 := zaF c51 hy31; refine zaw ?_
     try simp only [zac, zap]
     refine zao fun _ z => ?_; simp only [go_sem, seval, e50]; apply z; refine ⟨c32, Nat.lt_succ_self _, (IntKind.i64.wrap ((IntKind.i64.wrap (v29 * (10 : Int))) + x38)), (IntKind.i64.wrap (v30 + (1 : Int))), hy31, ?_⟩; simp only [go_sem, seval, e50]
  ·replace hy31 := zaF c36 hy31; refine zbP ?_
   try simp only [zaU, zaK, ↓reduceIte, zac]
   obtain rfl := zah hy31; simp only [Sum.elim_inl] at h; refine zan fun _ z => ?_; simp only [go_sem, seval, c36, e35]; apply z; refine zar ?_; obtain rfl := zah h; refine ⟨by simp, ?_⟩; simp only [go_sem, seval, e35]
def zlu (f : Str -> Option Str) : Prop := ∀ a0 r, f a0 = some r -> ∀ (q : Pa) (m : M) (vs : List V), vs.map V.weak1 = [.lit (.string (bs a0))] /\ m.gl 1 = .eptr [(cA cS zbh)] 0 0 -> SC Tryd.prog 50 vs q m (fun v m' => v = .lit (.string (bs r)) /\ m' = m)
theorem zkI (n : Nat) : zlu (ziE n) := by
 rintro a0 r h q m vs ⟨hv, hg1⟩; refine SC.weak ?_; rw [hv]; refine SC_w Tryd.func50 rfl (fun xs w => Tryd.call50 xs w) Tryd.ntmps50 (by kernel_rfl) Tryd.results50 ?_; unfold ziE at h; refine zan fun _ z => ?_; simp only [go_sem]; apply z; refine zai ?_; refine zan fun _ z => ?_; simp only [go_sem, Nat.reduceAdd, hg1]; apply z; refine zaH ?_; obtain ⟨y3, hy3, h⟩ := bind_some h; refine zbm [] [] rfl (fun c E' m' => ∃ v2, zeH a0 c v2 = some y3 /\ E' 0 = .lit (.string (bs a0)) /\ E' 5 = .agg ((cA cS zbh)) /\ E' 6 = .lit (.int .i64 v2) /\ m'.gl = m.gl /\ m.back q m' = m) n ⟨(0 : Int), hy3, ?_⟩ ?_
 ·simp only [go_sem, seval, zaj]
 rintro i1 c4 E5 m6 ⟨v2, hy3, e7⟩ _
 rcases c4 with _ | c4
 ·exact absurd hy3 (by rw [zeH]; exact fun e => nomatch e)
 rw [zeH] at hy3; refine zan fun _ z => ?_; simp only [go_sem, e7]; apply z; refine zai ?_; refine zcg (decide (v2 < (26 : Int))) (by simp only [go_sem, ↓reduceIte]) (fun c8 => ?_) (fun c8 => ?_)
 ·replace hy3 := zaE c8 hy3; refine zaw ?_
  try simp only [zac]
  refine zai ?_; refine zaH ?_; refine zai ?_; obtain ⟨x9, h13, hy3⟩ := bind_some hy3; obtain ⟨f10, f11, f12⟩ := zaA h13; have f14 : v2 < (26 : Int) := f11; obtain ⟨w15, d16⟩ := ziT (f := cS) (s := 1) (fun _ _ => rfl) f12; simp only [go_sem] at d16; refine zao fun _ z => ?_; simp only [go_sem, seval, f10, f14, d16, e7]; apply z; refine zai ?_; obtain ⟨x17, h18, hy3⟩ := bind_some hy3; refine zao fun _ z => ?_; simp only [go_sem, seval, e7]; refine SC.by_ (zfD a0 x9 _ h18 _ _ _ (by simp only [go_sem])) ?_; simp only [go_sem, Nat.reduceAdd]; apply z; refine zby x17 (fun c19 => ?_) (fun c19 => ?_)
  ·replace hy3 := zaE c19 hy3; refine zan fun _ z => ?_; simp only [go_sem, seval, c19]; apply z; refine zar ?_
   try simp only [zax, zaL]
   obtain rfl := zah hy3; simp only [Sum.elim_inr] at h; obtain rfl := zah h; refine ⟨by simp, ?_⟩; simp only [go_sem, ↓reduceIte, e7]
  ·replace hy3 := zaF c19 hy3; refine zaw ?_
   try simp only [zac, zap]
   refine zao fun _ z => ?_; simp only [go_sem, seval, c19, e7]; apply z; refine ⟨c4, Nat.lt_succ_self _, (IntKind.i64.wrap (v2 + (1 : Int))), hy3, ?_⟩; simp only [go_sem, seval, e7]
 ·replace hy3 := zaF c8 hy3; refine zbP ?_
  try simp only [zaU, zaK, ↓reduceIte, zac]
  obtain rfl := zah hy3; simp only [Sum.elim_inl] at h; refine zan fun _ z => ?_; simp only [go_sem, Nat.reduceAdd, c8]; apply z; refine zar ?_; obtain rfl := zah h; refine ⟨by simp, ?_⟩; simp only [go_sem, ↓reduceIte, e7]
def zlv (f : Str -> Int -> Option (za2 × Int)) : Prop := ∀ a0 a1 r, f a0 a1 = some r -> ∀ (q : Pa) (m : M) (vs : List V), vs.map V.weak1 = [.lit (.string (bs a0)), .lit (.int .i64 a1)] /\ m.gl 1 = .eptr [(cA cS zbh)] 0 0 -> SC Tryd.prog 32 vs q m (fun v m' => v = .tup [.agg ((za2.C r.1)), .lit (.int .i64 r.2)] /\ m' = m)
theorem zkJ (n : Nat) : zlv (zfj n) := by
 rintro a0 a1 r h q m vs ⟨hv, hg1⟩; refine SC.weak ?_; rw [hv]; refine SC_w Tryd.func32 rfl (fun xs w => Tryd.call32 xs w) Tryd.ntmps32 (by kernel_rfl) Tryd.results32 ?_; unfold zfj at h; refine zan fun _ z => ?_; simp only [go_sem, Nat.reduceAdd]; apply z; refine zai ?_; obtain ⟨⟨f4, f5⟩, h⟩ := zaO h; obtain ⟨x2, h6, h⟩ := bind_some h; refine zao fun _ z => ?_; simp only [go_sem, seval, f4, f5]; refine SC.by_ (zkG n (a0.drop a1.toNat) _ h6 _ _ _ (by simp only [go_sem])) ?_; simp only [go_sem, seval]; apply z; refine zai ?_; refine zaH ?_; refine zai ?_; obtain ⟨x7, h12, h⟩ := bind_some h; obtain ⟨f9, f10, f11⟩ := zaA h12; obtain ⟨x8, h13, h⟩ := bind_some h; refine zao fun _ z => ?_; simp only [go_sem, seval, f4, f11]; refine SC.by_ (zha (x7.toNat : Int) _ h13 _ _ _ (by simp only [go_sem])) ?_; simp only [go_sem, seval]; apply z; refine zby x8 (fun c14 => ?_) (fun c14 => ?_)
 ·replace h := zaE c14 h; refine zai ?_; refine zan fun _ z => ?_; simp only [go_sem, seval, c14]; apply z; refine zcg (decide ((32 : Int) < (x2.length : Int))) (by simp only [go_sem, ↓reduceIte]) (fun c15 => ?_) (fun c15 => ?_)
  ·replace h := zaE c15 h; refine zan fun _ z => ?_; simp only [go_sem, seval, c15]; apply z; refine zar ?_
   try simp only [zax, zaL]
   obtain rfl := zah h; refine ⟨by simp, ?_⟩; simp only [go_sem, seval, zam, zaj]
  ·replace h := zaF c15 h; refine zaw ?_
   try simp only [zac]
   refine zan fun _ z => ?_; simp only [go_sem, seval, c15]; apply z; refine zar ?_
   try simp only [zax, zaL]
   obtain rfl := zah h; refine ⟨by simp, ?_⟩; simp only [go_sem, seval, zam, zaj]
 ·replace h := zaF c14 h; refine zai ?_; obtain ⟨x16, h17, h⟩ := bind_some h; refine zao fun _ z => ?_; simp only [go_sem, seval, f4, f11, c14]; refine SC.by_ (ziX (x7.toNat : Int) _ h17 _ _ _ (by simp only [go_sem])) ?_; simp only [go_sem, seval]; apply z; refine zby x16 (fun c18 => ?_) (fun c18 => ?_)
  ·replace h := zaE c18 h; refine zai ?_; obtain ⟨x19, h20, h⟩ := bind_some h; refine zao fun _ z => ?_; simp only [go_sem, seval, c18]; refine SC.by_ (zkf n x2 _ h20 _ _ _ (by simp only [go_sem])) ?_; simp only [go_sem, seval]; apply z; refine zai ?_; refine zan fun _ z => ?_; simp only [go_sem, seval]; apply z; refine zby (!x19.2) (fun c21 => ?_) (fun c21 => ?_)
   ·replace h := zaE c21 h; refine zan fun _ z => ?_; simp only [go_sem, seval, c21]; apply z; refine zar ?_
    try simp only [zax, zaL]
    obtain rfl := zah h; refine ⟨by simp, ?_⟩; simp only [go_sem, seval, zam, zaj]
   ·replace h := zaF c21 h; refine zaw ?_
    try simp only [zac]
    refine zan fun _ z => ?_; simp only [go_sem, seval, c21]; apply z; refine zan fun _ z => ?_; simp only [go_sem, seval]; apply z; refine zar ?_
    try simp only [zax, zaL]
    obtain rfl := zah h; refine ⟨by simp, ?_⟩; simp only [go_sem, seval, zam, zaj]
  ·replace h := zaF c18 h; refine zaw ?_
   try simp only [zac, zap]
   refine zai ?_; obtain ⟨⟨f23, f24⟩, h⟩ := zaO h; obtain ⟨x22, h25, h⟩ := bind_some h; refine zao fun _ z => ?_; simp only [go_sem, seval, f4, f5, c18]; refine SC.by_ (zkI n (a0.drop a1.toNat) _ h25 _ _ _ (by simp only [go_sem, hg1])) ?_; simp only [go_sem, seval]; apply z; refine zai ?_; refine zan fun _ z => ?_; simp only [go_sem, seval]; apply z; refine zcg (decide (x22 = ([] : Str))) (by simp only [go_sem, ↓reduceIte]) (fun c26 => ?_) (fun c26 => ?_)
   ·replace h := zaE c26 h; refine zan fun _ z => ?_; simp only [go_sem, seval, c26]; apply z; refine zar ?_
    try simp only [zax]
    obtain rfl := zah h; refine ⟨by simp, ?_⟩; simp only [go_sem, seval, zam, zaj]
   ·replace h := zaF c26 h; refine zaw ?_
    try simp only [zac]
    refine zan fun _ z => ?_; simp only [go_sem, seval, c26]; apply z; refine zar ?_; obtain rfl := zah h; refine ⟨by simp, ?_⟩; simp only [go_sem, seval, zam, zaj]
def zkh (f : Str -> Option ((List za2) × Int × Int)) : Prop := ∀ a0 r, f a0 = some r -> ∀ (q : Pa) (m : M) (vs : List V), vs.map V.weak1 = [.list .none (zdB a0)] /\ m.gl 1 = .eptr [(cA cS zbh)] 0 0 -> SC Tryd.prog 20 vs q m (fun v m' => v = .tup [.list .none (r.1.map za2.C), .lit (.int .i64 r.2.1), .lit (.int .i64 r.2.2)] /\ m' = m)
theorem zjO (n : Nat) : zkh (zfN n) := by
 rintro a0 r h q m vs ⟨hv, hg1⟩; refine SC.weak ?_; rw [hv]; refine SC_w Tryd.func20 rfl (fun xs w => Tryd.call20 xs w) Tryd.ntmps20 (by kernel_rfl) Tryd.results20 ?_; unfold zfN at h; refine zan fun _ z => ?_; simp only [go_sem, Nat.reduceAdd]; apply z; refine zai ?_; refine zan fun _ z => ?_; simp only [go_sem, seval]; apply z; refine zcg (decide ((65536 : Int) < (a0.length : Int))) (by simp only [go_sem, ↓reduceIte]) (fun c1 => ?_) (fun c1 => ?_)
 ·replace h := zaE c1 h; refine zan fun _ z => ?_; simp only [go_sem, Nat.reduceAdd, c1]; apply z; refine zar ?_
  try simp only [zax]
  obtain rfl := zah h; refine ⟨by simp, ?_⟩; simp only [go_sem, seval, zaj]
 ·replace h := zaF c1 h; refine zaw ?_
  try simp only [zac]
  refine zan fun _ z => ?_; simp only [go_sem, seval, c1]; apply z; refine zan fun _ z => ?_; simp only [go_sem, Nat.reduceAdd]; apply z; refine zai ?_; refine zai ?_; obtain ⟨x2, h3, h⟩ := bind_some h; refine zao fun _ z => ?_; simp only [go_sem, seval]; refine SC.by_ (zje n a0 (0 : Int) _ h3 _ _ _ (by simp only [go_sem])) ?_; simp only [go_sem, seval]; apply z; refine zaH ?_; obtain ⟨y7, hy7, h⟩ := bind_some h; refine zh7 6 ([].map za2.C) rfl (by simp only [go_sem, seval]) ?_; refine zbm [] [] rfl (fun c E' m' => ∃ v5 v6 o_v5 j_v5, zcJ n a0 c v5 v6 = some y7 /\ E' 5 = .lit (.string (bs a0)) /\ E' 6 = .list (.st (.anon o_v5 j_v5)) (v5.map za2.C) /\ m'.tok o_v5 j_v5 = true /\ q <:+ o_v5 /\ E' 7 = .lit (.int .i64 v6) /\ m'.gl = m.gl /\ m.back q m' = m) n ⟨[], x2, (13 :: q), 0, hy7, ?_⟩ ?_
  ·simp only [go_sem, seval, zaM, zaj]
  rintro i4 c8 E9 m10 ⟨v5, v6, o_v5, j_v5, hy7, e11⟩ _
  rcases c8 with _ | c8
  ·exact absurd hy7 (by rw [zcJ]; exact fun e => nomatch e)
  rw [zcJ] at hy7; refine zai ?_; refine zan fun _ z => ?_; simp only [go_sem, seval, e11]; apply z; refine zcg (decide (v6 < (a0.length : Int))) (by simp only [go_sem, ↓reduceIte]) (fun c12 => ?_) (fun c12 => ?_)
  ·replace hy7 := zaE c12 hy7; refine zaw ?_
   try simp only [zac]
   refine zai ?_; refine zaH ?_; refine zai ?_; obtain ⟨x13, h15, hy7⟩ := bind_some hy7; refine zao fun _ z => ?_; simp only [go_sem, seval, c12, e11]; refine SC.by_ (zkJ n a0 v6 _ h15 _ _ _ (by simp only [go_sem, e11, hg1])) ?_; simp only [go_sem, seval]; apply z; refine zai ?_; refine zan fun _ z => ?_; simp only [go_sem, seval]; apply z; refine zby (x13.2 != (0 : Int)) (fun c16 => ?_) (fun c16 => ?_)
   ·replace hy7 := zaE c16 hy7; refine zan fun _ z => ?_; simp only [go_sem, seval, c16, e11]; apply z; refine zar ?_
    try simp only [zax, zaL]
    obtain rfl := zah hy7; simp only [Sum.elim_inr] at h; obtain rfl := zah h; refine ⟨by simp, ?_⟩; simp only [go_sem, seval, zam, e11]
   ·replace hy7 := zaF c16 hy7; refine zaw ?_
    try simp only [zac]
    refine zai ?_; obtain ⟨f17, hy7⟩ := zaO hy7; have f18 : v5.length + 1 <= 1073741824 := by first | omega | (simp only [List.length_append, List.length_cons, List.length_nil] at f17 ⊢; omega)
    have f19 : v5.length <= 1073741823 := by first | omega | (simp only [List.length_append, List.length_cons, List.length_nil] at f17 ⊢; omega)
    refine zao fun _ z => ?_; simp only [go_sem, seval, c16, f18, e11]; apply z; refine zcW fun _ z => ?_; simp only [go_sem, seval, e11]; apply z; simp only [zac, zap]; obtain ⟨x20, h21, hy7⟩ := bind_some hy7; refine zao fun _ z => ?_; simp only [go_sem, seval, e11]; refine SC.by_ (zje n a0 (IntKind.i64.wrap (v6 + (x13.1.za0.length : Int))) _ h21 _ _ _ (by simp only [go_sem])) ?_; simp only [go_sem, seval]; apply z; refine ⟨c8, Nat.lt_succ_self _, (v5 ++ [x13.1]), x20, (18 :: i4 :: 14 :: q), 0, hy7, ?_⟩; simp only [go_sem, seval, zam, zaM, e11]
  ·replace hy7 := zaF c12 hy7; refine zbP ?_
   try simp only [zaU, zaK, ↓reduceIte, zac]
   obtain rfl := zah hy7; simp only [Sum.elim_inl] at h; refine zai ?_; obtain ⟨f22, h⟩ := zaO h; have f23 : v5.length + 1 <= 1073741824 := by first | omega | (simp only [List.length_append, List.length_cons, List.length_nil] at f22 ⊢; omega)
   have f24 : v5.length <= 1073741823 := by first | omega | (simp only [List.length_append, List.length_cons, List.length_nil] at f22 ⊢; omega)
   refine zao fun _ z => ?_; simp only [go_sem, seval, c12, f23, e11]; apply z; refine zar ?_; obtain rfl := zah h; refine ⟨by simp, ?_⟩; simp only [go_sem, seval, zaM, e11]
def zhj (f : zab -> Option za2) : Prop := ∀ a0 r, f a0 = some r -> ∀ (q : Pa) (m : M) (vs : List V) (P0 : Pa), vs.map V.weak1 = [.ptr P0 0] /\ m.blk P0 = some ((zab.C a0)) -> SC Tryd.prog 22 vs q m (fun v m' => v = .agg ((za2.C r)) /\ m' = m)
theorem zbA : zhj (zbu) := by
 rintro a0 r h q m vs P0 ⟨hv, hmP0⟩; refine SC.weak ?_; rw [hv]; refine SC.apart hmP0 fun hpP0 => ?_
 try simp only [go_sem] at hmP0
 refine SC_w Tryd.func22 rfl (fun xs w => Tryd.call22 xs w) Tryd.ntmps22 (by kernel_rfl) Tryd.results22 ?_; unfold zbu at h; refine zan fun _ z => ?_; simp only [go_sem]; apply z; refine zai ?_; obtain ⟨x2, h6, h⟩ := bind_some h; obtain ⟨f3, f4, f5⟩ := zaA h6; refine zaP (tbl := [0, 1, 3, 7, 0, 16, 48, 112, 255, 511, 1023]) (ord := [(0, 0), (1, 0), (2, 0), (3, 0), (4, 0), (5, 0), (6, 0), (7, 0), (8, 0), (9, 0), (10, 0)]) 12 rfl (by kernel_rfl) (by kernel_rfl) fun _ z => ?_; simp only [go_sem, seval, pz1 hpP0, f3, f4, f5, hmP0]; apply z; simp only [zac]; refine zar ?_; obtain rfl := zah h; refine ⟨by simp, ?_⟩; simp only [go_sem, seval, zam, zaj]
def zhP (f : zab -> Int -> Option zab) : Prop := ∀ a0 a1 r, f a0 a1 = some r -> ∀ (q : Pa) (m : M) (vs : List V) (P0 : Pa), vs.map V.weak1 = [.ptr P0 0, .lit (.int .i64 a1)] /\ m.blk P0 = some ((zab.C a0)) -> SC Tryd.prog 33 vs q m (fun v m' => v = .tup [] /\ m' = (m.set P0 ((zab.C r))))
theorem zcy : zhP (zb9) := by
 rintro a0 a1 r h q m vs P0 ⟨hv, hmP0⟩; refine SC.weak ?_; rw [hv]; refine SC.apart hmP0 fun hpP0 => ?_; have hmsP0 := za5 hmP0
 try simp only [go_sem] at hmP0 hmsP0
 refine SC_w Tryd.func33 rfl (fun xs w => Tryd.call33 xs w) Tryd.ntmps33 (by kernel_rfl) Tryd.results33 ?_; unfold zb9 at h; refine zan fun _ z => ?_; simp only [go_sem, seval, hmP0]; apply z; refine zby (a0.e_ == (0 : Int)) (fun c1 => ?_) (fun c1 => ?_)
 ·replace h := zaE c1 h; obtain ⟨x2, h3, h⟩ := bind_some h; refine zcW fun _ z => ?_; simp only [go_sem, seval, c1]; refine SC.by_ (zbA a0 _ h3 _ _ _ P0 (by simp only [go_sem, hmP0])) ?_; simp only [go_sem, seval, hmP0]; apply z; simp only []; obtain rfl := zah h; refine ⟨by simp, ?_⟩; simp only [go_sem, zaj, zaq hpP0]
 ·replace h := zaF c1 h; refine zaw ?_; obtain rfl := zah h; refine ⟨by simp, ?_⟩; simp only [go_sem, zaj, hmsP0, c1]
def zhM (f : zab -> Int -> Option (zaa × zab)) : Prop := ∀ a0 a1 r, f a0 a1 = some r -> ∀ (q : Pa) (m : M) (vs : List V) (P0 : Pa), vs.map V.weak1 = [.ptr P0 0, .lit (.int .i64 a1)] /\ m.blk P0 = some ((zab.C a0)) -> SC Tryd.prog 21 vs q m (fun v m' => ∃ (id : Pa) (j : Nat), q <:+ id /\ v = .agg ([.lit (.int .i64 r.1.zba), .lit (.int .i64 r.1.At_), .lit (.string (bs r.1.za0)), .lit (.int .u32 r.1.Num_), .list (.st (.anon id j)) (r.1.zav.map zaa.C)]) /\ m' = (m.set P0 ((zab.C r.2))).tokset id j true)
theorem zbJ : zhM (zbp) := by
 rintro a0 a1 r h q m vs P0 ⟨hv, hmP0⟩; refine SC.weak ?_; rw [hv]; refine SC.apart hmP0 fun hpP0 => ?_; have hmsP0 := za5 hmP0
 try simp only [go_sem] at hmP0 hmsP0
 refine SC_ofO Tryd.func21 rfl (fun xs w => Tryd.call21 xs w) Tryd.ntmps21 (by kernel_rfl) ?_; unfold zbp at h; refine zan fun _ z => ?_; simp only [go_sem]; apply z; refine zai ?_; refine zan fun _ z => ?_; simp only [go_sem, seval, pz1 hpP0, hmP0]; apply z; refine zan fun _ z => ?_; simp only [go_sem, seval]; apply z; refine zcg (decide ((16384 : Int) < (IntKind.i64.wrap (a0.zgc + (1 : Int))))) (by simp only [go_sem, ↓reduceIte]) (fun c2 => ?_) (fun c2 => ?_)
 ·replace h := zaE c2 h; obtain ⟨x3, h4, h⟩ := bind_some h; refine zao fun _ z => ?_; simp only [go_sem, seval, c2]; refine SC.by_ (zcy ({ a0 with zgc := (IntKind.i64.wrap (a0.zgc + (1 : Int))) } : zab) (136 : Int) _ h4 _ _ _ P0 (by simp only [go_sem, ↓reduceIte])) ?_; simp only [go_sem, Nat.reduceAdd]; apply z; refine zai ?_; obtain ⟨x5, h6, h⟩ := bind_some h; refine zao fun _ z => ?_; simp only [go_sem, seval]; refine SC.by_ (zbA x3 _ h6 _ _ _ P0 (by simp only [go_sem, ↓reduceIte])) ?_; simp only [go_sem, seval, pz1 hpP0]; apply z; refine zar ?_; obtain rfl := zah h; refine ⟨by simp, ?_⟩; refine ⟨(22 :: q), 0, _, (by simp only [go_sem]), .cell (t := 4) (T := 49) (b := (0 :: q)) (cs := [.lit (.int .i64 a1), .lit (.int .i64 x5.At_), .lit (.string (bs [])), .lit (.int .u32 (0 : Int)), .list .self ([].map zaa.C)]) (off := 4) (rows := ([].map zaa.C)) (congrArg Array.toList Tryd.results21) (by simp only [go_sem, seval]) (by simp only [go_sem]) (by simp only [go_sem, ↓reduceIte]) (by simp only [go_sem]) (by simp only [go_sem, Nat.reduceAdd]) rfl, (22 :: q), 0, (by simp only [go_sem]), ?_, ?_⟩ <;> simp only [go_sem, zam, za4, zaj, zaq hpP0]
 ·replace h := zaF c2 h; refine zaw ?_
  try simp only [zac]
  refine zai ?_; obtain ⟨x7, h8, h⟩ := bind_some h; refine zao fun _ z => ?_; simp only [go_sem, seval, c2]; refine SC.by_ (zbA ({ a0 with zgc := (IntKind.i64.wrap (a0.zgc + (1 : Int))) } : zab) _ h8 _ _ _ P0 (by simp only [go_sem, ↓reduceIte])) ?_; simp only [go_sem, seval, pz1 hpP0]; apply z; refine zar ?_; obtain rfl := zah h; refine ⟨by simp, ?_⟩; refine ⟨(20 :: q), 0, _, (by simp only [go_sem]), .cell (t := 4) (T := 49) (b := (0 :: q)) (cs := [.lit (.int .i64 a1), .lit (.int .i64 x7.At_), .lit (.string (bs [])), .lit (.int .u32 (0 : Int)), .list .self ([].map zaa.C)]) (off := 4) (rows := ([].map zaa.C)) (congrArg Array.toList Tryd.results21) (by simp only [go_sem, seval]) (by simp only [go_sem]) (by simp only [go_sem, ↓reduceIte]) (by simp only [go_sem]) (by simp only [go_sem, Nat.reduceAdd]) rfl, (20 :: q), 0, (by simp only [go_sem]), ?_, ?_⟩ <;> simp only [go_sem, zam, za4, zaj, zaq hpP0]
def zfk (f : (List Str) -> Str -> Option Int) : Prop := ∀ a0 a1 r, f a0 a1 = some r -> ∀ (q : Pa) (m : M) (vs : List V), vs.map V.weak1 = [.list .none (a0.map cS), .lit (.string (bs a1))] -> SC Tryd.prog 87 vs q m (fun v m' => v = .lit (.int .i64 r) /\ m' = m)
theorem zfb (n : Nat) : zfk (zc6 n) := by
 intro a0 a1 r h q m vs hv; refine SC.weak ?_; rw [hv]; refine SC_w Tryd.func87 rfl (fun xs w => Tryd.call87 xs w) Tryd.ntmps87 (by kernel_rfl) Tryd.results87 ?_; unfold zc6 at h; refine zan fun _ z => ?_; simp only [go_sem]; apply z; refine zai ?_; refine zan fun _ z => ?_; simp only [go_sem, seval]; apply z; refine zaH ?_; obtain ⟨y3, hy3, h⟩ := bind_some h; refine zbm [] [] rfl (fun c E' m' => ∃ v2, zbL a0 a1 c v2 = some y3 /\ E' 0 = .list .none (a0.map cS) /\ E' 1 = .lit (.string (bs a1)) /\ E' 7 = .lit (.int .i64 (a0.length : Int)) /\ E' 8 = .lit (.int .i64 v2) /\ m'.gl = m.gl /\ m.back q m' = m) n ⟨(0 : Int), hy3, ?_⟩ ?_
 ·simp only [go_sem, seval, zaj]
 rintro i1 c4 E5 m6 ⟨v2, hy3, e7⟩ _
 rcases c4 with _ | c4
 ·exact absurd hy3 (by rw [zbL]; exact fun e => nomatch e)
 rw [zbL] at hy3; refine zan fun _ z => ?_; simp only [go_sem, e7]; apply z; refine zai ?_; refine zcg (decide (v2 < (a0.length : Int))) (by simp only [go_sem, ↓reduceIte]) (fun c8 => ?_) (fun c8 => ?_)
 ·replace hy3 := zaE c8 hy3; refine zaw ?_
  try simp only [zac]
  refine zai ?_; refine zaH ?_; refine zan fun _ z => ?_; simp only [go_sem, seval, c8, e7]; apply z; refine zai ?_; obtain ⟨x9, h13, hy3⟩ := bind_some hy3; obtain ⟨f10, f11, f12⟩ := zaA h13; refine zao fun _ z => ?_; simp only [go_sem, seval, f10, f11, f12, e7]; apply z; refine zby (decide (a1 = x9)) (fun c14 => ?_) (fun c14 => ?_)
  ·replace hy3 := zaE c14 hy3; refine zan fun _ z => ?_; simp only [go_sem, seval, c14]; apply z; refine zar ?_
   try simp only [zax, zaL]
   obtain rfl := zah hy3; simp only [Sum.elim_inr] at h; obtain rfl := zah h; refine ⟨by simp, ?_⟩; simp only [go_sem, ↓reduceIte, e7]
  ·replace hy3 := zaF c14 hy3; refine zaw ?_
   try simp only [zac, zap]
   refine zao fun _ z => ?_; simp only [go_sem, seval, c14, e7]; apply z; refine ⟨c4, Nat.lt_succ_self _, (IntKind.i64.wrap (v2 + (1 : Int))), hy3, ?_⟩; simp only [go_sem, seval, e7]
 ·replace hy3 := zaF c8 hy3; refine zbP ?_
  try simp only [zaU, zaK, ↓reduceIte, zac]
  obtain rfl := zah hy3; simp only [Sum.elim_inl] at h; refine zan fun _ z => ?_; simp only [go_sem, Nat.reduceAdd, c8]; apply z; refine zar ?_; obtain rfl := zah h; refine ⟨by simp, ?_⟩; simp only [go_sem, ↓reduceIte, e7]
def zeR (f : (List Str) -> Str -> Option Bool) : Prop := ∀ a0 a1 r, f a0 a1 = some r -> ∀ (q : Pa) (m : M) (vs : List V), vs.map V.weak1 = [.list .none (a0.map cS), .lit (.string (bs a1))] -> SC Tryd.prog 67 vs q m (fun v m' => v = .lit (.bool r) /\ m' = m)
theorem zeP (n : Nat) : zeR (zcD n) := by
 intro a0 a1 r h q m vs hv; refine SC.weak ?_; rw [hv]; refine SC_w Tryd.func67 rfl (fun xs w => Tryd.call67 xs w) Tryd.ntmps67 (by kernel_rfl) Tryd.results67 ?_; unfold zcD at h; refine zan fun _ z => ?_; simp only [go_sem]; apply z; refine zai ?_; obtain ⟨x1, h2, h⟩ := bind_some h; refine zao fun _ z => ?_; simp only [go_sem, seval]; refine SC.by_ (zfb n a0 a1 _ h2 _ _ _ (by simp only [go_sem])) ?_; simp only [go_sem, seval]; apply z; refine zar ?_; obtain rfl := zah h; refine ⟨by simp, ?_⟩; simp only [go_sem, ↓reduceIte, zaj]
def zkc (f : Str -> Option Bool) : Prop := ∀ a0 r, f a0 = some r -> ∀ (q : Pa) (m : M) (vs : List V), vs.map V.weak1 = [.lit (.string (bs a0))] /\ m.gl 2 = .eptr [(cA cS zaI)] 0 0 -> SC Tryd.prog 52 vs q m (fun v m' => v = .lit (.bool r) /\ m' = m)
theorem ziB (n : Nat) : zkc (zh5 n) := by
 rintro a0 r h q m vs ⟨hv, hg2⟩; refine SC.weak ?_; rw [hv]; refine SC_w Tryd.func52 rfl (fun xs w => Tryd.call52 xs w) Tryd.ntmps52 (by kernel_rfl) Tryd.results52 ?_; unfold zh5 at h; refine zan fun _ z => ?_; simp only [go_sem]; apply z; refine zai ?_; obtain ⟨x1, h2, h⟩ := bind_some h; refine zao fun _ z => ?_; simp only [go_sem, seval, Int.reduceToNat, hg2]; refine SC.by_ (zeP n zaI a0 _ h2 _ _ _ (by simp only [go_sem])) ?_; simp only [go_sem, seval]; apply z; refine zar ?_; obtain rfl := zah h; refine ⟨by simp, ?_⟩; simp only [go_sem, ↓reduceIte, zaj]
def zir (f : zab -> Str -> Option Bool) : Prop := ∀ a0 a1 r, f a0 a1 = some r -> ∀ (q : Pa) (m : M) (vs : List V) (P0 : Pa), vs.map V.weak1 = [.ptr P0 0, .lit (.string (bs a1))] /\ m.blk P0 = some ((zab.C a0)) /\ m.gl 2 = .eptr [(cA cS zaI)] 0 0 -> SC Tryd.prog 51 vs q m (fun v m' => v = .lit (.bool r) /\ m' = m)
theorem zc1 (n : Nat) : zir (zcE n) := by
 rintro a0 a1 r h q m vs P0 ⟨hv, hmP0, hg2⟩; refine SC.weak ?_; rw [hv]; refine SC.apart hmP0 fun hpP0 => ?_
 try simp only [go_sem] at hmP0
 refine SC_w Tryd.func51 rfl (fun xs w => Tryd.call51 xs w) Tryd.ntmps51 (by kernel_rfl) Tryd.results51 ?_; unfold zcE at h; refine zan fun _ z => ?_; simp only [go_sem]; apply z; refine zai ?_; obtain ⟨x1, h3, h⟩ := bind_some h; refine zao fun _ z => ?_; simp only [go_sem, seval]; refine SC.by_ (zbA a0 _ h3 _ _ _ P0 (by simp only [go_sem, hmP0])) ?_; simp only [go_sem, seval]; apply z; refine zai ?_; obtain ⟨y4, hy4, h⟩ := bind_some h; refine zbe 31 [] [] rfl (fun E' m' => E' 4 = .lit (.bool y4) /\ m'.blk P0 = some ((zab.C a0)) /\ m'.gl = m.gl /\ m.back q m' = m) ?_ ?_
 ·rcases zbb (a0.e_ == (0 : Int)) with c5 | c5
  ·replace hy4 := zaE c5 hy4
   rcases zbb (decide (x1.za0 = a1)) with c6 | c6
   ·replace hy4 := zaE c6 hy4
    rcases zbb (x1.zba == (3 : Int)) with c7 | c7
    ·replace hy4 := zaE c7 hy4; refine zao fun _ z => ?_; simp only [go_sem, seval, pz1 hpP0, c5, c6, c7, hmP0]; apply z; obtain rfl := zah hy4; refine ⟨by decide, ?_⟩; simp only [go_sem, ↓reduceIte, zam, zaj, pz1 hpP0, hmP0]
    ·replace hy4 := zaF c7 hy4
     rcases zbb (x1.zba == (1 : Int)) with c8 | c8
     ·replace hy4 := zaE c8 hy4; obtain ⟨x9, h10, hy4⟩ := bind_some hy4; refine zao fun _ z => ?_; simp only [go_sem, seval, pz1 hpP0, c5, c6, c7, c8, hmP0]; refine SC.by_ (ziB n a1 _ h10 _ _ _ (by simp only [go_sem, hg2])) ?_; simp only [go_sem, seval]; apply z; obtain rfl := zah hy4; refine ⟨by decide, ?_⟩; simp only [go_sem, ↓reduceIte, zam, zaj, pz1 hpP0, hmP0]
     ·replace hy4 := zaF c8 hy4; refine zao fun _ z => ?_; simp only [go_sem, seval, pz1 hpP0, c5, c6, c7, c8, hmP0]; apply z; obtain rfl := zah hy4; refine ⟨by decide, ?_⟩; simp only [go_sem, ↓reduceIte, zam, zaj, pz1 hpP0, hmP0]
   ·replace hy4 := zaF c6 hy4; refine zao fun _ z => ?_; simp only [go_sem, seval, pz1 hpP0, c5, c6, hmP0]; apply z; obtain rfl := zah hy4; refine ⟨by decide, ?_⟩; simp only [go_sem, ↓reduceIte, zam, zaj, pz1 hpP0, hmP0]
  ·replace hy4 := zaF c5 hy4; refine zao fun _ z => ?_; simp only [go_sem, seval, pz1 hpP0, c5, hmP0]; apply z; obtain rfl := zah hy4; refine ⟨by decide, ?_⟩; simp only [go_sem, ↓reduceIte, zam, zaj, pz1 hpP0, hmP0]
 ·intro E11 m12 e13 _; simp only [zac]; refine zar ?_; obtain rfl := zah h; refine ⟨by simp, ?_⟩; simp only [go_sem, e13]
def zhJ (f : zab -> Str -> Option (Bool × zab)) : Prop := ∀ a0 a1 r, f a0 a1 = some r -> ∀ (q : Pa) (m : M) (vs : List V) (P0 : Pa), vs.map V.weak1 = [.ptr P0 0, .lit (.string (bs a1))] /\ m.blk P0 = some ((zab.C a0)) /\ m.gl 2 = .eptr [(cA cS zaI)] 0 0 -> SC Tryd.prog 34 vs q m (fun v m' => v = .lit (.bool r.1) /\ m' = (m.set P0 ((zab.C r.2))))
theorem zaz (n : Nat) : zhJ (zaD n) := by
 rintro a0 a1 r h q m vs P0 ⟨hv, hmP0, hg2⟩; refine SC.weak ?_; rw [hv]; refine SC.apart hmP0 fun hpP0 => ?_; have hmsP0 := za5 hmP0
 try simp only [go_sem] at hmP0 hmsP0
 refine SC_w Tryd.func34 rfl (fun xs w => Tryd.call34 xs w) Tryd.ntmps34 (by kernel_rfl) Tryd.results34 ?_; unfold zaD at h; refine zan fun _ z => ?_; simp only [go_sem]; apply z; refine zai ?_; refine zai ?_; obtain ⟨x1, h2, h⟩ := bind_some h; refine zao fun _ z => ?_; simp only [go_sem, seval]; refine SC.by_ (zc1 n a0 a1 _ h2 _ _ _ P0 (by simp only [go_sem, hmP0, hg2])) ?_; simp only [go_sem, seval]; apply z; refine zby (!x1) (fun c3 => ?_) (fun c3 => ?_)
 ·replace h := zaE c3 h; refine zan fun _ z => ?_; simp only [go_sem, Nat.reduceAdd, c3]; apply z; refine zar ?_
  try simp only [zax]
  obtain rfl := zah h; refine ⟨by simp, ?_⟩; simp only [go_sem, ↓reduceIte, zaj, hmsP0]
 ·replace h := zaF c3 h; refine zaw ?_
  try simp only [zac]
  refine zan fun _ z => ?_; simp only [go_sem, seval, c3, hmP0]; apply z; refine zan fun _ z => ?_; simp only [go_sem, Nat.reduceAdd]; apply z; refine zar ?_; obtain rfl := zah h; refine ⟨by simp, ?_⟩; simp only [go_sem, ↓reduceIte, zaj, zaq hpP0]
def zhN (f : zab -> Str -> Option zab) : Prop := ∀ a0 a1 r, f a0 a1 = some r -> ∀ (q : Pa) (m : M) (vs : List V) (P0 : Pa), vs.map V.weak1 = [.ptr P0 0, .lit (.string (bs a1))] /\ m.blk P0 = some ((zab.C a0)) /\ m.gl 2 = .eptr [(cA cS zaI)] 0 0 -> SC Tryd.prog 35 vs q m (fun v m' => v = .tup [] /\ m' = (m.set P0 ((zab.C r))))
theorem zau (n : Nat) : zhN (zay n) := by
 rintro a0 a1 r h q m vs P0 ⟨hv, hmP0, hg2⟩; refine SC.weak ?_; rw [hv]; refine SC.apart hmP0 fun hpP0 => ?_; have hmsP0 := za5 hmP0
 try simp only [go_sem] at hmP0 hmsP0
 refine SC_w Tryd.func35 rfl (fun xs w => Tryd.call35 xs w) Tryd.ntmps35 (by kernel_rfl) Tryd.results35 ?_; unfold zay at h; refine zai ?_; obtain ⟨x1, h2, h⟩ := bind_some h; refine zao fun _ z => ?_; simp only [go_sem, seval]; refine SC.by_ (zaz n a0 a1 _ h2 _ _ _ P0 (by simp only [go_sem, hmP0, hg2])) ?_; simp only [go_sem, seval]; apply z; refine zby (!x1.1) (fun c3 => ?_) (fun c3 => ?_)
 ·replace h := zaE c3 h; obtain ⟨x4, h5, h⟩ := bind_some h; refine zcW fun _ z => ?_; simp only [go_sem, seval, c3]; refine SC.by_ (zcy x1.2 (110 : Int) _ h5 _ _ _ P0 (by simp only [go_sem, ↓reduceIte])) ?_; simp only [go_sem, Nat.reduceAdd]; apply z; simp only []; obtain rfl := zah h; refine ⟨by simp, ?_⟩; simp only [go_sem, zaj, zaq hpP0]
 ·replace h := zaF c3 h; refine zaw ?_; obtain rfl := zah h; refine ⟨by simp, ?_⟩; simp only [go_sem, zaj, zaq hpP0, c3]
def zhO (f : zab -> Option (Str × zab)) : Prop := ∀ a0 r, f a0 = some r -> ∀ (q : Pa) (m : M) (vs : List V) (P0 : Pa), vs.map V.weak1 = [.ptr P0 0] /\ m.blk P0 = some ((zab.C a0)) /\ m.gl 2 = .eptr [(cA cS zaI)] 0 0 -> SC Tryd.prog 36 vs q m (fun v m' => v = .lit (.string (bs r.1)) /\ m' = (m.set P0 ((zab.C r.2))))
theorem zbK (n : Nat) : zhO (zbF n) := by
 rintro a0 r h q m vs P0 ⟨hv, hmP0, hg2⟩; refine SC.weak ?_; rw [hv]; refine SC.apart hmP0 fun hpP0 => ?_; have hmsP0 := za5 hmP0
 try simp only [go_sem] at hmP0 hmsP0
 refine SC_w Tryd.func36 rfl (fun xs w => Tryd.call36 xs w) Tryd.ntmps36 (by kernel_rfl) Tryd.results36 ?_; unfold zbF at h; refine zan fun _ z => ?_; simp only [go_sem]; apply z; refine zai ?_; obtain ⟨x1, h3, h⟩ := bind_some h; refine zao fun _ z => ?_; simp only [go_sem, seval]; refine SC.by_ (zbA a0 _ h3 _ _ _ P0 (by simp only [go_sem, hmP0])) ?_; simp only [go_sem, seval]; apply z; refine zai ?_; refine zai ?_; obtain ⟨y4, hy4, h⟩ := bind_some h; refine zbe 20 [] [] rfl (fun E' m' => E' 0 = .ptr P0 0 /\ E' 3 = .ptr (3 :: q) 0 /\ E' 20 = .lit (.bool y4) /\ m'.blk P0 = some ((zab.C a0)) /\ m'.blk (3 :: q) = some ((za2.C x1)) /\ m'.gl = m.gl /\ m.back q m' = (m.set P0 ((zab.C a0)))) ?_ ?_
 ·rcases zbb (a0.e_ != (0 : Int)) with c5 | c5
  ·replace hy4 := zaE c5 hy4; refine zao fun _ z => ?_; simp only [go_sem, seval, pz1 hpP0, c5, hmP0]; apply z; obtain rfl := zah hy4; refine ⟨by decide, ?_⟩; simp only [go_sem, seval, zam, zaj, hmsP0, pz1 hpP0, hmP0]
  ·replace hy4 := zaF c5 hy4
   rcases zbb (x1.zba != (1 : Int)) with c6 | c6
   ·replace hy4 := zaE c6 hy4; refine zao fun _ z => ?_; simp only [go_sem, seval, pz1 hpP0, c5, c6, hmP0]; apply z; obtain rfl := zah hy4; refine ⟨by decide, ?_⟩; simp only [go_sem, seval, zam, zaj, hmsP0, pz1 hpP0, hmP0]
   ·replace hy4 := zaF c6 hy4; obtain ⟨x7, h8, hy4⟩ := bind_some hy4; refine zao fun _ z => ?_; simp only [go_sem, seval, pz1 hpP0, c5, c6, hmP0]; refine SC.by_ (ziB n x1.za0 _ h8 _ _ _ (by simp only [go_sem, hg2])) ?_; simp only [go_sem, seval]; apply z; obtain rfl := zah hy4; refine ⟨by decide, ?_⟩; simp only [go_sem, seval, zam, zaj, hmsP0, pz1 hpP0, hmP0]
 ·intro E9 m10 e11 _; simp only [zac]; refine zcg y4 (by simp only [go_sem, e11]) (fun c12 => ?_) (fun c12 => ?_)
  ·replace h := zaE c12 h; refine zai ?_; obtain ⟨x13, h14, h⟩ := bind_some h; refine zao fun _ z => ?_; simp only [go_sem, seval, e11]; refine SC.by_ (zcy a0 (110 : Int) _ h14 _ _ _ P0 (by simp only [go_sem, e11])) ?_; simp only [go_sem, Nat.reduceAdd]; apply z; refine zan fun _ z => ?_; simp only [go_sem, Nat.reduceAdd]; apply z; refine zar ?_
   try simp only [zax]
   obtain rfl := zah h; refine ⟨by simp, ?_⟩; simp only [go_sem, ↓reduceIte, zaq hpP0, hmsP0, e11]
  ·replace h := zaF c12 h; refine zaw ?_
   try simp only [zac]
   refine zan fun _ z => ?_; simp only [go_sem, seval, e11]; apply z; refine zan fun _ z => ?_; simp only [go_sem, seval, pz1 hpP0, e11]; apply z; refine zar ?_; obtain rfl := zah h; refine ⟨by simp, ?_⟩; simp only [go_sem, ↓reduceIte, zaq hpP0, hmsP0, e11]
def zgX (f : zab -> Option (Int × zab)) : Prop := ∀ a0 r, f a0 = some r -> ∀ (q : Pa) (m : M) (vs : List V) (P0 : Pa), vs.map V.weak1 = [.ptr P0 0] /\ m.blk P0 = some ((zab.C a0)) -> SC Tryd.prog 68 vs q m (fun v m' => v = .lit (.int .u32 r.1) /\ m' = (m.set P0 ((zab.C r.2))))
theorem zeK : zgX (zdm) := by
 rintro a0 r h q m vs P0 ⟨hv, hmP0⟩; refine SC.weak ?_; rw [hv]; refine SC.apart hmP0 fun hpP0 => ?_; have hmsP0 := za5 hmP0
 try simp only [go_sem] at hmP0 hmsP0
 refine SC_w Tryd.func68 rfl (fun xs w => Tryd.call68 xs w) Tryd.ntmps68 (by kernel_rfl) Tryd.results68 ?_; unfold zdm at h; refine zan fun _ z => ?_; simp only [go_sem]; apply z; refine zai ?_; obtain ⟨x1, h3, h⟩ := bind_some h; refine zao fun _ z => ?_; simp only [go_sem, seval]; refine SC.by_ (zbA a0 _ h3 _ _ _ P0 (by simp only [go_sem, hmP0])) ?_; simp only [go_sem, seval]; apply z; refine zai ?_; refine zai ?_; obtain ⟨y4, hy4, h⟩ := bind_some h; refine zbe 15 [] [] rfl (fun E' m' => E' 0 = .ptr P0 0 /\ E' 3 = .ptr (3 :: q) 0 /\ E' 15 = .lit (.bool y4) /\ m'.blk P0 = some ((zab.C a0)) /\ m'.blk (3 :: q) = some ((za2.C x1)) /\ m'.gl = m.gl /\ m.back q m' = (m.set P0 ((zab.C a0)))) ?_ ?_
 ·rcases zbb (a0.e_ != (0 : Int)) with c5 | c5
  ·replace hy4 := zaE c5 hy4; refine zao fun _ z => ?_; simp only [go_sem, seval, pz1 hpP0, c5, hmP0]; apply z; obtain rfl := zah hy4; refine ⟨by decide, ?_⟩; simp only [go_sem, seval, zam, zaj, hmsP0, pz1 hpP0, hmP0]
  ·replace hy4 := zaF c5 hy4; refine zao fun _ z => ?_; simp only [go_sem, seval, pz1 hpP0, c5, hmP0]; apply z; obtain rfl := zah hy4; refine ⟨by decide, ?_⟩; simp only [go_sem, seval, zam, zaj, hmsP0, pz1 hpP0, hmP0]
 ·intro E6 m7 e8 _; simp only [zac]; refine zcg y4 (by simp only [go_sem, e8]) (fun c9 => ?_) (fun c9 => ?_)
  ·replace h := zaE c9 h; refine zai ?_; obtain ⟨x10, h11, h⟩ := bind_some h; refine zao fun _ z => ?_; simp only [go_sem, seval, e8]; refine SC.by_ (zcy a0 (110 : Int) _ h11 _ _ _ P0 (by simp only [go_sem, e8])) ?_; simp only [go_sem, Nat.reduceAdd]; apply z; refine zan fun _ z => ?_; simp only [go_sem, Nat.reduceAdd]; apply z; refine zar ?_
   try simp only [zax]
   obtain rfl := zah h; refine ⟨by simp, ?_⟩; simp only [go_sem, ↓reduceIte, zaq hpP0, hmsP0, e8]
  ·replace h := zaF c9 h; refine zaw ?_
   try simp only [zac]
   refine zan fun _ z => ?_; simp only [go_sem, seval, e8]; apply z; refine zan fun _ z => ?_; simp only [go_sem, seval, pz1 hpP0, e8]; apply z; refine zar ?_; obtain rfl := zah h; refine ⟨by simp, ?_⟩; simp only [go_sem, ↓reduceIte, zaq hpP0, hmsP0, e8]
def zhK (f : zab -> Option (Int × zab)) : Prop := ∀ a0 r, f a0 = some r -> ∀ (q : Pa) (m : M) (vs : List V) (P0 : Pa), vs.map V.weak1 = [.ptr P0 0] /\ m.blk P0 = some ((zab.C a0)) /\ m.gl 2 = .eptr [(cA cS zaI)] 0 0 -> SC Tryd.prog 53 vs q m (fun v m' => v = .lit (.int .u32 r.1) /\ m' = (m.set P0 ((zab.C r.2))))
theorem ze6 (n : Nat) : zhK (zdM n) := by
 rintro a0 r h q m vs P0 ⟨hv, hmP0, hg2⟩; refine SC.weak ?_; rw [hv]; refine SC.apart hmP0 fun hpP0 => ?_; have hmsP0 := za5 hmP0
 try simp only [go_sem] at hmP0 hmsP0
 refine SC_w Tryd.func53 rfl (fun xs w => Tryd.call53 xs w) Tryd.ntmps53 (by kernel_rfl) Tryd.results53 ?_; unfold zdM at h; refine zan fun _ z => ?_; simp only [go_sem]; apply z; refine zai ?_; obtain ⟨x1, h2, h⟩ := bind_some h; refine zao fun _ z => ?_; simp only [go_sem, seval]; refine SC.by_ (zau n a0 ([91] : Str) _ h2 _ _ _ P0 (by simp only [go_sem, hmP0, hg2])) ?_; simp only [go_sem, Nat.reduceAdd]; apply z; refine zai ?_; obtain ⟨x3, h4, h⟩ := bind_some h; refine zao fun _ z => ?_; simp only [go_sem, seval]; refine SC.by_ (zeK x1 _ h4 _ _ _ P0 (by simp only [go_sem, ↓reduceIte])) ?_; simp only [go_sem, seval]; apply z; refine zai ?_; obtain ⟨x5, h6, h⟩ := bind_some h; refine zao fun _ z => ?_; simp only [go_sem, seval]; refine SC.by_ (zau n x3.2 ([93] : Str) _ h6 _ _ _ P0 (by simp only [go_sem, ↓reduceIte, hg2])) ?_; simp only [go_sem, Nat.reduceAdd]; apply z; refine zan fun _ z => ?_; simp only [go_sem, seval]; apply z; refine zar ?_; obtain rfl := zah h; refine ⟨by simp, ?_⟩; simp only [go_sem, ↓reduceIte, zaj, zaq hpP0]
def zhl (f : zab -> Option (zaa × zab)) : Prop := ∀ a0 r, f a0 = some r -> ∀ (q : Pa) (m : M) (vs : List V) (P0 : Pa), vs.map V.weak1 = [.ptr P0 0] /\ m.blk P0 = some ((zab.C a0)) /\ m.gl 2 = .eptr [(cA cS zaI)] 0 0 -> SC Tryd.prog 38 vs q m (fun v m' => v = .agg ((zaa.C r.1)) /\ m' = (m.set P0 ((zab.C r.2))))
theorem zgW (n : Nat) : zhl (zey n) := by
 rintro a0 r h q m vs P0 ⟨hv, hmP0, hg2⟩; refine SC.weak ?_; rw [hv]; refine SC.apart hmP0 fun hpP0 => ?_; have hmsP0 := za5 hmP0
 try simp only [go_sem] at hmP0 hmsP0
 refine SC_w Tryd.func38 rfl (fun xs w => Tryd.call38 xs w) Tryd.ntmps38 (by kernel_rfl) Tryd.results38 ?_; unfold zey at h; refine zan fun _ z => ?_; simp only [go_sem]; apply z; refine zai ?_; obtain ⟨x2, h4, h⟩ := bind_some h; refine zao fun _ z => ?_; simp only [go_sem, seval]; refine SC.mono (zbJ a0 (3 : Int) _ h4 _ _ _ P0 (by simp only [go_sem, ↓reduceIte, pz2 hpP0, hmP0])) ?_; rintro _ _ ⟨o_x2, j_x2, s_x2, rfl, rfl⟩; replace s_x2 : q <:+ o_x2 := List.IsSuffix.trans (by simp only [go_sem]) s_x2; simp only [go_sem, seval]; apply z; refine zai ?_; obtain ⟨x5, h6, h⟩ := bind_some h; refine zao fun _ z => ?_; simp only [go_sem, seval]; refine SC.by_ (zbK n x2.2 _ h6 _ _ _ P0 (by simp only [go_sem, ↓reduceIte, pz2 hpP0, hg2])) ?_; simp only [go_sem, seval, pz2 hpP0]; apply z; refine zai ?_; obtain ⟨x7, h8, h⟩ := bind_some h; refine zao fun _ z => ?_; simp only [go_sem, seval]; refine SC.by_ (zau n x5.2 ([58] : Str) _ h8 _ _ _ P0 (by simp only [go_sem, ↓reduceIte, pz2 hpP0, hg2])) ?_; simp only [go_sem, Nat.reduceAdd]; apply z; refine zai ?_; refine zan fun _ z => ?_; simp only [go_sem, seval]; apply z; refine zaH ?_; obtain ⟨y14, hy14, h⟩ := bind_some h; refine zbm [] [] rfl (fun c E' m' => ∃ v10 v11 v12 v13, zcj n c v10 v11 v12 v13 = some y14 /\ E' 0 = .ptr P0 0 /\ E' 2 = .ptr (0 :: q) 0 /\ E' 3 = .ptr (3 :: q) 0 /\ E' 14 = .agg ((cA cS zeT)) /\ E' 15 = .lit (.int .i64 v10) /\ m'.blk P0 = some ((zab.C v11)) /\ m'.blk (0 :: q) = some ([.lit (.int .i64 v12.zba), .lit (.int .i64 v12.At_), .lit (.string (bs v12.za0)), .lit (.int .u32 v12.Num_), .list .self (v12.zav.map zaa.C)]) /\ m'.blk (3 :: q) = some ([.lit (.int .i64 v13.zba), .lit (.int .i64 v13.At_), .lit (.string (bs v13.za0)), .lit (.int .u32 v13.Num_), .list .self (v13.zav.map zaa.C)]) /\ m'.gl = m.gl /\ m.back q m' = (m.set P0 ((zab.C v11)))) n ⟨(0 : Int), x7, (zaa.mk (0 : Int) (0 : Int) [] (0 : Int) []), ({ x2.1 with za0 := x5.1 } : zaa), hy14, ?_⟩ ?_
 ·(simp only [go_sem, seval, zam, za4, zaM, zaj, zaq hpP0, pz2 hpP0, s_x2]) <;> (try and_intros) <;> rfl
 rintro i9 c15 E16 m17 ⟨v10, v11, v12, v13, hy14, e18⟩ _
 rcases c15 with _ | c15
 ·exact absurd hy14 (by rw [zcj]; exact fun e => nomatch e)
 rw [zcj] at hy14; refine zan fun _ z => ?_; simp only [go_sem, e18]; apply z; refine zai ?_; refine zcg (decide (v10 < (3 : Int))) (by simp only [go_sem, ↓reduceIte]) (fun c19 => ?_) (fun c19 => ?_)
 ·replace hy14 := zaE c19 hy14; refine zaw ?_
  try simp only [zac]
  refine zai ?_; refine zaH ?_; refine zai ?_; obtain ⟨x20, h24, hy14⟩ := bind_some hy14; obtain ⟨f21, f22, f23⟩ := zaA h24; have f25 : v10 < (3 : Int) := f22; obtain ⟨w26, d27⟩ := ziT (f := cS) (s := 1) (fun _ _ => rfl) f23; simp only [go_sem] at d27; have d28 : List.drop (v10.toNat) [V.lit (.string (bs ([112, 117, 98] : Str))), V.lit (.string (bs ([117, 51, 50] : Str))), V.lit (.string (bs ([117, 54, 52] : Str)))] = _ := d27; refine zao fun _ z => ?_; simp only [go_sem, seval, f21, f25, d27, e18]; apply z; refine zai ?_; obtain ⟨x29, h30, hy14⟩ := bind_some hy14; refine zao fun _ z => ?_; simp only [go_sem, seval, e18]; refine SC.by_ (zaz n v11 x20 _ h30 _ _ _ P0 (by simp only [go_sem, e18, hg2])) ?_; simp only [go_sem, Nat.reduceAdd]; apply z; refine zby x29.1 (fun c31 => ?_) (fun c31 => ?_)
  ·replace hy14 := zaE c31 hy14; refine zan fun _ z => ?_; simp only [go_sem, seval, pz2 hpP0, c31, e18]; apply z; refine zan fun _ z => ?_; simp only [go_sem, seval, pz2 hpP0, e18]; apply z; refine zar ?_
   try simp only [zax, zaL]
   obtain rfl := zah hy14; simp only [Sum.elim_inr] at h; obtain rfl := zah h; refine ⟨by simp, ?_⟩; simp only [go_sem, seval, zam, zaq hpP0, e18]
  ·replace hy14 := zaF c31 hy14; refine zaw ?_
   try simp only [zac, zap]
   refine zao fun _ z => ?_; simp only [go_sem, seval, c31, e18]; apply z; refine ⟨c15, Nat.lt_succ_self _, (IntKind.i64.wrap (v10 + (1 : Int))), x29.2, v12, v13, hy14, ?_⟩
   (simp only [go_sem, seval, zaq hpP0, pz2 hpP0, e18]) <;> (try and_intros) <;> rfl
 ·replace hy14 := zaF c19 hy14; refine zbP ?_
  try simp only [zaU, zaK, ↓reduceIte, zac]
  obtain rfl := zah hy14; simp only [Sum.elim_inl] at h; refine zan fun _ z => ?_; simp only [go_sem, seval, c19, e18]; apply z; refine zai ?_; obtain ⟨x32, h34, h⟩ := bind_some h; refine zao fun _ z => ?_; simp only [go_sem, seval, e18]; refine SC.mono (zbJ v11 (14 : Int) _ h34 _ _ _ P0 (by simp only [go_sem, ↓reduceIte, pz2 hpP0, e18])) ?_; rintro _ _ ⟨o_x32, j_x32, s_x32, rfl, rfl⟩; replace s_x32 : q <:+ o_x32 := List.IsSuffix.trans (by simp only [go_sem]) s_x32; simp only [go_sem, seval]; apply z; refine zai ?_; obtain ⟨x35, h36, h⟩ := bind_some h; refine zao fun _ z => ?_; simp only [go_sem, seval, e18]; refine SC.by_ (ze6 n x32.2 _ h36 _ _ _ P0 (by simp only [go_sem, ↓reduceIte, pz2 hpP0, e18, hg2])) ?_; simp only [go_sem, seval, pz2 hpP0]; apply z; refine zan fun _ z => ?_; simp only [go_sem, seval, pz2 hpP0, e18]; apply z; refine zan fun _ z => ?_; simp only [go_sem, seval, pz2 hpP0, e18]; apply z; refine zar ?_; obtain rfl := zah h; refine ⟨by simp, ?_⟩; simp only [go_sem, seval, zam, za4, zaM, zaq hpP0, s_x32, e18]
def zfG (f : zab -> Option ((List zaa) × zab)) : Prop := ∀ a0 r, f a0 = some r -> ∀ (q : Pa) (m : M) (vs : List V) (P0 : Pa), vs.map V.weak1 = [.ptr P0 0, .fn (.func 38) [.ptr P0 0] []] /\ m.blk P0 = some ((zab.C a0)) /\ m.gl 2 = .eptr [(cA cS zaI)] 0 0 -> SC Tryd.prog 37 vs q m (fun v m' => ∃ (id : Pa) (j : Nat), q <:+ id /\ v = .list (.st (.anon id j)) (r.1.map zaa.C) /\ m' = (m.set P0 ((zab.C r.2))).tokset id j true)
theorem zdZ (n : Nat) : zfG (zcv n) := by
 rintro a0 r h q m vs P0 ⟨hv, hmP0, hg2⟩; refine SC.weak ?_; rw [hv]; refine SC.apart hmP0 fun hpP0 => ?_; have hmsP0 := za5 hmP0
 try simp only [go_sem] at hmP0 hmsP0
 refine SC_ofO Tryd.func37 rfl (fun xs w => Tryd.call37 xs w) Tryd.ntmps37 (by kernel_rfl) ?_; unfold zcv at h; refine zan fun _ z => ?_; simp only [go_sem]; apply z; refine zan fun _ z => ?_; simp only [go_sem, Nat.reduceAdd]; apply z; refine zai ?_; obtain ⟨x1, h2, h⟩ := bind_some h; refine zao fun _ z => ?_; simp only [go_sem, seval]; refine SC.by_ (zau n a0 ([40] : Str) _ h2 _ _ _ P0 (by simp only [go_sem, hmP0, hg2])) ?_; simp only [go_sem, Nat.reduceAdd]; apply z; refine zai ?_; refine zai ?_; obtain ⟨x3, h4, h⟩ := bind_some h; refine zao fun _ z => ?_; simp only [go_sem, seval]; refine SC.by_ (zaz n x1 ([41] : Str) _ h4 _ _ _ P0 (by simp only [go_sem, ↓reduceIte, hg2])) ?_; simp only [go_sem, Nat.reduceAdd]; apply z; refine zby x3.1 (fun c5 => ?_) (fun c5 => ?_)
 ·replace h := zaE c5 h; refine zan fun _ z => ?_; simp only [go_sem, Nat.reduceAdd, c5]; apply z; refine zar ?_
  try simp only [zax]
  obtain rfl := zah h; refine ⟨by simp, ?_⟩; refine ⟨(7 :: q), 0, _, (by simp only [go_sem]), .exact (t := 4) (rows := ([].map zaa.C)) (congrArg Array.toList Tryd.results37) (by simp only [go_sem, ↓reduceIte]), (7 :: q), 0, (by simp only [go_sem]), ?_, ?_⟩ <;> simp only [go_sem, zaj, zaq hpP0]
 ·replace h := zaF c5 h; refine zaw ?_
  try simp only [zac]
  refine zai ?_; obtain ⟨y6, hy6, h⟩ := bind_some h; refine zbe 8 [] [] rfl (fun E' m' => ∃ (oy6_5 : Pa) (jy6_5 : Nat), E' 0 = .ptr P0 0 /\ E' 5 = .list (.st (.anon oy6_5 jy6_5)) (y6.1.map zaa.C) /\ m'.tok oy6_5 jy6_5 = true /\ q <:+ oy6_5 /\ m'.blk P0 = some ((zab.C y6.2)) /\ m'.gl = m.gl /\ m.back q m' = (m.set P0 ((zab.C y6.2)))) ?_ ?_
  ·refine zaH ?_; obtain ⟨y10, hy10, hy6⟩ := bind_some hy6; refine zh7 5 ([].map zaa.C) rfl (by simp only [go_sem, seval, c5]) ?_; refine zbm [] [] rfl (fun c E' m' => ∃ v8 v9 o_v8 j_v8, zbO n c v8 v9 = some y10 /\ E' 0 = .ptr P0 0 /\ E' 1 = .fn (.func 38) [.ptr P0 0] [] /\ E' 5 = .list (.st (.anon o_v8 j_v8)) (v8.map zaa.C) /\ m'.tok o_v8 j_v8 = true /\ q <:+ o_v8 /\ m'.blk P0 = some ((zab.C v9)) /\ m'.gl = m.gl /\ m.back q m' = (m.set P0 ((zab.C v9)))) n ⟨[], x3.2, (6 :: q), 0, hy10, ?_⟩ ?_
   ·simp only [go_sem, seval, zaM, zaj, zaq hpP0, c5]
   rintro i7 c11 E12 m13 ⟨v8, v9, o_v8, j_v8, hy10, e14⟩ _
   rcases c11 with _ | c11
   ·exact absurd hy10 (by rw [zbO]; exact fun e => nomatch e)
   rw [zbO] at hy10; refine zai ?_; refine zan fun _ z => ?_; simp only [go_sem, seval, e14]; apply z; refine zby (v9.e_ == (0 : Int)) (fun c15 => ?_) (fun c15 => ?_)
   ·replace hy10 := zaE c15 hy10; refine zaw ?_
    try simp only [zac]
    refine zaH ?_; refine zai ?_; obtain ⟨x16, h17, hy10⟩ := bind_some hy10; obtain ⟨f18, hy10⟩ := zaO hy10; have f19 : v8.length + 1 <= 1073741824 := by first | omega | (simp only [List.length_append, List.length_cons, List.length_nil] at f18 ⊢; omega)
    have f20 : v8.length <= 1073741823 := by first | omega | (simp only [List.length_append, List.length_cons, List.length_nil] at f18 ⊢; omega)
    refine zao fun _ z => ?_; simp only [go_sem, seval, c15, e14]; refine SC.by_ (zgW n v9 _ h17 _ _ _ P0 (by simp only [go_sem, e14, hg2])) ?_; simp only [go_sem, seval, f19, e14]; apply z; refine zai ?_; obtain ⟨x21, h22, hy10⟩ := bind_some hy10; refine zao fun _ z => ?_; simp only [go_sem, seval, e14]; refine SC.by_ (zaz n x16.2 ([44] : Str) _ h22 _ _ _ P0 (by simp only [go_sem, ↓reduceIte, e14, hg2])) ?_; simp only [go_sem, seval]; apply z; refine zby (!x21.1) (fun c23 => ?_) (fun c23 => ?_)
    ·replace hy10 := zaE c23 hy10; refine zbP ?_
     try simp only [seval, zaU, zaK, zac]
     obtain rfl := zah hy10; obtain rfl := zah hy6; refine ⟨by decide, (9 :: i7 :: 7 :: q), 0, ?_⟩; simp only [go_sem, seval, zaM, zaq hpP0, c23, e14]
    ·replace hy10 := zaF c23 hy10; refine zaw ?_
     try simp only [zac, zap]
     refine ⟨c11, Nat.lt_succ_self _, (v8 ++ [x16.1]), x21.2, (9 :: i7 :: 7 :: q), 0, hy10, ?_⟩; simp only [go_sem, seval, zaM, zaq hpP0, c23, e14]
   ·replace hy10 := zaF c15 hy10; refine zbP ?_
    try simp only [zaU, zaK, ↓reduceIte, zac]
    obtain rfl := zah hy10; obtain rfl := zah hy6; refine ⟨by decide, o_v8, j_v8, ?_⟩; simp only [go_sem, seval, c15, e14]
  ·rintro E24 m25 ⟨oy6_5, jy6_5, e26⟩ _; simp only [zac]; refine zai ?_; obtain ⟨x27, h28, h⟩ := bind_some h; refine zao fun _ z => ?_; simp only [go_sem, seval, e26]; refine SC.by_ (zau n y6.2 ([41] : Str) _ h28 _ _ _ P0 (by simp only [go_sem, e26, hg2])) ?_; simp only [go_sem, Nat.reduceAdd]; apply z; refine zan fun _ z => ?_; simp only [go_sem, seval, e26]; apply z; refine zar ?_; obtain rfl := zah h; refine ⟨by simp, ?_⟩; refine ⟨oy6_5, jy6_5, _, (by simp only [go_sem, e26]), .mine (t := 4) (rows := (y6.1.map zaa.C)) (congrArg Array.toList Tryd.results37) (by simp only [go_sem, ↓reduceIte]) (by simp only [go_sem, e26]), oy6_5, jy6_5, (by simp only [go_sem, e26]), ?_, ?_⟩ <;> simp only [go_sem, zaq hpP0, e26]
def zhQ (f : zab -> Int -> Option zab) : Prop := ∀ a0 a1 r, f a0 a1 = some r -> ∀ (q : Pa) (m : M) (vs : List V) (P0 : Pa), vs.map V.weak1 = [.ptr P0 0, .lit (.int .i64 a1)] /\ m.blk P0 = some ((zab.C a0)) -> SC Tryd.prog 54 vs q m (fun v m' => v = .tup [] /\ m' = (m.set P0 ((zab.C r))))
theorem ze8 : zhQ (zdP) := by
 rintro a0 a1 r h q m vs P0 ⟨hv, hmP0⟩; refine SC.weak ?_; rw [hv]; refine SC.apart hmP0 fun hpP0 => ?_; have hmsP0 := za5 hmP0
 try simp only [go_sem] at hmP0 hmsP0
 refine SC_w Tryd.func54 rfl (fun xs w => Tryd.call54 xs w) Tryd.ntmps54 (by kernel_rfl) Tryd.results54 ?_; unfold zdP at h; refine zan fun _ z => ?_; simp only [go_sem, seval]; apply z; refine zcg (decide ((64 : Int) < a1)) (by simp only [go_sem, ↓reduceIte]) (fun c1 => ?_) (fun c1 => ?_)
 ·replace h := zaE c1 h; obtain ⟨x2, h3, h⟩ := bind_some h; refine zcW fun _ z => ?_; simp only [go_sem, seval, c1]; refine SC.by_ (zcy a0 (111 : Int) _ h3 _ _ _ P0 (by simp only [go_sem, hmP0])) ?_; simp only [go_sem, Nat.reduceAdd]; apply z; simp only []; obtain rfl := zah h; refine ⟨by simp, ?_⟩; simp only [go_sem, zaj, zaq hpP0]
 ·replace h := zaF c1 h; refine zaw ?_; obtain rfl := zah h; refine ⟨by simp, ?_⟩; simp only [go_sem, zaj, hmsP0, c1]
def zhL (f : zab -> Int -> Option Str) : Prop := ∀ a0 a1 r, f a0 a1 = some r -> ∀ (q : Pa) (m : M) (vs : List V) (P0 : Pa), vs.map V.weak1 = [.ptr P0 0, .lit (.int .i64 a1)] /\ m.blk P0 = some ((zab.C a0)) /\ m.gl 2 = .eptr [(cA cS zaI)] 0 0 /\ m.gl 4 = .eptr [(cA (cA cS) za6)] 0 0 -> SC Tryd.prog 96 vs q m (fun v m' => v = .lit (.string (bs r)) /\ m' = m)
theorem ze7 (n : Nat) : zhL (zdN n) := by
 rintro a0 a1 r h q m vs P0 ⟨hv, hmP0, hg2, hg4⟩; refine SC.weak ?_; rw [hv]; refine SC.apart hmP0 fun hpP0 => ?_
 try simp only [go_sem] at hmP0
 refine SC_w Tryd.func96 rfl (fun xs w => Tryd.call96 xs w) Tryd.ntmps96 (by kernel_rfl) Tryd.results96 ?_; unfold zdN at h; refine zan fun _ z => ?_; simp only [go_sem]; apply z; refine zai ?_; refine zai ?_; obtain ⟨x1, h5, h⟩ := bind_some h; obtain ⟨f2, f3, f4⟩ := zaA h5; have f6 : a1 < (7 : Int) := f3; obtain ⟨w7, d8⟩ := ziT (f := (cA cS)) (s := 3) (cA_all (f := (cA cS)) (s := 3) _ (by kernel_rfl)) f4; have d9 := (cA_all (f := (cA cS)) (s := 3) _ (by kernel_rfl)) _ (List.mem_of_getElem? f4); have d10 := List.take_left' (l₂ := w7) d9; have d11 : (3 <= (cA cS x1).length + w7.length) = True := eq_true (by omega); refine zao fun _ z => ?_; simp only [go_sem, seval, f2, f6, d10, d11, d8, hg4]; apply z; refine zaH ?_; obtain ⟨y14, hy14, h⟩ := bind_some h; refine zbm [] [] rfl (fun c E' m' => ∃ v13, zcx n x1 a0 c v13 = some y14 /\ E' 0 = .ptr P0 0 /\ E' 9 = .agg ((cA cS x1)) /\ E' 10 = .lit (.int .i64 v13) /\ m'.blk P0 = some ((zab.C a0)) /\ m'.gl = m.gl /\ m.back q m' = m) n ⟨(0 : Int), hy14, ?_⟩ ?_
 ·simp only [go_sem, seval, zaj, hmP0]
 rintro i12 c15 E16 m17 ⟨v13, hy14, e18⟩ _
 rcases c15 with _ | c15
 ·exact absurd hy14 (by rw [zcx]; exact fun e => nomatch e)
 rw [zcx] at hy14; refine zan fun _ z => ?_; simp only [go_sem, e18]; apply z; refine zai ?_; refine zcg (decide (v13 < (3 : Int))) (by simp only [go_sem, ↓reduceIte]) (fun c19 => ?_) (fun c19 => ?_)
 ·replace hy14 := zaE c19 hy14; refine zaw ?_
  try simp only [zac]
  refine zai ?_; refine zaH ?_; refine zai ?_; obtain ⟨x20, h24, hy14⟩ := bind_some hy14; obtain ⟨f21, f22, f23⟩ := zaA h24; have f25 := (List.getElem?_eq_some_iff.1 f23).1; have f26 : v13 < (3 : Int) := by have := cA_one d9; omega
  obtain ⟨w27, d28⟩ := ziT (f := cS) (s := 1) (fun _ _ => rfl) f23; simp only [go_sem] at d28; refine zao fun _ z => ?_; simp only [go_sem, seval, f21, f26, d28, e18]; apply z; refine zai ?_; obtain ⟨y29, hy29, hy14⟩ := bind_some hy14; refine zbe 10 [] [] rfl (fun E' m' => E' 0 = .ptr P0 0 /\ E' 6 = .lit (.string (bs x20)) /\ E' 9 = .agg ((cA cS x1)) /\ E' 10 = .lit (.int .i64 v13) /\ E' 19 = .lit (.bool y29) /\ m'.blk P0 = some ((zab.C a0)) /\ m'.gl = m.gl /\ m.back q m' = m) ?_ ?_
  ·rcases zbb (decide (x20 ≠ ([] : Str))) with c30 | c30
   ·replace hy29 := zaE c30 hy29; obtain ⟨x31, h32, hy29⟩ := bind_some hy29; refine zao fun _ z => ?_; simp only [go_sem, seval, c30, e18]; refine SC.by_ (zc1 n a0 x20 _ h32 _ _ _ P0 (by simp only [go_sem, e18, hg2])) ?_; simp only [go_sem, seval]; apply z; obtain rfl := zah hy29; refine ⟨by decide, ?_⟩; simp only [go_sem, seval, e18]
   ·replace hy29 := zaF c30 hy29; refine zao fun _ z => ?_; simp only [go_sem, seval, c30]; apply z; obtain rfl := zah hy29; refine ⟨by decide, ?_⟩; simp only [go_sem, seval, e18]
  ·intro E33 m34 e35 _; simp only [zac]; refine zcg y29 (by simp only [go_sem, e35]) (fun c36 => ?_) (fun c36 => ?_)
   ·replace hy14 := zaE c36 hy14; refine zan fun _ z => ?_; simp only [go_sem, seval, e35]; apply z; refine zar ?_
    try simp only [zax, zaL]
    obtain rfl := zah hy14; simp only [Sum.elim_inr] at h; obtain rfl := zah h; refine ⟨by simp, ?_⟩; simp only [go_sem, ↓reduceIte, e35]
   ·replace hy14 := zaF c36 hy14; refine zaw ?_
    try simp only [zac, zap]
    refine zao fun _ z => ?_; simp only [go_sem, seval, e35]; apply z; refine ⟨c15, Nat.lt_succ_self _, (IntKind.i64.wrap (v13 + (1 : Int))), hy14, ?_⟩; simp only [go_sem, seval, e35]
 ·replace hy14 := zaF c19 hy14; refine zbP ?_
  try simp only [zaU, zaK, ↓reduceIte, zac]
  obtain rfl := zah hy14; simp only [Sum.elim_inl] at h; refine zan fun _ z => ?_; simp only [go_sem, Nat.reduceAdd, c19]; apply z; refine zar ?_; obtain rfl := zah h; refine ⟨by simp, ?_⟩; simp only [go_sem, ↓reduceIte, e18]
def zct (f : zab -> Int -> Option ((List zaa) × zab)) : Prop := ∀ a0 a1 r, f a0 a1 = some r -> ∀ (q : Pa) (m : M) (vs : List V) (P0 : Pa) (P1 : Pa) (P2 : Pa), vs.map V.weak1 = [.ptr P0 0, .fn (.func 103) [] [.ptr P1 0, .ptr P2 0]] /\ m.blk P0 = some ((zab.C a0)) /\ m.blk P1 = some ([.ptr P0 0]) /\ m.blk P2 = some ([.lit (.int .i64 a1)]) /\ (P0 = P1) = False /\ (P0 = P2) = False /\ (P1 = P0) = False /\ (P1 = P2) = False /\ (P2 = P0) = False /\ (P2 = P1) = False /\ m.gl 2 = .eptr [(cA cS zaI)] 0 0 /\ m.gl 4 = .eptr [(cA (cA cS) za6)] 0 0 -> SC Tryd.prog 37 vs q m (fun v m' => v = .list .none (r.1.map zaa.C) /\ m' = (m.set P0 ((zab.C r.2))))
def zcM (f : zab -> Int -> Option (zaa × zab)) : Prop := ∀ a0 a1 r, f a0 a1 = some r -> ∀ (q : Pa) (m : M) (vs : List V) (P0 : Pa), vs.map V.weak1 = [.ptr P0 0, .lit (.int .i64 a1)] /\ m.blk P0 = some ((zab.C a0)) /\ m.gl 2 = .eptr [(cA cS zaI)] 0 0 /\ m.gl 4 = .eptr [(cA (cA cS) za6)] 0 0 -> SC Tryd.prog 70 vs q m (fun v m' => v = .agg ((zaa.C r.1)) /\ m' = (m.set P0 ((zab.C r.2))))
def zdh (f : zab -> Int -> Int -> Option (zaa × zab)) : Prop := ∀ a0 a1 a2 r, f a0 a1 a2 = some r -> ∀ (q : Pa) (m : M) (vs : List V) (P0 : Pa), vs.map V.weak1 = [.ptr P0 0, .lit (.int .i64 a1), .lit (.int .i64 a2)] /\ m.blk P0 = some ((zab.C a0)) /\ m.gl 2 = .eptr [(cA cS zaI)] 0 0 /\ m.gl 4 = .eptr [(cA (cA cS) za6)] 0 0 -> SC Tryd.prog 88 vs q m (fun v m' => v = .agg ((zaa.C r.1)) /\ m' = (m.set P0 ((zab.C r.2))))
def zcT (f : zab -> Int -> Option (zaa × zab)) : Prop := ∀ a0 a1 r, f a0 a1 = some r -> ∀ (q : Pa) (m : M) (vs : List V) (P0 : Pa), vs.map V.weak1 = [.ptr P0 0, .lit (.int .i64 a1)] /\ m.blk P0 = some ((zab.C a0)) /\ m.gl 2 = .eptr [(cA cS zaI)] 0 0 /\ m.gl 4 = .eptr [(cA (cA cS) za6)] 0 0 -> SC Tryd.prog 95 vs q m (fun v m' => v = .agg ((zaa.C r.1)) /\ m' = (m.set P0 ((zab.C r.2))))
def zdl (f : zab -> Int -> Option (zaa × zab)) : Prop := ∀ a0 a1 r, f a0 a1 = some r -> ∀ (q : Pa) (m : M) (vs : List V) (P0 : Pa) (P1 : Pa) (P2 : Pa), vs.map V.weak1 = [.ptr P1 0, .ptr P2 0] /\ m.blk P0 = some ((zab.C a0)) /\ m.blk P1 = some ([.ptr P0 0]) /\ m.blk P2 = some ([.lit (.int .i64 a1)]) /\ (P0 = P1) = False /\ (P0 = P2) = False /\ (P1 = P0) = False /\ (P1 = P2) = False /\ (P2 = P0) = False /\ (P2 = P1) = False /\ m.gl 2 = .eptr [(cA cS zaI)] 0 0 /\ m.gl 4 = .eptr [(cA (cA cS) za6)] 0 0 -> SC Tryd.prog 103 vs q m (fun v m' => v = .agg ((zaa.C r.1)) /\ m' = (m.set P0 ((zab.C r.2))))
theorem zeE {zbg : zab -> Int -> Option (zaa × zab)} (zfx : zdl zbg) (n : Nat) : zct (zcs zbg n) := by
 rintro a0 a1 r h q m vs P0 P1 P2 ⟨hv, hmP0, hmP1, hmP2, hn0_1, hn0_2, hn1_0, hn1_2, hn2_0, hn2_1, hg2, hg4⟩; refine SC.weak ?_; rw [hv]; refine SC.apart hmP0 fun hpP0 => ?_; refine SC.apart hmP1 fun hpP1 => ?_; refine SC.apart hmP2 fun hpP2 => ?_; have hmsP0 := za5 hmP0
 try simp only [go_sem] at hmP0 hmsP0
 skip
 try simp only [go_sem, seval, Int.reduceToNat, UInt8.reduceToNat] at hmP2
 refine SC_w Tryd.func37 rfl (fun xs w => Tryd.call37 xs w) Tryd.ntmps37 (by kernel_rfl) Tryd.results37 ?_; unfold zcs at h; refine zan fun _ z => ?_; simp only [go_sem]; apply z; refine zan fun _ z => ?_; simp only [go_sem, Nat.reduceAdd]; apply z; refine zai ?_; obtain ⟨x1, h2, h⟩ := bind_some h; refine zao fun _ z => ?_; simp only [go_sem, seval]; refine SC.by_ (zau n a0 ([40] : Str) _ h2 _ _ _ P0 (by simp only [go_sem, hmP0, hg2])) ?_; simp only [go_sem, Nat.reduceAdd]; apply z; refine zai ?_; refine zai ?_; obtain ⟨x3, h4, h⟩ := bind_some h; refine zao fun _ z => ?_; simp only [go_sem, seval]; refine SC.by_ (zaz n x1 ([41] : Str) _ h4 _ _ _ P0 (by simp only [go_sem, ↓reduceIte, hg2])) ?_; simp only [go_sem, Nat.reduceAdd]; apply z; refine zby x3.1 (fun c5 => ?_) (fun c5 => ?_)
 ·replace h := zaE c5 h; refine zan fun _ z => ?_; simp only [go_sem, Nat.reduceAdd, c5]; apply z; refine zar ?_
  try simp only [zax]
  obtain rfl := zah h; refine ⟨by simp, ?_⟩; simp only [go_sem, ↓reduceIte, zaj, zaq hpP0]
 ·replace h := zaF c5 h; refine zaw ?_
  try simp only [zac]
  refine zai ?_; obtain ⟨y6, hy6, h⟩ := bind_some h; refine zbe 8 [] [] rfl (fun E' m' => ∃ (oy6_5 : Pa) (jy6_5 : Nat), E' 0 = .ptr P0 0 /\ E' 5 = .list (.st (.anon oy6_5 jy6_5)) (y6.1.map zaa.C) /\ m'.tok oy6_5 jy6_5 = true /\ q <:+ oy6_5 /\ m'.blk P0 = some ((zab.C y6.2)) /\ m'.blk P1 = some ([.ptr P0 0]) /\ m'.blk P2 = some ([.lit (.int .i64 a1)]) /\ m'.gl = m.gl /\ m.back q m' = (m.set P0 ((zab.C y6.2)))) ?_ ?_
  ·refine zaH ?_; obtain ⟨y10, hy10, hy6⟩ := bind_some hy6; refine zh7 5 ([].map zaa.C) rfl (by simp only [go_sem, seval, c5]) ?_; refine zbm [] [] rfl (fun c E' m' => ∃ v8 v9 o_v8 j_v8, zbB zbg n a1 c v8 v9 = some y10 /\ E' 0 = .ptr P0 0 /\ E' 1 = .fn (.func 103) [] [.ptr P1 0, .ptr P2 0] /\ E' 5 = .list (.st (.anon o_v8 j_v8)) (v8.map zaa.C) /\ m'.tok o_v8 j_v8 = true /\ q <:+ o_v8 /\ m'.blk P0 = some ((zab.C v9)) /\ m'.blk P1 = some ([.ptr P0 0]) /\ m'.blk P2 = some ([.lit (.int .i64 a1)]) /\ m'.gl = m.gl /\ m.back q m' = (m.set P0 ((zab.C v9)))) n ⟨[], x3.2, (6 :: q), 0, hy10, ?_⟩ ?_
   ·simp only [go_sem, seval, zaM, zaj, zaq hpP0, hn1_0, hn2_0, c5, hmP1, hmP2]
   rintro i7 c11 E12 m13 ⟨v8, v9, o_v8, j_v8, hy10, e14⟩ _
   rcases c11 with _ | c11
   ·exact absurd hy10 (by rw [zbB]; exact fun e => nomatch e)
   rw [zbB] at hy10; refine zai ?_; refine zan fun _ z => ?_; simp only [go_sem, seval, e14]; apply z; refine zby (v9.e_ == (0 : Int)) (fun c15 => ?_) (fun c15 => ?_)
   ·replace hy10 := zaE c15 hy10; refine zaw ?_
    try simp only [zac]
    refine zaH ?_; refine zai ?_; obtain ⟨x16, h17, hy10⟩ := bind_some hy10; obtain ⟨f18, hy10⟩ := zaO hy10; have f19 : v8.length + 1 <= 1073741824 := by first | omega | (simp only [List.length_append, List.length_cons, List.length_nil] at f18 ⊢; omega)
    have f20 : v8.length <= 1073741823 := by first | omega | (simp only [List.length_append, List.length_cons, List.length_nil] at f18 ⊢; omega)
    refine zao fun _ z => ?_; simp only [go_sem, seval, c15, e14]; refine SC.by_ (zfx v9 a1 _ h17 _ _ _ P0 P1 P2 (by simp only [go_sem, hn0_1, hn0_2, hn1_0, hn1_2, hn2_0, hn2_1, e14, hg2, hg4])) ?_; simp only [go_sem, seval, f19, e14]; apply z; refine zai ?_; obtain ⟨x21, h22, hy10⟩ := bind_some hy10; refine zao fun _ z => ?_; simp only [go_sem, seval, e14]; refine SC.by_ (zaz n x16.2 ([44] : Str) _ h22 _ _ _ P0 (by simp only [go_sem, ↓reduceIte, e14, hg2])) ?_; simp only [go_sem, seval]; apply z; refine zby (!x21.1) (fun c23 => ?_) (fun c23 => ?_)
    ·replace hy10 := zaE c23 hy10; refine zbP ?_
     try simp only [seval, zaU, zaK, zac]
     obtain rfl := zah hy10; obtain rfl := zah hy6; refine ⟨by decide, (9 :: i7 :: 7 :: q), 0, ?_⟩; simp only [go_sem, seval, zaM, zaq hpP0, hn1_0, hn2_0, c23, e14]
    ·replace hy10 := zaF c23 hy10; refine zaw ?_
     try simp only [zac, zap]
     refine ⟨c11, Nat.lt_succ_self _, (v8 ++ [x16.1]), x21.2, (9 :: i7 :: 7 :: q), 0, hy10, ?_⟩; simp only [go_sem, seval, zaM, zaq hpP0, hn1_0, hn2_0, c23, e14]
   ·replace hy10 := zaF c15 hy10; refine zbP ?_
    try simp only [zaU, zaK, ↓reduceIte, zac]
    obtain rfl := zah hy10; obtain rfl := zah hy6; refine ⟨by decide, o_v8, j_v8, ?_⟩; simp only [go_sem, seval, c15, e14]
  ·rintro E24 m25 ⟨oy6_5, jy6_5, e26⟩ _; simp only [zac]; refine zai ?_; obtain ⟨x27, h28, h⟩ := bind_some h; refine zao fun _ z => ?_; simp only [go_sem, seval, e26]; refine SC.by_ (zau n y6.2 ([41] : Str) _ h28 _ _ _ P0 (by simp only [go_sem, e26, hg2])) ?_; simp only [go_sem, Nat.reduceAdd]; apply z; refine zan fun _ z => ?_; simp only [go_sem, seval, e26]; apply z; refine zar ?_; obtain rfl := zah h; refine ⟨by simp, ?_⟩; simp only [go_sem, ↓reduceIte, zaq hpP0, e26]
theorem zgE {zaV : zab -> Int -> Int -> Option (zaa × zab)} (zcK : zdh zaV) (n : Nat) : zcM (zej zaV n) := by
 rintro a0 a1 r h q m vs P0 ⟨hv, hmP0, hg2, hg4⟩; refine SC.weak ?_; rw [hv]; refine SC.apart hmP0 fun hpP0 => ?_; have hmsP0 := za5 hmP0
 try simp only [go_sem] at hmP0 hmsP0
 refine SC_w Tryd.func70 rfl (fun xs w => Tryd.call70 xs w) Tryd.ntmps70 (by kernel_rfl) Tryd.results70 ?_; unfold zej at h; refine zan fun _ z => ?_; simp only [go_sem]; apply z; refine zai ?_; obtain ⟨x2, h3, h⟩ := bind_some h; refine zao fun _ z => ?_; simp only [go_sem, seval]; refine SC.by_ (zcK a0 (0 : Int) a1 _ h3 _ _ _ P0 (by simp only [go_sem, ↓reduceIte, pz1 hpP0, hmP0, hg2, hg4])) ?_; simp only [go_sem, seval, pz1 hpP0]; apply z; refine zar ?_; obtain rfl := zah h; refine ⟨by simp, ?_⟩; simp only [go_sem, seval, zam, zaj, zaq hpP0]
theorem zgi {zaS : zab -> Int -> Option (zaa × zab)} (zde : zcT zaS) {zaV : zab -> Int -> Int -> Option (zaa × zab)} (zcK : zdh zaV) (n : Nat) : zdh (zd3 zaS zaV n) := by
 rintro a0 a1 a2 r h q m vs P0 ⟨hv, hmP0, hg2, hg4⟩; refine SC.weak ?_; rw [hv]; refine SC.apart hmP0 fun hpP0 => ?_; have hmsP0 := za5 hmP0
 try simp only [go_sem] at hmP0 hmsP0
 refine SC_w Tryd.func88 rfl (fun xs w => Tryd.call88 xs w) Tryd.ntmps88 (by kernel_rfl) Tryd.results88 ?_; unfold zd3 at h; refine zan fun _ z => ?_; simp only [go_sem]; apply z; refine zai ?_; refine zan fun _ z => ?_; simp only [go_sem, seval]; apply z; refine zby (a1 == (7 : Int)) (fun c2 => ?_) (fun c2 => ?_)
 ·replace h := zaE c2 h; refine zai ?_; obtain ⟨x3, h4, h⟩ := bind_some h; refine zao fun _ z => ?_; simp only [go_sem, seval, c2]; refine SC.by_ (zde a0 a2 _ h4 _ _ _ P0 (by simp only [go_sem, ↓reduceIte, pz2 hpP0, hmP0, hg2, hg4])) ?_; simp only [go_sem, seval, pz2 hpP0]; apply z; refine zar ?_
  try simp only [zax]
  obtain rfl := zah h; refine ⟨by simp, ?_⟩; simp only [go_sem, seval, zam, zaj, zaq hpP0]
 ·replace h := zaF c2 h; refine zaw ?_
  try simp only [zac]
  refine zai ?_; obtain ⟨x5, h7, h⟩ := bind_some h; refine zao fun _ z => ?_; simp only [go_sem, seval, c2]; refine SC.by_ (zcK a0 (IntKind.i64.wrap (a1 + (1 : Int))) a2 _ h7 _ _ _ P0 (by simp only [go_sem, ↓reduceIte, pz2 hpP0, hmP0, hg2, hg4])) ?_; simp only [go_sem, seval]; apply z; refine zai ?_; refine zai ?_; obtain ⟨x8, h9, h⟩ := bind_some h; refine zao fun _ z => ?_; simp only [go_sem, seval]; refine SC.by_ (ze7 n x5.2 a1 _ h9 _ _ _ P0 (by simp only [go_sem, ↓reduceIte, pz2 hpP0, hg2, hg4])) ?_; simp only [go_sem, seval]; apply z; refine zaH ?_; obtain ⟨y14, hy14, h⟩ := bind_some h; refine zbm [] [] rfl (fun c E' m' => ∃ v11 v12 v13, zck zaV n a1 a2 c v11 v12 v13 = some y14 /\ E' 0 = .ptr P0 0 /\ E' 1 = .lit (.int .i64 a1) /\ E' 2 = .lit (.int .i64 a2) /\ E' 6 = .ptr (0 :: q) 0 /\ E' 7 = .ptr (8 :: q) 0 /\ E' 8 = .lit (.string (bs v11)) /\ m'.blk P0 = some ((zab.C v12)) /\ m'.blk (0 :: q) = some ([.lit (.int .i64 (0 : Int)), .lit (.int .i64 (0 : Int)), .lit (.string (bs [])), .lit (.int .u32 (0 : Int)), .list .self ([].map zaa.C)]) /\ m'.blk (8 :: q) = some ((zaa.C v13)) /\ m'.gl = m.gl /\ m.back q m' = (m.set P0 ((zab.C v12)))) n ⟨x8, x5.2, x5.1, hy14, ?_⟩ ?_
  ·simp only [go_sem, seval, zam, zaj, zaq hpP0, pz2 hpP0]
  rintro i10 c15 E16 m17 ⟨v11, v12, v13, hy14, e18⟩ _
  rcases c15 with _ | c15
  ·exact absurd hy14 (by rw [zck]; exact fun e => nomatch e)
  rw [zck] at hy14; refine zai ?_; refine zan fun _ z => ?_; simp only [go_sem, seval, e18]; apply z; refine zcg (decide (v11 ≠ ([] : Str))) (by simp only [go_sem, ↓reduceIte]) (fun c19 => ?_) (fun c19 => ?_)
  ·replace hy14 := zaE c19 hy14; refine zaw ?_
   try simp only [zac]
   refine zai ?_; refine zaH ?_; refine zai ?_; obtain ⟨x20, h22, hy14⟩ := bind_some hy14; refine zao fun _ z => ?_; simp only [go_sem, seval, c19, e18]; refine SC.mono (zbJ v12 (19 : Int) _ h22 _ _ _ P0 (by simp only [go_sem, e18])) ?_; rintro _ _ ⟨o_x20, j_x20, s_x20, rfl, rfl⟩; replace s_x20 : q <:+ o_x20 := List.IsSuffix.trans (by simp only [go_sem]) s_x20; simp only [go_sem, seval]; apply z; refine zai ?_; obtain ⟨x23, h24, hy14⟩ := bind_some hy14; refine zao fun _ z => ?_; simp only [go_sem, seval, e18]; refine SC.by_ (zau n x20.2 v11 _ h24 _ _ _ P0 (by simp only [go_sem, ↓reduceIte, pz2 hpP0, e18, hg2])) ?_; simp only [go_sem, Nat.reduceAdd]; apply z; refine zai ?_; obtain ⟨x25, h26, hy14⟩ := bind_some hy14; refine zaP (tbl := [0, 0, 0, 0, 8, 0, 60, 126, 1, 381, 1023, 2047]) (ord := [(2, 0), (3, 0), (4, 0), (5, 0), (6, 0), (0, 0), (8, 0), (9, 0), (1, 2), (7, 0), (10, 0), (11, 0)]) 21 rfl (by kernel_rfl) (by kernel_rfl) fun _ z => ?_; simp only [go_sem, seval, e18]; refine zaJ (zcK x23 (IntKind.i64.wrap (a1 + (1 : Int))) a2 _ h26 _ _ _ P0 (by simp only [go_sem, ↓reduceIte, e18, hg2, hg4])) rfl ?_; simp only [go_sem, seval, pz2 hpP0, e18]; apply z; simp only [zac]; refine zan fun _ z => ?_; simp only [go_sem, seval, pz2 hpP0, e18]; apply z; refine zan fun _ z => ?_; simp only [go_sem, seval, e18]; apply z; refine zby (a1 == (3 : Int)) (fun c27 => ?_) (fun c27 => ?_)
   ·replace hy14 := zaE c27 hy14; refine zbP ?_
    try simp only [seval, zaU, zaK, zac]
    obtain rfl := zah hy14; refine zan fun _ z => ?_; simp only [go_sem, seval, pz2 hpP0, c27, e18]; apply z; refine zar ?_; obtain rfl := zah h; refine ⟨by simp, ?_⟩; simp only [go_sem, seval, zam, za4, zaM, zaq hpP0, s_x20, e18]
   ·replace hy14 := zaF c27 hy14; refine zaw ?_
    try simp only [zac, zap]
    obtain ⟨x28, h29, hy14⟩ := bind_some hy14; refine zao fun _ z => ?_; simp only [go_sem, seval, c27, e18]; refine SC.by_ (ze7 n x25.2 a1 _ h29 _ _ _ P0 (by simp only [go_sem, ↓reduceIte, pz2 hpP0, e18, hg2, hg4])) ?_; simp only [go_sem, seval]; apply z; refine ⟨c15, Nat.lt_succ_self _, x28, x25.2, ({ x20.1 with za0 := v11, zav := [v13, x25.1] } : zaa), hy14, ?_⟩; simp only [go_sem, seval, zam, za4, zaM, zaq hpP0, pz2 hpP0, s_x20, e18]
  ·replace hy14 := zaF c19 hy14; refine zbP ?_
   try simp only [zaU, zaK, ↓reduceIte, zac]
   obtain rfl := zah hy14; refine zan fun _ z => ?_; simp only [go_sem, seval, c19, e18]; apply z; refine zar ?_; obtain rfl := zah h; refine ⟨by simp, ?_⟩; simp only [go_sem, seval, zam, e18]
theorem zfS {zbj : zab -> Int -> Option (zaa × zab)} (zcU : zcM zbj) {zaS : zab -> Int -> Option (zaa × zab)} (zde : zcT zaS) {zbQ : zab -> Int -> Option ((List zaa) × zab)} (zeJ : zct zbQ) (n : Nat) : zcT (zdE zbj zaS zbQ n) := by
 rintro a0 a1 r h q m vs P0 ⟨hv, hmP0, hg2, hg4⟩; refine SC.weak ?_; rw [hv]; refine SC.apart hmP0 fun hpP0 => ?_; have hmsP0 := za5 hmP0
 try simp only [go_sem] at hmP0 hmsP0
 refine SC_w Tryd.func95 rfl (fun xs w => Tryd.call95 xs w) Tryd.ntmps95 (by kernel_rfl) Tryd.results95 ?_; unfold zdE at h; refine zan fun _ z => ?_; simp only [go_sem, seval]; apply z; refine zai ?_; obtain ⟨x4, h5, h⟩ := bind_some h; refine zao fun _ z => ?_; simp only [go_sem, seval]; refine SC.by_ (ze8 a0 a1 _ h5 _ _ _ P0 (by simp only [go_sem, ↓reduceIte, pz2 hpP0, hmP0])) ?_; simp only [go_sem, Nat.reduceAdd]; apply z; refine zai ?_; refine zai ?_; obtain ⟨x6, h7, h⟩ := bind_some h; refine zao fun _ z => ?_; simp only [go_sem, seval, pz2 hpP0]; refine SC.by_ (zaz n x4 ([40] : Str) _ h7 _ _ _ P0 (by simp only [go_sem, ↓reduceIte, hg2])) ?_; simp only [go_sem, Nat.reduceAdd]; apply z; refine zby x6.1 (fun c8 => ?_) (fun c8 => ?_)
 ·replace h := zaE c8 h; refine zai ?_; obtain ⟨x9, h11, h⟩ := bind_some h; refine zao fun _ z => ?_; simp only [go_sem, seval, pz2 hpP0, c8]; refine SC.by_ (zcU x6.2 (IntKind.i64.wrap (a1 + (1 : Int))) _ h11 _ _ _ P0 (by simp only [go_sem, ↓reduceIte, hg2, hg4])) ?_; simp only [go_sem, seval]; apply z; refine zai ?_; obtain ⟨x12, h13, h⟩ := bind_some h; refine zao fun _ z => ?_; simp only [go_sem, seval, pz2 hpP0]; refine SC.by_ (zau n x9.2 ([41] : Str) _ h13 _ _ _ P0 (by simp only [go_sem, ↓reduceIte, pz2 hpP0, hg2])) ?_; simp only [go_sem, Nat.reduceAdd]; apply z; refine zan fun _ z => ?_; simp only [go_sem, seval, pz2 hpP0]; apply z; refine zar ?_
  try simp only [zax]
  obtain rfl := zah h; refine ⟨by simp, ?_⟩; simp only [go_sem, seval, zam, zaj, zaq hpP0]
 ·replace h := zaF c8 h; refine zaw ?_
  try simp only [zac]
  refine zai ?_; obtain ⟨x14, h16, h⟩ := bind_some h; refine zao fun _ z => ?_; simp only [go_sem, seval, pz2 hpP0, c8]; refine SC.mono (zbJ x6.2 (15 : Int) _ h16 _ _ _ P0 (by simp only [go_sem, ↓reduceIte])) ?_; rintro _ _ ⟨o_x14, j_x14, s_x14, rfl, rfl⟩; replace s_x14 : q <:+ o_x14 := List.IsSuffix.trans (by simp only [go_sem]) s_x14; simp only [go_sem, seval]; apply z; refine zai ?_; refine zan fun _ z => ?_; simp only [go_sem, seval]; apply z; refine zaH ?_; obtain ⟨y22, hy22, h⟩ := bind_some h; refine zbm [] [] rfl (fun c E' m' => ∃ v18 v19 v20 v21, zb5 zaS n a1 c v18 v19 v20 v21 = some y22 /\ E' 2 = .ptr (0 :: q) 0 /\ E' 3 = .ptr (1 :: q) 0 /\ E' 4 = .ptr (2 :: q) 0 /\ E' 6 = .ptr (10 :: q) 0 /\ E' 23 = .agg ((cA cS zeB)) /\ E' 24 = .lit (.int .i64 v18) /\ m'.blk P0 = some ((zab.C v19)) /\ m'.blk (10 :: q) = some ([.lit (.int .i64 v20.zba), .lit (.int .i64 v20.At_), .lit (.string (bs v20.za0)), .lit (.int .u32 v20.Num_), .list .self (v20.zav.map zaa.C)]) /\ m'.blk (0 :: q) = some ([.ptr P0 0]) /\ m'.blk (1 :: q) = some ([.lit (.int .i64 a1)]) /\ m'.blk (2 :: q) = some ([.lit (.int .i64 v21.zba), .lit (.int .i64 v21.At_), .lit (.string (bs v21.za0)), .lit (.int .u32 v21.Num_), .list .self (v21.zav.map zaa.C)]) /\ m'.gl = m.gl /\ m.back q m' = (m.set P0 ((zab.C v19)))) n ⟨(0 : Int), x14.2, x14.1, (zaa.mk (0 : Int) (0 : Int) [] (0 : Int) []), hy22, ?_⟩ ?_
  ·(simp only [go_sem, seval, zam, za4, zaM, zaj, zaq hpP0, pz2 hpP0, s_x14]) <;> (try and_intros) <;> rfl
  rintro i17 c23 E24 m25 ⟨v18, v19, v20, v21, hy22, e26⟩ _
  rcases c23 with _ | c23
  ·exact absurd hy22 (by rw [zb5]; exact fun e => nomatch e)
  rw [zb5] at hy22; refine zan fun _ z => ?_; simp only [go_sem, e26]; apply z; refine zai ?_; refine zcg (decide (v18 < (2 : Int))) (by simp only [go_sem, ↓reduceIte]) (fun c27 => ?_) (fun c27 => ?_)
  ·replace hy22 := zaE c27 hy22; refine zaw ?_
   try simp only [zac]
   refine zai ?_; refine zaH ?_; refine zai ?_; obtain ⟨x28, h32, hy22⟩ := bind_some hy22; obtain ⟨f29, f30, f31⟩ := zaA h32; have f33 : v18 < (2 : Int) := f30; obtain ⟨w34, d35⟩ := ziT (f := cS) (s := 1) (fun _ _ => rfl) f31; simp only [go_sem] at d35; have d36 : List.drop (v18.toNat) [V.lit (.string (bs ([126] : Str))), V.lit (.string (bs ([45] : Str)))] = _ := d35; refine zao fun _ z => ?_; simp only [go_sem, seval, f29, f33, d35, e26]; apply z; refine zai ?_; obtain ⟨x37, h38, hy22⟩ := bind_some hy22; refine zao fun _ z => ?_; simp only [go_sem, seval, e26]; refine SC.by_ (zaz n v19 x28 _ h38 _ _ _ P0 (by simp only [go_sem, e26, hg2])) ?_; simp only [go_sem, Nat.reduceAdd]; apply z; refine zby x37.1 (fun c39 => ?_) (fun c39 => ?_)
   ·replace hy22 := zaE c39 hy22; refine zai ?_; obtain ⟨x40, h41, hy22⟩ := bind_some hy22; refine zao fun _ z => ?_; simp only [go_sem, seval, pz2 hpP0, c39, e26]; refine SC.by_ (zde x37.2 (IntKind.i64.wrap (a1 + (1 : Int))) _ h41 _ _ _ P0 (by simp only [go_sem, ↓reduceIte, e26, hg2, hg4])) ?_; simp only [go_sem, seval, pz2 hpP0, e26]; apply z; refine zan fun _ z => ?_; simp only [go_sem, seval, pz2 hpP0, e26]; apply z; refine zar ?_
    try simp only [zax, zaL]
    obtain rfl := zah hy22; simp only [Sum.elim_inr] at h; obtain rfl := zah h; refine ⟨by simp, ?_⟩; simp only [go_sem, seval, zam, za4, zaq hpP0, e26]
   ·replace hy22 := zaF c39 hy22; refine zaw ?_
    try simp only [zac, zap]
    refine zao fun _ z => ?_; simp only [go_sem, seval, c39, e26]; apply z; refine ⟨c23, Nat.lt_succ_self _, (IntKind.i64.wrap (v18 + (1 : Int))), x37.2, v20, v21, hy22, ?_⟩
    (simp only [go_sem, seval, zaq hpP0, pz2 hpP0, e26]) <;> (try and_intros) <;> rfl
  ·replace hy22 := zaF c27 hy22; refine zbP ?_
   try simp only [zaU, zaK, ↓reduceIte, zac]
   obtain rfl := zah hy22; simp only [Sum.elim_inl] at h; refine zai ?_; refine zai ?_; obtain ⟨y42, hy42, h⟩ := bind_some h; refine zbe 26 [] [] rfl (fun E' m' => E' 2 = .ptr (0 :: q) 0 /\ E' 3 = .ptr (1 :: q) 0 /\ E' 4 = .ptr (2 :: q) 0 /\ E' 6 = .ptr (10 :: q) 0 /\ E' 51 = .lit (.bool y42) /\ m'.blk P0 = some ((zab.C v19)) /\ m'.blk (10 :: q) = some ([.lit (.int .i64 v20.zba), .lit (.int .i64 v20.At_), .lit (.string (bs v20.za0)), .lit (.int .u32 v20.Num_), .list .self (v20.zav.map zaa.C)]) /\ m'.blk (0 :: q) = some ([.ptr P0 0]) /\ m'.blk (1 :: q) = some ([.lit (.int .i64 a1)]) /\ m'.blk (2 :: q) = some ([.lit (.int .i64 v21.zba), .lit (.int .i64 v21.At_), .lit (.string (bs v21.za0)), .lit (.int .u32 v21.Num_), .list .self (v21.zav.map zaa.C)]) /\ m'.gl = m.gl /\ m.back q m' = (m.set P0 ((zab.C v19)))) ?_ ?_
   ·rcases zbb (v19.e_ == (0 : Int)) with c43 | c43
    ·replace hy42 := zaE c43 hy42; obtain ⟨x44, h45, hy42⟩ := bind_some hy42; refine zao fun _ z => ?_; simp only [go_sem, seval, c27, c43, e26]; refine SC.by_ (zbA v19 _ h45 _ _ _ P0 (by simp only [go_sem, e26])) ?_; simp only [go_sem, seval]; apply z; obtain rfl := zah hy42; refine ⟨by decide, ?_⟩
     (simp only [go_sem, seval, e26]) <;> (try and_intros) <;> rfl
    ·replace hy42 := zaF c43 hy42; refine zao fun _ z => ?_; simp only [go_sem, seval, c27, c43, e26]; apply z; obtain rfl := zah hy42; refine ⟨by decide, ?_⟩
     (simp only [go_sem, seval, e26]) <;> (try and_intros) <;> rfl
   ·intro E46 m47 e48 _; simp only [zac]; refine zcg y42 (by simp only [go_sem, e48]) (fun c49 => ?_) (fun c49 => ?_)
    ·replace h := zaE c49 h; refine zai ?_; obtain ⟨x50, h51, h⟩ := bind_some h; refine zao fun _ z => ?_; simp only [go_sem, seval, e48]; refine SC.by_ (zeK v19 _ h51 _ _ _ P0 (by simp only [go_sem, e48])) ?_; simp only [go_sem, seval, pz2 hpP0, e48]; apply z; refine zan fun _ z => ?_; simp only [go_sem, seval, pz2 hpP0, e48]; apply z; refine zar ?_
     try simp only [zax]
     obtain rfl := zah h; refine ⟨by simp, ?_⟩; simp only [go_sem, seval, zam, zaq hpP0, e48]
    ·replace h := zaF c49 h; refine zaw ?_
     try simp only [zac]
     refine zai ?_; obtain ⟨x52, h53, h⟩ := bind_some h; refine zao fun _ z => ?_; simp only [go_sem, seval, e48]; refine SC.by_ (zbK n v19 _ h53 _ _ _ P0 (by simp only [go_sem, e48, hg2])) ?_; simp only [go_sem, seval, pz2 hpP0, e48]; apply z; refine zai ?_; obtain ⟨y54, hy54, h⟩ := bind_some h; refine zbe 47 [] [((10 :: q), 4)] rfl (fun E' m' => E' 4 = .ptr (2 :: q) 0 /\ E' 6 = .ptr (10 :: q) 0 /\ m'.blk P0 = some ((zab.C y54.1)) /\ m'.blk (10 :: q) = some ((zaa.C y54.2)) /\ m'.blk (2 :: q) = some ([.lit (.int .i64 v21.zba), .lit (.int .i64 v21.At_), .lit (.string (bs v21.za0)), .lit (.int .u32 v21.Num_), .list .self (v21.zav.map zaa.C)]) /\ m'.gl = m.gl /\ m.back q m' = (m.set P0 ((zab.C y54.1)))) ?_ ?_
     ·refine zaH ?_; refine zai ?_; obtain ⟨x55, h56, hy54⟩ := bind_some hy54; refine zao fun _ z => ?_; simp only [go_sem, seval, pz2 hpP0, e48]; refine SC.by_ (zc1 n x52.2 ([40] : Str) _ h56 _ _ _ P0 (by simp only [go_sem, ↓reduceIte, pz2 hpP0, e48, hg2])) ?_; simp only [go_sem, seval]; apply z; refine zby x55 (fun c57 => ?_) (fun c57 => ?_)
      ·replace hy54 := zaE c57 hy54; obtain ⟨x58, h59, hy54⟩ := bind_some hy54; refine zcW fun _ z => ?_; simp only [go_sem, seval, pz2 hpP0, c57, e48]; refine SC.by_ (zeJ x52.2 a1 _ h59 _ _ _ P0 (0 :: q) (1 :: q) (by simp only [go_sem, seval, pz2 hpP0, e48, hg2, hg4])) ?_; simp only [go_sem, seval, pz2 hpP0, e48]; apply z; simp only [zac, zap]; obtain rfl := zah hy54; refine ⟨by decide, ?_⟩
       (simp only [go_sem, seval, zam, zaq hpP0, pz2 hpP0, e48]) <;> (try and_intros) <;> rfl
      ·replace hy54 := zaF c57 hy54; refine zai ?_; obtain ⟨x60, h61, hy54⟩ := bind_some hy54; refine zao fun _ z => ?_; simp only [go_sem, seval, pz2 hpP0, c57, e48]; refine SC.by_ (zaz n x52.2 ([91] : Str) _ h61 _ _ _ P0 (by simp only [go_sem, ↓reduceIte, pz2 hpP0, e48, hg2])) ?_; simp only [go_sem, seval]; apply z; refine zby x60.1 (fun c62 => ?_) (fun c62 => ?_)
       ·replace hy54 := zaE c62 hy54; refine zai ?_; obtain ⟨x63, h64, hy54⟩ := bind_some hy54; refine zao fun _ z => ?_; simp only [go_sem, seval, pz2 hpP0, c62, e48]; refine SC.by_ (zcU x60.2 (IntKind.i64.wrap (a1 + (1 : Int))) _ h64 _ _ _ P0 (by simp only [go_sem, ↓reduceIte, e48, hg2, hg4])) ?_; simp only [go_sem, seval, pz2 hpP0, e48]; apply z; obtain ⟨x65, h66, hy54⟩ := bind_some hy54; refine zcW fun _ z => ?_; simp only [go_sem, seval, pz2 hpP0, e48]; refine SC.by_ (zau n x63.2 ([93] : Str) _ h66 _ _ _ P0 (by simp only [go_sem, ↓reduceIte, pz2 hpP0, e48, hg2])) ?_; simp only [go_sem, Nat.reduceAdd]; apply z; simp only [zac, zap]; obtain rfl := zah hy54; refine ⟨by decide, ?_⟩
        (simp only [go_sem, seval, zam, za4, zaq hpP0, pz2 hpP0, e48]) <;> (try and_intros) <;> rfl
       ·replace hy54 := zaF c62 hy54; refine zaw ?_
        try simp only [zac, zap]
        obtain rfl := zah hy54; refine ⟨by decide, ?_⟩
        (simp only [go_sem, seval, zam, zaq hpP0, pz2 hpP0, c62, e48]) <;> (try and_intros) <;> rfl
     ·intro E67 m68 e69 _; simp only [zac]; refine zan fun _ z => ?_; simp only [go_sem, seval, e69]; apply z; refine zar ?_; obtain rfl := zah h; refine ⟨by simp, ?_⟩; simp only [go_sem, seval, zam, e69]
theorem zfv {zbj : zab -> Int -> Option (zaa × zab)} (zcU : zcM zbj) (n : Nat) : zdl (zdk zbj n) := by
 rintro a0 a1 r h q m vs P0 P1 P2 ⟨hv, hmP0, hmP1, hmP2, hn0_1, hn0_2, hn1_0, hn1_2, hn2_0, hn2_1, hg2, hg4⟩; refine SC.weak ?_; rw [hv]; refine SC.apart hmP0 fun hpP0 => ?_; refine SC.apart hmP1 fun hpP1 => ?_; refine SC.apart hmP2 fun hpP2 => ?_; have hmsP0 := za5 hmP0
 try simp only [go_sem] at hmP0 hmsP0
 skip
 try simp only [go_sem, seval, Int.reduceToNat, UInt8.reduceToNat] at hmP2
 refine SC_w Tryd.func103 rfl (fun xs w => Tryd.call103 xs w) Tryd.ntmps103 (by kernel_rfl) Tryd.results103 ?_; unfold zdk at h; refine zan fun _ z => ?_; simp only [go_sem]; apply z; refine zai ?_; obtain ⟨x2, h3, h⟩ := bind_some h; refine zao fun _ z => ?_; simp only [go_sem, seval, pz1 hpP1, pz1 hpP2, hmP1, hmP2]; refine SC.by_ (zcU a0 (IntKind.i64.wrap (a1 + (1 : Int))) _ h3 _ _ _ P0 (by simp only [go_sem, ↓reduceIte, pz1 hpP0, hmP0, hg2, hg4])) ?_; simp only [go_sem, seval, pz1 hpP0]; apply z; refine zar ?_; obtain rfl := zah h; refine ⟨by simp, ?_⟩; simp only [go_sem, seval, zam, zaj, zaq hpP0]
theorem zc0 : ∀ n, zct (zfn n) /\ zcM (zbq n) /\ zdh (zia n) /\ zcT (zhm n) /\ zdl (zgC n)
 | 0 => ⟨fun _ _ _ h => zb3 h, fun _ _ _ h => zb3 h, fun _ _ _ _ h => zb3 h, fun _ _ _ h => zb3 h, fun _ _ _ h => zb3 h⟩
 | n + 1 =>
   have ih := zc0 n
   ⟨zeE ih.2.2.2.2 n, zgE ih.2.2.1 n, zgi ih.2.2.2.1 ih.2.2.1 n, zfS ih.2.1 ih.2.2.2.1 ih.1 n, zfv ih.2.1 n⟩
theorem zbr (n : Nat) : zcM (zbq n) := (zc0 n).2.1
def zhn (f : zab -> zaa -> Int -> Option (zaa × zab)) : Prop := ∀ a0 a1 a2 r, f a0 a1 a2 = some r -> ∀ (q : Pa) (m : M) (vs : List V) (P0 : Pa), vs.map V.weak1 = [.ptr P0 0, .agg ((zaa.C a1)), .lit (.int .i64 a2)] /\ m.blk P0 = some ((zab.C a0)) /\ m.gl 2 = .eptr [(cA cS zaI)] 0 0 /\ m.gl 4 = .eptr [(cA (cA cS) za6)] 0 0 -> SC Tryd.prog 69 vs q m (fun v m' => v = .agg ((zaa.C r.1)) /\ m' = (m.set P0 ((zab.C r.2))))
theorem zeU (n : Nat) : zhn (zdy n) := by
 rintro a0 a1 a2 r h q m vs P0 ⟨hv, hmP0, hg2, hg4⟩; refine SC.weak ?_; rw [hv]; refine SC.apart hmP0 fun hpP0 => ?_; have hmsP0 := za5 hmP0
 try simp only [go_sem] at hmP0 hmsP0
 refine SC_w Tryd.func69 rfl (fun xs w => Tryd.call69 xs w) Tryd.ntmps69 (by kernel_rfl) Tryd.results69 ?_; unfold zdy at h; refine zan fun _ z => ?_; simp only [go_sem, Nat.reduceAdd]; apply z; refine zai ?_; obtain ⟨x3, h4, h⟩ := bind_some h; refine zao fun _ z => ?_; simp only [go_sem, seval]; refine SC.by_ (zbK n a0 _ h4 _ _ _ P0 (by simp only [go_sem, ↓reduceIte, pz1 hpP0, hmP0, hg2])) ?_; simp only [go_sem, seval, pz1 hpP0]; apply z; refine zai ?_; obtain ⟨x5, h6, h⟩ := bind_some h; refine zao fun _ z => ?_; simp only [go_sem, seval]; refine SC.by_ (zau n x3.2 ([61] : Str) _ h6 _ _ _ P0 (by simp only [go_sem, ↓reduceIte, pz1 hpP0, hg2])) ?_; simp only [go_sem, Nat.reduceAdd]; apply z; refine zai ?_; obtain ⟨x7, h8, h⟩ := bind_some h; refine zao fun _ z => ?_; simp only [go_sem, seval]; refine SC.by_ (zbr n x5 a2 _ h8 _ _ _ P0 (by simp only [go_sem, ↓reduceIte, hg2, hg4])) ?_; simp only [go_sem, seval, pz1 hpP0]; apply z; refine zai ?_; obtain ⟨x9, h10, h⟩ := bind_some h; refine zao fun _ z => ?_; simp only [go_sem, seval]; refine SC.by_ (zau n x7.2 ([59] : Str) _ h10 _ _ _ P0 (by simp only [go_sem, ↓reduceIte, pz1 hpP0, hg2])) ?_; simp only [go_sem, Nat.reduceAdd]; apply z; refine zan fun _ z => ?_; simp only [go_sem, seval, pz1 hpP0]; apply z; refine zar ?_; obtain rfl := zah h; refine ⟨by simp, ?_⟩; simp only [go_sem, seval, zam, za4, zaj, zaq hpP0]
def zgB (f : zab -> Int -> Option (zaa × zab)) : Prop := ∀ a0 a1 r, f a0 a1 = some r -> ∀ (q : Pa) (m : M) (vs : List V) (P0 : Pa) (P1 : Pa) (P2 : Pa), vs.map V.weak1 = [.ptr P1 0, .ptr P2 0] /\ m.blk P0 = some ((zab.C a0)) /\ m.blk P1 = some ([.ptr P0 0]) /\ m.blk P2 = some ([.lit (.int .i64 a1)]) /\ (P0 = P1) = False /\ (P0 = P2) = False /\ (P1 = P0) = False /\ (P1 = P2) = False /\ (P2 = P0) = False /\ (P2 = P1) = False /\ m.gl 2 = .eptr [(cA cS zaI)] 0 0 /\ m.gl 4 = .eptr [(cA (cA cS) za6)] 0 0 -> SC Tryd.prog 89 vs q m (fun v m' => v = .agg ((zaa.C r.1)) /\ m' = (m.set P0 ((zab.C r.2))))
theorem zgh (n : Nat) : zgB (zd2 n) := by
 rintro a0 a1 r h q m vs P0 P1 P2 ⟨hv, hmP0, hmP1, hmP2, hn0_1, hn0_2, hn1_0, hn1_2, hn2_0, hn2_1, hg2, hg4⟩; refine SC.weak ?_; rw [hv]; refine SC.apart hmP0 fun hpP0 => ?_; refine SC.apart hmP1 fun hpP1 => ?_; refine SC.apart hmP2 fun hpP2 => ?_; have hmsP0 := za5 hmP0
 try simp only [go_sem] at hmP0 hmsP0
 skip
 try simp only [go_sem, seval, Int.reduceToNat, UInt8.reduceToNat] at hmP2
 refine SC_w Tryd.func89 rfl (fun xs w => Tryd.call89 xs w) Tryd.ntmps89 (by kernel_rfl) Tryd.results89 ?_; unfold zd2 at h; refine zan fun _ z => ?_; simp only [go_sem]; apply z; refine zai ?_; obtain ⟨x2, h3, h⟩ := bind_some h; refine zao fun _ z => ?_; simp only [go_sem, seval, pz1 hpP1, pz1 hpP2, hmP1, hmP2]; refine SC.by_ (zbr n a0 (IntKind.i64.wrap (a1 + (2 : Int))) _ h3 _ _ _ P0 (by simp only [go_sem, ↓reduceIte, pz1 hpP0, hmP0, hg2, hg4])) ?_; simp only [go_sem, seval, pz1 hpP0]; apply z; refine zar ?_; obtain rfl := zah h; refine ⟨by simp, ?_⟩; simp only [go_sem, seval, zam, zaj, zaq hpP0]
def zfm (f : zab -> Int -> Option ((List zaa) × zab)) : Prop := ∀ a0 a1 r, f a0 a1 = some r -> ∀ (q : Pa) (m : M) (vs : List V) (P0 : Pa) (P1 : Pa) (P2 : Pa), vs.map V.weak1 = [.ptr P0 0, .fn (.func 89) [] [.ptr P1 0, .ptr P2 0]] /\ m.blk P0 = some ((zab.C a0)) /\ m.blk P1 = some ([.ptr P0 0]) /\ m.blk P2 = some ([.lit (.int .i64 a1)]) /\ (P0 = P1) = False /\ (P0 = P2) = False /\ (P1 = P0) = False /\ (P1 = P2) = False /\ (P2 = P0) = False /\ (P2 = P1) = False /\ m.gl 2 = .eptr [(cA cS zaI)] 0 0 /\ m.gl 4 = .eptr [(cA (cA cS) za6)] 0 0 -> SC Tryd.prog 37 vs q m (fun v m' => v = .list .none (r.1.map zaa.C) /\ m' = (m.set P0 ((zab.C r.2))))
theorem zfe (n : Nat) : zfm (zc8 n) := by
 rintro a0 a1 r h q m vs P0 P1 P2 ⟨hv, hmP0, hmP1, hmP2, hn0_1, hn0_2, hn1_0, hn1_2, hn2_0, hn2_1, hg2, hg4⟩; refine SC.weak ?_; rw [hv]; refine SC.apart hmP0 fun hpP0 => ?_; refine SC.apart hmP1 fun hpP1 => ?_; refine SC.apart hmP2 fun hpP2 => ?_; have hmsP0 := za5 hmP0
 try simp only [go_sem] at hmP0 hmsP0
 skip
 try simp only [go_sem, seval, Int.reduceToNat, UInt8.reduceToNat] at hmP2
 refine SC_w Tryd.func37 rfl (fun xs w => Tryd.call37 xs w) Tryd.ntmps37 (by kernel_rfl) Tryd.results37 ?_; unfold zc8 at h; refine zan fun _ z => ?_; simp only [go_sem]; apply z; refine zan fun _ z => ?_; simp only [go_sem, Nat.reduceAdd]; apply z; refine zai ?_; obtain ⟨x1, h2, h⟩ := bind_some h; refine zao fun _ z => ?_; simp only [go_sem, seval]; refine SC.by_ (zau n a0 ([40] : Str) _ h2 _ _ _ P0 (by simp only [go_sem, hmP0, hg2])) ?_; simp only [go_sem, Nat.reduceAdd]; apply z; refine zai ?_; refine zai ?_; obtain ⟨x3, h4, h⟩ := bind_some h; refine zao fun _ z => ?_; simp only [go_sem, seval]; refine SC.by_ (zaz n x1 ([41] : Str) _ h4 _ _ _ P0 (by simp only [go_sem, ↓reduceIte, hg2])) ?_; simp only [go_sem, Nat.reduceAdd]; apply z; refine zby x3.1 (fun c5 => ?_) (fun c5 => ?_)
 ·replace h := zaE c5 h; refine zan fun _ z => ?_; simp only [go_sem, Nat.reduceAdd, c5]; apply z; refine zar ?_
  try simp only [zax]
  obtain rfl := zah h; refine ⟨by simp, ?_⟩; simp only [go_sem, ↓reduceIte, zaj, zaq hpP0]
 ·replace h := zaF c5 h; refine zaw ?_
  try simp only [zac]
  refine zai ?_; obtain ⟨y6, hy6, h⟩ := bind_some h; refine zbe 8 [] [] rfl (fun E' m' => ∃ (oy6_5 : Pa) (jy6_5 : Nat), E' 0 = .ptr P0 0 /\ E' 5 = .list (.st (.anon oy6_5 jy6_5)) (y6.1.map zaa.C) /\ m'.tok oy6_5 jy6_5 = true /\ q <:+ oy6_5 /\ m'.blk P0 = some ((zab.C y6.2)) /\ m'.blk P1 = some ([.ptr P0 0]) /\ m'.blk P2 = some ([.lit (.int .i64 a1)]) /\ m'.gl = m.gl /\ m.back q m' = (m.set P0 ((zab.C y6.2)))) ?_ ?_
  ·refine zaH ?_; obtain ⟨y10, hy10, hy6⟩ := bind_some hy6; refine zh7 5 ([].map zaa.C) rfl (by simp only [go_sem, seval, c5]) ?_; refine zbm [] [] rfl (fun c E' m' => ∃ v8 v9 o_v8 j_v8, zbM n a1 c v8 v9 = some y10 /\ E' 0 = .ptr P0 0 /\ E' 1 = .fn (.func 89) [] [.ptr P1 0, .ptr P2 0] /\ E' 5 = .list (.st (.anon o_v8 j_v8)) (v8.map zaa.C) /\ m'.tok o_v8 j_v8 = true /\ q <:+ o_v8 /\ m'.blk P0 = some ((zab.C v9)) /\ m'.blk P1 = some ([.ptr P0 0]) /\ m'.blk P2 = some ([.lit (.int .i64 a1)]) /\ m'.gl = m.gl /\ m.back q m' = (m.set P0 ((zab.C v9)))) n ⟨[], x3.2, (6 :: q), 0, hy10, ?_⟩ ?_
   ·simp only [go_sem, seval, zaM, zaj, zaq hpP0, hn1_0, hn2_0, c5, hmP1, hmP2]
   rintro i7 c11 E12 m13 ⟨v8, v9, o_v8, j_v8, hy10, e14⟩ _
   rcases c11 with _ | c11
   ·exact absurd hy10 (by rw [zbM]; exact fun e => nomatch e)
   rw [zbM] at hy10; refine zai ?_; refine zan fun _ z => ?_; simp only [go_sem, seval, e14]; apply z; refine zby (v9.e_ == (0 : Int)) (fun c15 => ?_) (fun c15 => ?_)
   ·replace hy10 := zaE c15 hy10; refine zaw ?_
    try simp only [zac]
    refine zaH ?_; refine zai ?_; obtain ⟨x16, h17, hy10⟩ := bind_some hy10; obtain ⟨f18, hy10⟩ := zaO hy10; have f19 : v8.length + 1 <= 1073741824 := by first | omega | (simp only [List.length_append, List.length_cons, List.length_nil] at f18 ⊢; omega)
    have f20 : v8.length <= 1073741823 := by first | omega | (simp only [List.length_append, List.length_cons, List.length_nil] at f18 ⊢; omega)
    refine zao fun _ z => ?_; simp only [go_sem, seval, c15, e14]; refine SC.by_ (zgh n v9 a1 _ h17 _ _ _ P0 P1 P2 (by simp only [go_sem, hn0_1, hn0_2, hn1_0, hn1_2, hn2_0, hn2_1, e14, hg2, hg4])) ?_; simp only [go_sem, seval, f19, e14]; apply z; refine zai ?_; obtain ⟨x21, h22, hy10⟩ := bind_some hy10; refine zao fun _ z => ?_; simp only [go_sem, seval, e14]; refine SC.by_ (zaz n x16.2 ([44] : Str) _ h22 _ _ _ P0 (by simp only [go_sem, ↓reduceIte, e14, hg2])) ?_; simp only [go_sem, seval]; apply z; refine zby (!x21.1) (fun c23 => ?_) (fun c23 => ?_)
    ·replace hy10 := zaE c23 hy10; refine zbP ?_
     try simp only [seval, zaU, zaK, zac]
     obtain rfl := zah hy10; obtain rfl := zah hy6; refine ⟨by decide, (9 :: i7 :: 7 :: q), 0, ?_⟩; simp only [go_sem, seval, zaM, zaq hpP0, hn1_0, hn2_0, c23, e14]
    ·replace hy10 := zaF c23 hy10; refine zaw ?_
     try simp only [zac, zap]
     refine ⟨c11, Nat.lt_succ_self _, (v8 ++ [x16.1]), x21.2, (9 :: i7 :: 7 :: q), 0, hy10, ?_⟩; simp only [go_sem, seval, zaM, zaq hpP0, hn1_0, hn2_0, c23, e14]
   ·replace hy10 := zaF c15 hy10; refine zbP ?_
    try simp only [zaU, zaK, ↓reduceIte, zac]
    obtain rfl := zah hy10; obtain rfl := zah hy6; refine ⟨by decide, o_v8, j_v8, ?_⟩; simp only [go_sem, seval, c15, e14]
  ·rintro E24 m25 ⟨oy6_5, jy6_5, e26⟩ _; simp only [zac]; refine zai ?_; obtain ⟨x27, h28, h⟩ := bind_some h; refine zao fun _ z => ?_; simp only [go_sem, seval, e26]; refine SC.by_ (zau n y6.2 ([41] : Str) _ h28 _ _ _ P0 (by simp only [go_sem, e26, hg2])) ?_; simp only [go_sem, Nat.reduceAdd]; apply z; refine zan fun _ z => ?_; simp only [go_sem, seval, e26]; apply z; refine zar ?_; obtain rfl := zah h; refine ⟨by simp, ?_⟩; simp only [go_sem, ↓reduceIte, zaq hpP0, e26]
def zhk (f : zab -> zaa -> Int -> Option (zaa × zab)) : Prop := ∀ a0 a1 a2 r, f a0 a1 a2 = some r -> ∀ (q : Pa) (m : M) (vs : List V) (P0 : Pa), vs.map V.weak1 = [.ptr P0 0, .agg ((zaa.C a1)), .lit (.int .i64 a2)] /\ m.blk P0 = some ((zab.C a0)) /\ m.gl 2 = .eptr [(cA cS zaI)] 0 0 /\ m.gl 4 = .eptr [(cA (cA cS) za6)] 0 0 -> SC Tryd.prog 73 vs q m (fun v m' => v = .agg ((zaa.C r.1)) /\ m' = (m.set P0 ((zab.C r.2))))
theorem zgV (n : Nat) : zhk (zex n) := by
 rintro a0 a1 a2 r h q m vs P0 ⟨hv, hmP0, hg2, hg4⟩; refine SC.weak ?_; rw [hv]; refine SC.apart hmP0 fun hpP0 => ?_; have hmsP0 := za5 hmP0
 try simp only [go_sem] at hmP0 hmsP0
 refine SC_w Tryd.func73 rfl (fun xs w => Tryd.call73 xs w) Tryd.ntmps73 (by kernel_rfl) Tryd.results73 ?_; unfold zex at h; refine zan fun _ z => ?_; simp only [go_sem, seval]; apply z; refine zai ?_; obtain ⟨x5, h6, h⟩ := bind_some h; refine zao fun _ z => ?_; simp only [go_sem, seval]; refine SC.by_ (zbK n a0 _ h6 _ _ _ P0 (by simp only [go_sem, ↓reduceIte, pz1 hpP0, hmP0, hg2])) ?_; simp only [go_sem, seval, pz1 hpP0]; apply z; refine zai ?_; obtain ⟨y7, hy7, h⟩ := bind_some h; refine zbe 37 [] [((1 :: q), 4)] rfl (fun E' m' => E' 3 = .ptr (0 :: q) 0 /\ E' 4 = .ptr (1 :: q) 0 /\ E' 6 = .ptr (3 :: q) 0 /\ m'.blk P0 = some ((zab.C y7.1)) /\ m'.blk (0 :: q) = some ([.ptr P0 0]) /\ m'.blk (1 :: q) = some ((zaa.C y7.2)) /\ m'.blk (3 :: q) = some ([.lit (.int .i64 (0 : Int)), .lit (.int .i64 (0 : Int)), .lit (.string (bs [])), .lit (.int .u32 (0 : Int)), .list .self ([].map zaa.C)]) /\ m'.gl = m.gl /\ m.back q m' = (m.set P0 ((zab.C y7.1)))) ?_ ?_
 ·refine zaH ?_; refine zai ?_; obtain ⟨x8, h9, hy7⟩ := bind_some hy7; refine zao fun _ z => ?_; simp only [go_sem, seval, pz1 hpP0]; refine SC.by_ (zc1 n x5.2 ([40] : Str) _ h9 _ _ _ P0 (by simp only [go_sem, ↓reduceIte, pz1 hpP0, hg2])) ?_; simp only [go_sem, seval]; apply z; refine zby x8 (fun c10 => ?_) (fun c10 => ?_)
  ·replace hy7 := zaE c10 hy7; obtain ⟨x11, h12, hy7⟩ := bind_some hy7; refine zcW fun _ z => ?_; simp only [go_sem, seval, pz1 hpP0, c10]; refine SC.by_ (zfe n x5.2 a2 _ h12 _ _ _ P0 (0 :: q) (2 :: q) (by simp only [go_sem, seval, pz1 hpP0, hg2, hg4])) ?_; simp only [go_sem, seval, pz1 hpP0]; apply z; simp only [zac, zap]; obtain rfl := zah hy7; refine ⟨by decide, ?_⟩; simp only [go_sem, seval, zam, zaj, zaq hpP0, pz1 hpP0]
  ·replace hy7 := zaF c10 hy7; refine zai ?_; obtain ⟨x13, h14, hy7⟩ := bind_some hy7; refine zao fun _ z => ?_; simp only [go_sem, seval, pz1 hpP0, c10]; refine SC.by_ (zaz n x5.2 ([91] : Str) _ h14 _ _ _ P0 (by simp only [go_sem, ↓reduceIte, pz1 hpP0, hg2])) ?_; simp only [go_sem, seval]; apply z; refine zby x13.1 (fun c15 => ?_) (fun c15 => ?_)
   ·replace hy7 := zaE c15 hy7; refine zai ?_; obtain ⟨x16, h17, hy7⟩ := bind_some hy7; refine zao fun _ z => ?_; simp only [go_sem, seval, pz1 hpP0, c15]; refine SC.by_ (zbr n x13.2 (IntKind.i64.wrap (a2 + (2 : Int))) _ h17 _ _ _ P0 (by simp only [go_sem, ↓reduceIte, hg2, hg4])) ?_; simp only [go_sem, seval, pz1 hpP0]; apply z; refine zai ?_; obtain ⟨x18, h19, hy7⟩ := bind_some hy7; refine zao fun _ z => ?_; simp only [go_sem, seval, pz1 hpP0]; refine SC.by_ (zau n x16.2 ([93] : Str) _ h19 _ _ _ P0 (by simp only [go_sem, ↓reduceIte, pz1 hpP0, hg2])) ?_; simp only [go_sem, Nat.reduceAdd]; apply z; refine zai ?_; obtain ⟨x20, h21, hy7⟩ := bind_some hy7; refine zao fun _ z => ?_; simp only [go_sem, seval, pz1 hpP0]; refine SC.by_ (zau n x18 ([61] : Str) _ h21 _ _ _ P0 (by simp only [go_sem, ↓reduceIte, hg2])) ?_; simp only [go_sem, Nat.reduceAdd]; apply z; obtain ⟨x22, h23, hy7⟩ := bind_some hy7; obtain ⟨f24, hy7⟩ := zaO hy7; refine zaP (tbl := [0, 1, 0, 0, 8, 28, 60, 127, 255, 511]) (ord := [(2, 0), (3, 0), (4, 0), (5, 0), (0, 0), (1, 1), (6, 0), (7, 0), (8, 0), (9, 0)]) 37 rfl (by kernel_rfl) (by kernel_rfl) fun _ z => ?_; simp only [go_sem, seval, pz1 hpP0]; refine zaJ (zbr n x20 (IntKind.i64.wrap (a2 + (1 : Int))) _ h23 _ _ _ P0 (by simp only [go_sem, ↓reduceIte, hg2, hg4])) rfl ?_; simp only [go_sem, seval, pz1 hpP0]; apply z; simp only [zac, zap]; obtain rfl := zah hy7; refine ⟨by decide, ?_⟩; simp only [go_sem, seval, zam, za4, zaM, zaj, zaq hpP0, pz1 hpP0]
   ·replace hy7 := zaF c15 hy7; refine zai ?_; obtain ⟨x25, h26, hy7⟩ := bind_some hy7; refine zao fun _ z => ?_; simp only [go_sem, seval, pz1 hpP0, c15]; refine SC.by_ (zau n x13.2 ([61] : Str) _ h26 _ _ _ P0 (by simp only [go_sem, ↓reduceIte, hg2])) ?_; simp only [go_sem, Nat.reduceAdd]; apply z; obtain ⟨x27, h28, hy7⟩ := bind_some hy7; refine zcW fun _ z => ?_; simp only [go_sem, seval, pz1 hpP0]; refine SC.by_ (zbr n x25 (IntKind.i64.wrap (a2 + (1 : Int))) _ h28 _ _ _ P0 (by simp only [go_sem, ↓reduceIte, hg2, hg4])) ?_; simp only [go_sem, seval, pz1 hpP0]; apply z; simp only [zac, zap]; obtain rfl := zah hy7; refine ⟨by decide, ?_⟩; simp only [go_sem, seval, zam, za4, zaj, zaq hpP0, pz1 hpP0]
 ·intro E29 m30 e31 _; simp only [zac]; refine zai ?_; obtain ⟨x32, h33, h⟩ := bind_some h; refine zao fun _ z => ?_; simp only [go_sem, seval, e31]; refine SC.by_ (zau n y7.1 ([59] : Str) _ h33 _ _ _ P0 (by simp only [go_sem, e31, hg2])) ?_; simp only [go_sem, Nat.reduceAdd]; apply z; refine zan fun _ z => ?_; simp only [go_sem, seval, pz1 hpP0, e31]; apply z; refine zar ?_; obtain rfl := zah h; refine ⟨by simp, ?_⟩; simp only [go_sem, seval, zam, zaq hpP0, e31]
def zcz (f : zab -> Int -> Option (zaa × zab)) : Prop := ∀ a0 a1 r, f a0 a1 = some r -> ∀ (q : Pa) (m : M) (vs : List V) (P0 : Pa), vs.map V.weak1 = [.ptr P0 0, .lit (.int .i64 a1)] /\ m.blk P0 = some ((zab.C a0)) /\ m.gl 2 = .eptr [(cA cS zaI)] 0 0 /\ m.gl 4 = .eptr [(cA (cA cS) za6)] 0 0 -> SC Tryd.prog 39 vs q m (fun v m' => v = .agg ((zaa.C r.1)) /\ m' = (m.set P0 ((zab.C r.2))))
def zdj (f : zab -> Int -> Option (zaa × zab)) : Prop := ∀ a0 a1 r, f a0 a1 = some r -> ∀ (q : Pa) (m : M) (vs : List V) (P0 : Pa), vs.map V.weak1 = [.ptr P0 0, .lit (.int .i64 a1)] /\ m.blk P0 = some ((zab.C a0)) /\ m.gl 2 = .eptr [(cA cS zaI)] 0 0 /\ m.gl 4 = .eptr [(cA (cA cS) za6)] 0 0 -> SC Tryd.prog 55 vs q m (fun v m' => v = .agg ((zaa.C r.1)) /\ m' = (m.set P0 ((zab.C r.2))))
def zdR (f : zab -> zaa -> Int -> Option (zaa × zab)) : Prop := ∀ a0 a1 a2 r, f a0 a1 a2 = some r -> ∀ (q : Pa) (m : M) (vs : List V) (P0 : Pa), vs.map V.weak1 = [.ptr P0 0, .agg ((zaa.C a1)), .lit (.int .i64 a2)] /\ m.blk P0 = some ((zab.C a0)) /\ m.gl 2 = .eptr [(cA cS zaI)] 0 0 /\ m.gl 4 = .eptr [(cA (cA cS) za6)] 0 0 -> SC Tryd.prog 71 vs q m (fun v m' => v = .agg ((zaa.C r.1)) /\ m' = (m.set P0 ((zab.C r.2))))
def zei (f : zab -> zaa -> Int -> Option (zaa × zab)) : Prop := ∀ a0 a1 a2 r, f a0 a1 a2 = some r -> ∀ (q : Pa) (m : M) (vs : List V) (P0 : Pa), vs.map V.weak1 = [.ptr P0 0, .agg ((zaa.C a1)), .lit (.int .i64 a2)] /\ m.blk P0 = some ((zab.C a0)) /\ m.gl 2 = .eptr [(cA cS zaI)] 0 0 /\ m.gl 4 = .eptr [(cA (cA cS) za6)] 0 0 -> SC Tryd.prog 72 vs q m (fun v m' => v = .agg ((zaa.C r.1)) /\ m' = (m.set P0 ((zab.C r.2))))
theorem zgk {zbf : zab -> Int -> Option (zaa × zab)} (zfw : zdj zbf) (n : Nat) : zcz (zd4 zbf n) := by
 rintro a0 a1 r h q m vs P0 ⟨hv, hmP0, hg2, hg4⟩; refine SC.weak ?_; rw [hv]; refine SC.apart hmP0 fun hpP0 => ?_; have hmsP0 := za5 hmP0
 try simp only [go_sem] at hmP0 hmsP0
 refine SC_w Tryd.func39 rfl (fun xs w => Tryd.call39 xs w) Tryd.ntmps39 (by kernel_rfl) Tryd.results39 ?_; unfold zd4 at h; refine zan fun _ z => ?_; simp only [go_sem]; apply z; refine zai ?_; obtain ⟨x2, h3, h⟩ := bind_some h; refine zao fun _ z => ?_; simp only [go_sem, seval]; refine SC.by_ (ze8 a0 a1 _ h3 _ _ _ P0 (by simp only [go_sem, ↓reduceIte, pz2 hpP0, hmP0])) ?_; simp only [go_sem, Nat.reduceAdd]; apply z; refine zai ?_; obtain ⟨x4, h6, h⟩ := bind_some h; refine zao fun _ z => ?_; simp only [go_sem, seval]; refine SC.mono (zbJ x2 (4 : Int) _ h6 _ _ _ P0 (by simp only [go_sem, ↓reduceIte])) ?_; rintro _ _ ⟨o_x4, j_x4, s_x4, rfl, rfl⟩; replace s_x4 : q <:+ o_x4 := List.IsSuffix.trans (by simp only [go_sem]) s_x4; simp only [go_sem, seval]; apply z; refine zai ?_; obtain ⟨x7, h8, h⟩ := bind_some h; refine zao fun _ z => ?_; simp only [go_sem, seval]; refine SC.by_ (zau n x4.2 ([123] : Str) _ h8 _ _ _ P0 (by simp only [go_sem, ↓reduceIte, pz2 hpP0, hg2])) ?_; simp only [go_sem, Nat.reduceAdd]; apply z; refine zai ?_; refine zaH ?_; obtain ⟨y12, hy12, h⟩ := bind_some h; refine zbm [] [] rfl (fun c E' m' => ∃ v10 v11, zcl zbf n a1 c v10 v11 = some y12 /\ E' 0 = .ptr P0 0 /\ E' 1 = .lit (.int .i64 a1) /\ E' 4 = .ptr (0 :: q) 0 /\ E' 5 = .ptr (6 :: q) 0 /\ m'.blk P0 = some ((zab.C v10)) /\ m'.blk (0 :: q) = some ([.lit (.int .i64 (0 : Int)), .lit (.int .i64 (0 : Int)), .lit (.string (bs [])), .lit (.int .u32 (0 : Int)), .list .self ([].map zaa.C)]) /\ m'.blk (6 :: q) = some ([.lit (.int .i64 v11.zba), .lit (.int .i64 v11.At_), .lit (.string (bs v11.za0)), .lit (.int .u32 v11.Num_), .list .self (v11.zav.map zaa.C)]) /\ m'.gl = m.gl /\ m.back q m' = (m.set P0 ((zab.C v10)))) n ⟨x7, x4.1, hy12, ?_⟩ ?_
 ·simp only [go_sem, seval, zam, za4, zaM, zaj, zaq hpP0, pz2 hpP0, s_x4]
 rintro i9 c13 E14 m15 ⟨v10, v11, hy12, e16⟩ _
 rcases c13 with _ | c13
 ·exact absurd hy12 (by rw [zcl]; exact fun e => nomatch e)
 rw [zcl] at hy12; refine zai ?_; refine zai ?_; obtain ⟨y17, hy17, hy12⟩ := bind_some hy12; refine zbe 10 [] [] rfl (fun E' m' => E' 0 = .ptr P0 0 /\ E' 1 = .lit (.int .i64 a1) /\ E' 4 = .ptr (0 :: q) 0 /\ E' 5 = .ptr (6 :: q) 0 /\ E' 22 = .lit (.bool y17) /\ m'.blk P0 = some ((zab.C v10)) /\ m'.blk (0 :: q) = some ([.lit (.int .i64 (0 : Int)), .lit (.int .i64 (0 : Int)), .lit (.string (bs [])), .lit (.int .u32 (0 : Int)), .list .self ([].map zaa.C)]) /\ m'.blk (6 :: q) = some ([.lit (.int .i64 v11.zba), .lit (.int .i64 v11.At_), .lit (.string (bs v11.za0)), .lit (.int .u32 v11.Num_), .list .self (v11.zav.map zaa.C)]) /\ m'.gl = m.gl /\ m.back q m' = (m.set P0 ((zab.C v10)))) ?_ ?_
 ·rcases zbb (v10.e_ == (0 : Int)) with c18 | c18
  ·replace hy17 := zaE c18 hy17; obtain ⟨x19, h20, hy17⟩ := bind_some hy17; refine zao fun _ z => ?_; simp only [go_sem, seval, c18, e16]; refine SC.by_ (zc1 n v10 ([125] : Str) _ h20 _ _ _ P0 (by simp only [go_sem, e16, hg2])) ?_; simp only [go_sem, seval]; apply z; obtain rfl := zah hy17; refine ⟨by decide, ?_⟩; simp only [go_sem, seval, e16]
  ·replace hy17 := zaF c18 hy17; refine zao fun _ z => ?_; simp only [go_sem, seval, c18, e16]; apply z; obtain rfl := zah hy17; refine ⟨by decide, ?_⟩; simp only [go_sem, seval, e16]
 ·intro E21 m22 e23 _; simp only [zac]; refine zcg y17 (by simp only [go_sem, e23]) (fun c24 => ?_) (fun c24 => ?_)
  ·replace hy12 := zaE c24 hy12; refine zaw ?_
   try simp only [zac]
   refine zaH ?_; obtain ⟨x25, h26, hy12⟩ := bind_some hy12; obtain ⟨f27, hy12⟩ := zaO hy12; have f28 : v11.zav.length + 1 <= 1073741824 := by first | omega | (simp only [List.length_append, List.length_cons, List.length_nil] at f27 ⊢; omega)
   have f29 : v11.zav.length <= 1073741823 := by first | omega | (simp only [List.length_append, List.length_cons, List.length_nil] at f27 ⊢; omega)
   refine zaP (tbl := [0, 1, 0, 0, 12, 28, 63, 127, 255]) (ord := [(2, 0), (3, 0), (4, 0), (0, 0), (1, 1), (5, 0), (6, 0), (7, 0), (8, 0)]) 19 rfl (by kernel_rfl) (by kernel_rfl) fun _ z => ?_; simp only [go_sem, seval, e23]; refine zaJ (zfw v10 a1 _ h26 _ _ _ P0 (by simp only [go_sem, e23, hg2, hg4])) rfl ?_; simp only [go_sem, seval, pz2 hpP0, f28, e23]; apply z; simp only [zac, zap]; refine ⟨c13, Nat.lt_succ_self _, x25.2, ({ v11 with zav := (v11.zav ++ [x25.1]) } : zaa), hy12, ?_⟩; simp only [go_sem, seval, zam, za4, zaM, zaq hpP0, pz2 hpP0, e23]
  ·replace hy12 := zaF c24 hy12; refine zbP ?_
   try simp only [zaU, zaK, ↓reduceIte, zac]
   obtain rfl := zah hy12; refine zai ?_; obtain ⟨x30, h31, h⟩ := bind_some h; refine zao fun _ z => ?_; simp only [go_sem, seval, e23]; refine SC.by_ (zau n v10 ([125] : Str) _ h31 _ _ _ P0 (by simp only [go_sem, e23, hg2])) ?_; simp only [go_sem, Nat.reduceAdd]; apply z; refine zan fun _ z => ?_; simp only [go_sem, seval, pz2 hpP0, e23]; apply z; refine zar ?_; obtain rfl := zah h; refine ⟨by simp, ?_⟩; simp only [go_sem, seval, zam, zaq hpP0, e23]
theorem zfu {zcG : zab -> zaa -> Int -> Option (zaa × zab)} (zf9 : zdR zcG) {zc7 : zab -> zaa -> Int -> Option (zaa × zab)} (zgR : zei zc7) (n : Nat) : zdj (zdi zcG zc7 n) := by
 rintro a0 a1 r h q m vs P0 ⟨hv, hmP0, hg2, hg4⟩; refine SC.weak ?_; rw [hv]; refine SC.apart hmP0 fun hpP0 => ?_; have hmsP0 := za5 hmP0
 try simp only [go_sem] at hmP0 hmsP0
 refine SC_w Tryd.func55 rfl (fun xs w => Tryd.call55 xs w) Tryd.ntmps55 (by kernel_rfl) Tryd.results55 ?_; unfold zdi at h; refine zan fun _ z => ?_; simp only [go_sem]; apply z; refine zai ?_; obtain ⟨x2, h4, h⟩ := bind_some h; refine zao fun _ z => ?_; simp only [go_sem, seval]; refine SC.mono (zbJ a0 (8 : Int) _ h4 _ _ _ P0 (by simp only [go_sem, ↓reduceIte, pz1 hpP0, hmP0])) ?_; rintro _ _ ⟨o_x2, j_x2, s_x2, rfl, rfl⟩; replace s_x2 : q <:+ o_x2 := List.IsSuffix.trans (by simp only [go_sem]) s_x2; simp only [go_sem, seval]; apply z; refine zai ?_; obtain ⟨y5, hy5, h⟩ := bind_some h; refine zbe 26 [] [] rfl (fun E' m' => ∃ (y5a : (zab × zaa)), y5 = .inl y5a /\ E' 0 = .ptr P0 0 /\ E' 4 = .ptr (0 :: q) 0 /\ E' 5 = .ptr (3 :: q) 0 /\ m'.blk P0 = some ((zab.C y5a.1)) /\ m'.blk (0 :: q) = some ([.lit (.int .i64 (0 : Int)), .lit (.int .i64 (0 : Int)), .lit (.string (bs [])), .lit (.int .u32 (0 : Int)), .list .self ([].map zaa.C)]) /\ m'.blk (3 :: q) = some ([.lit (.int .i64 y5a.2.zba), .lit (.int .i64 y5a.2.At_), .lit (.string (bs y5a.2.za0)), .lit (.int .u32 y5a.2.Num_), .list .self (y5a.2.zav.map zaa.C)]) /\ m'.gl = m.gl /\ m.back q m' = (m.set P0 ((zab.C y5a.1)))) ?_ ?_
 ·refine zaH ?_; refine zai ?_; obtain ⟨x6, h7, hy5⟩ := bind_some hy5; refine zao fun _ z => ?_; simp only [go_sem, seval]; refine SC.by_ (zaz n x2.2 ([108, 101, 116] : Str) _ h7 _ _ _ P0 (by simp only [go_sem, ↓reduceIte, pz1 hpP0, hg2])) ?_; simp only [go_sem, seval]; apply z; refine zby x6.1 (fun c8 => ?_) (fun c8 => ?_)
  ·replace hy5 := zaE c8 hy5; refine zan fun _ z => ?_; simp only [go_sem, seval, pz1 hpP0, c8]; apply z; refine zai ?_; obtain ⟨x9, h10, hy5⟩ := bind_some hy5; refine zao fun _ z => ?_; simp only [go_sem, seval]; refine SC.by_ (zeU n x6.2 ({ x2.1 with zba := (5 : Int) } : zaa) (IntKind.i64.wrap (a1 + (1 : Int))) _ h10 _ _ _ P0 (by simp only [go_sem, ↓reduceIte, pz1 hpP0, hg2, hg4])) ?_; simp only [go_sem, seval, pz1 hpP0]; apply z; refine zar ?_
   try simp only [zax, zaL]
   obtain rfl := zah hy5; simp only [Sum.elim_inr] at h; obtain rfl := zah h; refine ⟨by simp, ?_⟩; simp only [go_sem, seval, zam, za4, zaM, zaj, zaq hpP0, s_x2]
  ·replace hy5 := zaF c8 hy5; refine zai ?_; obtain ⟨x11, h12, hy5⟩ := bind_some hy5; refine zao fun _ z => ?_; simp only [go_sem, seval, c8]; refine SC.by_ (zaz n x6.2 ([118, 97, 114] : Str) _ h12 _ _ _ P0 (by simp only [go_sem, ↓reduceIte, hg2])) ?_; simp only [go_sem, seval]; apply z; refine zby x11.1 (fun c13 => ?_) (fun c13 => ?_)
   ·replace hy5 := zaE c13 hy5; refine zan fun _ z => ?_; simp only [go_sem, seval, pz1 hpP0, c13]; apply z; refine zai ?_; obtain ⟨x14, h15, hy5⟩ := bind_some hy5; refine zao fun _ z => ?_; simp only [go_sem, seval]; refine SC.by_ (zeU n x11.2 ({ x2.1 with zba := (6 : Int) } : zaa) (IntKind.i64.wrap (a1 + (1 : Int))) _ h15 _ _ _ P0 (by simp only [go_sem, ↓reduceIte, pz1 hpP0, hg2, hg4])) ?_; simp only [go_sem, seval, pz1 hpP0]; apply z; refine zar ?_
    try simp only [zax, zaL]
    obtain rfl := zah hy5; simp only [Sum.elim_inr] at h; obtain rfl := zah h; refine ⟨by simp, ?_⟩; simp only [go_sem, seval, zam, za4, zaM, zaj, zaq hpP0, s_x2]
   ·replace hy5 := zaF c13 hy5; refine zai ?_; obtain ⟨x16, h17, hy5⟩ := bind_some hy5; refine zao fun _ z => ?_; simp only [go_sem, seval, c13]; refine SC.by_ (zaz n x11.2 ([97, 114, 114] : Str) _ h17 _ _ _ P0 (by simp only [go_sem, ↓reduceIte, hg2])) ?_; simp only [go_sem, seval]; apply z; refine zby x16.1 (fun c18 => ?_) (fun c18 => ?_)
    ·replace hy5 := zaE c18 hy5; refine zai ?_; obtain ⟨x19, h20, hy5⟩ := bind_some hy5; refine zao fun _ z => ?_; simp only [go_sem, seval, c18]; refine SC.by_ (zbK n x16.2 _ h20 _ _ _ P0 (by simp only [go_sem, ↓reduceIte, hg2])) ?_; simp only [go_sem, seval, pz1 hpP0]; apply z; obtain ⟨x21, h22, hy5⟩ := bind_some hy5; refine zcW fun _ z => ?_; simp only [go_sem, seval]; refine SC.by_ (ze6 n x19.2 _ h22 _ _ _ P0 (by simp only [go_sem, ↓reduceIte, pz1 hpP0, hg2])) ?_; simp only [go_sem, seval, pz1 hpP0]; apply z; simp only [zac, zap]; obtain rfl := zah hy5; refine ⟨by decide, (x21.2, ({ x2.1 with zba := (7 : Int), za0 := x19.1, Num_ := x21.1 } : zaa)), rfl, ?_⟩; simp only [go_sem, seval, zam, za4, zaM, zaj, zaq hpP0, pz1 hpP0, s_x2]
    ·replace hy5 := zaF c18 hy5; refine zai ?_; obtain ⟨x23, h24, hy5⟩ := bind_some hy5; refine zao fun _ z => ?_; simp only [go_sem, seval, c18]; refine SC.by_ (zaz n x16.2 ([114, 101, 116, 117, 114, 110] : Str) _ h24 _ _ _ P0 (by simp only [go_sem, ↓reduceIte, hg2])) ?_; simp only [go_sem, seval]; apply z; refine zby x23.1 (fun c25 => ?_) (fun c25 => ?_)
     ·replace hy5 := zaE c25 hy5; obtain ⟨x26, h27, hy5⟩ := bind_some hy5; refine zcW fun _ z => ?_; simp only [go_sem, seval, c25]; refine SC.by_ (zbr n x23.2 (IntKind.i64.wrap (a1 + (1 : Int))) _ h27 _ _ _ P0 (by simp only [go_sem, ↓reduceIte, hg2, hg4])) ?_; simp only [go_sem, seval, pz1 hpP0]; apply z; simp only [zac, zap]; obtain rfl := zah hy5; refine ⟨by decide, (x26.2, ({ x2.1 with zba := (13 : Int), zav := [x26.1] } : zaa)), rfl, ?_⟩; simp only [go_sem, seval, zam, za4, zaM, zaj, zaq hpP0, pz1 hpP0, s_x2]
     ·replace hy5 := zaF c25 hy5; refine zai ?_; obtain ⟨x28, h29, hy5⟩ := bind_some hy5; refine zao fun _ z => ?_; simp only [go_sem, seval, c25]; refine SC.by_ (zaz n x23.2 ([105, 102] : Str) _ h29 _ _ _ P0 (by simp only [go_sem, ↓reduceIte, hg2])) ?_; simp only [go_sem, seval]; apply z; refine zby x28.1 (fun c30 => ?_) (fun c30 => ?_)
      ·replace hy5 := zaE c30 hy5; refine zai ?_; obtain ⟨x31, h32, hy5⟩ := bind_some hy5; refine zao fun _ z => ?_; simp only [go_sem, seval, pz1 hpP0, c30]; refine SC.by_ (zf9 x28.2 x2.1 a1 _ h32 _ _ _ P0 (by simp only [go_sem, ↓reduceIte, hg2, hg4])) ?_; simp only [go_sem, seval, pz1 hpP0]; apply z; refine zar ?_
       try simp only [zax, zaL]
       obtain rfl := zah hy5; simp only [Sum.elim_inr] at h; obtain rfl := zah h; refine ⟨by simp, ?_⟩; simp only [go_sem, seval, zam, za4, zaM, zaj, zaq hpP0, s_x2]
      ·replace hy5 := zaF c30 hy5; refine zai ?_; obtain ⟨x33, h34, hy5⟩ := bind_some hy5; refine zao fun _ z => ?_; simp only [go_sem, seval, c30]; refine SC.by_ (zaz n x28.2 ([102, 111, 114] : Str) _ h34 _ _ _ P0 (by simp only [go_sem, ↓reduceIte, hg2])) ?_; simp only [go_sem, seval]; apply z; refine zby x33.1 (fun c35 => ?_) (fun c35 => ?_)
       ·replace hy5 := zaE c35 hy5; refine zai ?_; obtain ⟨x36, h37, hy5⟩ := bind_some hy5; refine zao fun _ z => ?_; simp only [go_sem, seval, pz1 hpP0, c35]; refine SC.by_ (zgR x33.2 x2.1 a1 _ h37 _ _ _ P0 (by simp only [go_sem, ↓reduceIte, hg2, hg4])) ?_; simp only [go_sem, seval, pz1 hpP0]; apply z; refine zar ?_
        try simp only [zax, zaL]
        obtain rfl := zah hy5; simp only [Sum.elim_inr] at h; obtain rfl := zah h; refine ⟨by simp, ?_⟩; simp only [go_sem, seval, zam, za4, zaM, zaj, zaq hpP0, s_x2]
       ·replace hy5 := zaF c35 hy5; refine zai ?_; obtain ⟨x38, h39, hy5⟩ := bind_some hy5; refine zao fun _ z => ?_; simp only [go_sem, seval, pz1 hpP0, c35]; refine SC.by_ (zgV n x33.2 x2.1 a1 _ h39 _ _ _ P0 (by simp only [go_sem, ↓reduceIte, hg2, hg4])) ?_; simp only [go_sem, seval, pz1 hpP0]; apply z; refine zar ?_
        try simp only [zax, zaL]
        obtain rfl := zah hy5; simp only [Sum.elim_inr] at h; obtain rfl := zah h; refine ⟨by simp, ?_⟩; simp only [go_sem, seval, zam, za4, zaM, zaj, zaq hpP0, s_x2]
 ·rintro E40 m41 ⟨y5a, rfl, e42⟩ _; simp only [Sum.elim_inl] at h; simp only [zac]; refine zai ?_; obtain ⟨x43, h44, h⟩ := bind_some h; refine zao fun _ z => ?_; simp only [go_sem, seval, e42]; refine SC.by_ (zau n y5a.1 ([59] : Str) _ h44 _ _ _ P0 (by simp only [go_sem, e42, hg2])) ?_; simp only [go_sem, Nat.reduceAdd]; apply z; refine zan fun _ z => ?_; simp only [go_sem, seval, pz1 hpP0, e42]; apply z; refine zar ?_; obtain rfl := zah h; refine ⟨by simp, ?_⟩; simp only [go_sem, seval, zam, zaq hpP0, e42]
theorem zf3 {zbd : zab -> Int -> Option (zaa × zab)} (zcL : zcz zbd) (n : Nat) : zdR (zdQ zbd n) := by
 rintro a0 a1 a2 r h q m vs P0 ⟨hv, hmP0, hg2, hg4⟩; refine SC.weak ?_; rw [hv]; refine SC.apart hmP0 fun hpP0 => ?_; have hmsP0 := za5 hmP0
 try simp only [go_sem] at hmP0 hmsP0
 refine SC_w Tryd.func71 rfl (fun xs w => Tryd.call71 xs w) Tryd.ntmps71 (by kernel_rfl) Tryd.results71 ?_; unfold zdQ at h; refine zan fun _ z => ?_; simp only [go_sem, Nat.reduceAdd]; apply z; refine zai ?_; obtain ⟨x3, h4, h⟩ := bind_some h; refine zao fun _ z => ?_; simp only [go_sem, seval]; refine SC.by_ (zbr n a0 (IntKind.i64.wrap (a2 + (1 : Int))) _ h4 _ _ _ P0 (by simp only [go_sem, ↓reduceIte, pz1 hpP0, hmP0, hg2, hg4])) ?_; simp only [go_sem, seval, pz1 hpP0]; apply z; refine zai ?_; obtain ⟨x5, h6, h⟩ := bind_some h; obtain ⟨f7, h⟩ := zaO h; refine zaP (tbl := [0, 1, 0, 0, 8, 28, 60, 127, 255, 511]) (ord := [(2, 0), (3, 0), (4, 0), (5, 0), (0, 0), (1, 1), (6, 0), (7, 0), (8, 0), (9, 0)]) 21 rfl (by kernel_rfl) (by kernel_rfl) fun _ z => ?_; simp only [go_sem, seval]; refine zaJ (zcL x3.2 (IntKind.i64.wrap (a2 + (1 : Int))) _ h6 _ _ _ P0 (by simp only [go_sem, ↓reduceIte, pz1 hpP0, hg2, hg4])) rfl ?_; simp only [go_sem, seval, pz1 hpP0]; apply z; simp only [zac]; refine zai ?_; refine zai ?_; obtain ⟨x8, h9, h⟩ := bind_some h; refine zao fun _ z => ?_; simp only [go_sem, seval]; refine SC.by_ (zaz n x5.2 ([101, 108, 115, 101] : Str) _ h9 _ _ _ P0 (by simp only [go_sem, ↓reduceIte, pz1 hpP0, hg2])) ?_; simp only [go_sem, Nat.reduceAdd]; apply z; refine zby x8.1 (fun c10 => ?_) (fun c10 => ?_)
 ·replace h := zaE c10 h; obtain ⟨x11, h12, h⟩ := bind_some h; obtain ⟨f13, h⟩ := zaO h; have f14 : 1 + 1 + 1 <= 1073741824 := by first | omega | (simp only [List.length_append, List.length_cons, List.length_nil] at f13 ⊢; omega)
  refine zaP (tbl := [0, 1, 0, 0, 8, 28, 60, 127, 255, 511]) (ord := [(2, 0), (3, 0), (4, 0), (5, 0), (0, 0), (1, 1), (6, 0), (7, 0), (8, 0), (9, 0)]) 33 rfl (by kernel_rfl) (by kernel_rfl) fun _ z => ?_; simp only [go_sem, seval, c10]; refine zaJ (zcL x8.2 (IntKind.i64.wrap (a2 + (1 : Int))) _ h12 _ _ _ P0 (by simp only [go_sem, ↓reduceIte, hg2, hg4])) rfl ?_; simp only [go_sem, seval, pz1 hpP0, f14]; apply z; simp only [zac]; refine zan fun _ z => ?_; simp only [go_sem, seval, pz1 hpP0]; apply z; refine zar ?_; obtain rfl := zah h; refine ⟨by simp, ?_⟩; simp only [go_sem, seval, zam, za4, zaM, zaj, zaq hpP0]
 ·replace h := zaF c10 h; refine zaw ?_
  try simp only [zac]
  refine zan fun _ z => ?_; simp only [go_sem, seval, pz1 hpP0, c10]; apply z; refine zar ?_; obtain rfl := zah h; refine ⟨by simp, ?_⟩; simp only [go_sem, seval, zam, za4, zaM, zaj, zaq hpP0]
theorem zgD {zbd : zab -> Int -> Option (zaa × zab)} (zcL : zcz zbd) (n : Nat) : zei (zeh zbd n) := by
 rintro a0 a1 a2 r h q m vs P0 ⟨hv, hmP0, hg2, hg4⟩; refine SC.weak ?_; rw [hv]; refine SC.apart hmP0 fun hpP0 => ?_; have hmsP0 := za5 hmP0
 try simp only [go_sem] at hmP0 hmsP0
 refine SC_w Tryd.func72 rfl (fun xs w => Tryd.call72 xs w) Tryd.ntmps72 (by kernel_rfl) Tryd.results72 ?_; unfold zeh at h; refine zan fun _ z => ?_; simp only [go_sem, Nat.reduceAdd]; apply z; refine zai ?_; obtain ⟨x3, h4, h⟩ := bind_some h; refine zao fun _ z => ?_; simp only [go_sem, seval]; refine SC.by_ (zbK n a0 _ h4 _ _ _ P0 (by simp only [go_sem, ↓reduceIte, pz1 hpP0, hmP0, hg2])) ?_; simp only [go_sem, seval, pz1 hpP0]; apply z; refine zai ?_; obtain ⟨x5, h6, h⟩ := bind_some h; refine zao fun _ z => ?_; simp only [go_sem, seval]; refine SC.by_ (zau n x3.2 ([105, 110] : Str) _ h6 _ _ _ P0 (by simp only [go_sem, ↓reduceIte, pz1 hpP0, hg2])) ?_; simp only [go_sem, Nat.reduceAdd]; apply z; refine zai ?_; obtain ⟨x7, h8, h⟩ := bind_some h; refine zao fun _ z => ?_; simp only [go_sem, seval]; refine SC.by_ (zbr n x5 (IntKind.i64.wrap (a2 + (1 : Int))) _ h8 _ _ _ P0 (by simp only [go_sem, ↓reduceIte, hg2, hg4])) ?_; simp only [go_sem, seval, pz1 hpP0]; apply z; refine zai ?_; obtain ⟨x9, h10, h⟩ := bind_some h; refine zao fun _ z => ?_; simp only [go_sem, seval]; refine SC.by_ (zau n x7.2 ([46, 46] : Str) _ h10 _ _ _ P0 (by simp only [go_sem, ↓reduceIte, pz1 hpP0, hg2])) ?_; simp only [go_sem, Nat.reduceAdd]; apply z; refine zai ?_; obtain ⟨x11, h12, h⟩ := bind_some h; obtain ⟨f13, h⟩ := zaO h; refine zaP (tbl := [0, 1, 0, 0, 8, 28, 60, 127, 255, 511]) (ord := [(2, 0), (3, 0), (4, 0), (5, 0), (0, 0), (1, 1), (6, 0), (7, 0), (8, 0), (9, 0)]) 29 rfl (by kernel_rfl) (by kernel_rfl) fun _ z => ?_; simp only [go_sem, seval]; refine zaJ (zbr n x9 (IntKind.i64.wrap (a2 + (1 : Int))) _ h12 _ _ _ P0 (by simp only [go_sem, ↓reduceIte, hg2, hg4])) rfl ?_; simp only [go_sem, seval, pz1 hpP0]; apply z; simp only [zac]; refine zai ?_; obtain ⟨x14, h15, h⟩ := bind_some h; obtain ⟨f16, h⟩ := zaO h; have f17 : 1 + 1 + 1 <= 1073741824 := by first | omega | (simp only [List.length_append, List.length_cons, List.length_nil] at f16 ⊢; omega)
 refine zaP (tbl := [0, 1, 0, 0, 8, 28, 60, 127, 255, 511]) (ord := [(2, 0), (3, 0), (4, 0), (5, 0), (0, 0), (1, 1), (6, 0), (7, 0), (8, 0), (9, 0)]) 39 rfl (by kernel_rfl) (by kernel_rfl) fun _ z => ?_; simp only [go_sem, seval]; refine zaJ (zcL x11.2 (IntKind.i64.wrap (a2 + (1 : Int))) _ h15 _ _ _ P0 (by simp only [go_sem, ↓reduceIte, pz1 hpP0, hg2, hg4])) rfl ?_; simp only [go_sem, seval, pz1 hpP0, f17]; apply z; simp only [zac]; refine zan fun _ z => ?_; simp only [go_sem, seval, pz1 hpP0]; apply z; refine zar ?_; obtain rfl := zah h; refine ⟨by simp, ?_⟩; simp only [go_sem, seval, zam, za4, zaM, zaj, zaq hpP0]
theorem zek : ∀ n, zcz (zbS n) /\ zdj (zgA n) /\ zdR (zhR n) /\ zei (ziq n)
 | 0 => ⟨fun _ _ _ h => zb3 h, fun _ _ _ h => zb3 h, fun _ _ _ _ h => zb3 h, fun _ _ _ _ h => zb3 h⟩
 | n + 1 =>
   have ih := zek n
   ⟨zgk ih.2.1 n, zfu ih.2.2.1 ih.2.2.2 n, zf3 ih.1 n, zgD ih.1 n⟩
theorem zbW (n : Nat) : zcz (zbS n) := (zek n).1
def zgj (f : zab -> Option (zaa × zab)) : Prop := ∀ a0 r, f a0 = some r -> ∀ (q : Pa) (m : M) (vs : List V) (P0 : Pa), vs.map V.weak1 = [.ptr P0 0] /\ m.blk P0 = some ((zab.C a0)) /\ m.gl 2 = .eptr [(cA cS zaI)] 0 0 /\ m.gl 4 = .eptr [(cA (cA cS) za6)] 0 0 -> SC Tryd.prog 23 vs q m (fun v m' => v = .agg ((zaa.C r.1)) /\ m' = (m.set P0 ((zab.C r.2))))
theorem zf2 (n : Nat) : zgj (zdO n) := by
 rintro a0 r h q m vs P0 ⟨hv, hmP0, hg2, hg4⟩; refine SC.weak ?_; rw [hv]; refine SC.apart hmP0 fun hpP0 => ?_; have hmsP0 := za5 hmP0
 try simp only [go_sem] at hmP0 hmsP0
 refine SC_w Tryd.func23 rfl (fun xs w => Tryd.call23 xs w) Tryd.ntmps23 (by kernel_rfl) Tryd.results23 ?_; unfold zdO at h; refine zan fun _ z => ?_; simp only [go_sem]; apply z; refine zai ?_; obtain ⟨x2, h4, h⟩ := bind_some h; refine zao fun _ z => ?_; simp only [go_sem, seval]; refine SC.mono (zbJ a0 (2 : Int) _ h4 _ _ _ P0 (by simp only [go_sem, ↓reduceIte, pz1 hpP0, hmP0])) ?_; rintro _ _ ⟨o_x2, j_x2, s_x2, rfl, rfl⟩; replace s_x2 : q <:+ o_x2 := List.IsSuffix.trans (by simp only [go_sem]) s_x2; simp only [go_sem, seval]; apply z; refine zai ?_; refine zai ?_; obtain ⟨x5, h6, h⟩ := bind_some h; refine zao fun _ z => ?_; simp only [go_sem, seval]; refine SC.by_ (zaz n x2.2 ([101, 120, 112, 111, 114, 116] : Str) _ h6 _ _ _ P0 (by simp only [go_sem, ↓reduceIte, pz1 hpP0, hg2])) ?_; simp only [go_sem, Nat.reduceAdd]; apply z; refine zby x5.1 (fun c7 => ?_) (fun c7 => ?_)
 ·replace h := zaE c7 h; refine zao fun _ z => ?_; simp only [go_sem, seval, pz1 hpP0, c7]; apply z; refine zai ?_; obtain ⟨x8, h9, h⟩ := bind_some h; refine zao fun _ z => ?_; simp only [go_sem, seval]; refine SC.by_ (zau n x5.2 ([102, 110] : Str) _ h9 _ _ _ P0 (by simp only [go_sem, ↓reduceIte, pz1 hpP0, hg2])) ?_; simp only [go_sem, Nat.reduceAdd]; apply z; refine zai ?_; obtain ⟨x10, h11, h⟩ := bind_some h; refine zao fun _ z => ?_; simp only [go_sem, seval]; refine SC.by_ (zbK n x8 _ h11 _ _ _ P0 (by simp only [go_sem, ↓reduceIte, hg2])) ?_; simp only [go_sem, seval, pz1 hpP0]; apply z; refine zai ?_; obtain ⟨x12, h13, h⟩ := bind_some h; refine zao fun _ z => ?_; simp only [go_sem, seval]; refine SC.mono (zdZ n x10.2 _ h13 _ _ _ P0 (by simp only [go_sem, ↓reduceIte, pz1 hpP0, hg2])) ?_; rintro _ _ ⟨o_x12, j_x12, s_x12, rfl, rfl⟩; replace s_x12 : q <:+ o_x12 := List.IsSuffix.trans (by simp only [go_sem]) s_x12; simp only [go_sem, seval, pz1 hpP0]; apply z; refine zai ?_; refine zai ?_; obtain ⟨x14, h15, h⟩ := bind_some h; refine zao fun _ z => ?_; simp only [go_sem, seval]; refine SC.by_ (zaz n x12.2 ([45, 62] : Str) _ h15 _ _ _ P0 (by simp only [go_sem, ↓reduceIte, pz1 hpP0, hg2])) ?_; simp only [go_sem, Nat.reduceAdd]; apply z; refine zby x14.1 (fun c16 => ?_) (fun c16 => ?_)
  ·replace h := zaE c16 h; refine zaH ?_; refine zai ?_; obtain ⟨x17, h18, h⟩ := bind_some h; refine zao fun _ z => ?_; simp only [go_sem, seval, c16]; refine SC.by_ (zaz n x14.2 ([117, 51, 50] : Str) _ h18 _ _ _ P0 (by simp only [go_sem, ↓reduceIte, hg2])) ?_; simp only [go_sem, seval]; apply z; refine zby x17.1 (fun c19 => ?_) (fun c19 => ?_)
   ·replace h := zaE c19 h; refine zcW fun _ z => ?_; simp only [go_sem, seval, pz1 hpP0, c19]; apply z; simp only [zac, zap]; refine zai ?_; obtain ⟨x20, h21, h⟩ := bind_some h; obtain ⟨f22, h⟩ := zaO h; have f23 : x12.1.length + 1 <= 1073741824 := by first | omega | (simp only [List.length_append, List.length_cons, List.length_nil] at f22 ⊢; omega)
    have f24 : x12.1.length <= 1073741823 := by first | omega | (simp only [List.length_append, List.length_cons, List.length_nil] at f22 ⊢; omega)
    refine zaP (tbl := [0, 1, 0, 4, 12, 31, 63, 127]) (ord := [(2, 0), (3, 0), (0, 0), (1, 1), (4, 0), (5, 0), (6, 0), (7, 0)]) 39 rfl (by kernel_rfl) (by kernel_rfl) fun _ z => ?_; simp only [go_sem, seval]; refine zaJ (zbW n x17.2 (1 : Int) _ h21 _ _ _ P0 (by simp only [go_sem, ↓reduceIte, pz1 hpP0, hg2, hg4])) rfl ?_; simp only [go_sem, seval, pz1 hpP0, f23]; apply z; simp only [zac]; refine zan fun _ z => ?_; simp only [go_sem, seval, pz1 hpP0]; apply z; refine zar ?_; obtain rfl := zah h; refine ⟨by simp, ?_⟩; simp only [go_sem, seval, zam, za4, zaM, zaj, zaq hpP0, s_x2, s_x12]
   ·replace h := zaF c19 h; refine zai ?_; obtain ⟨x25, h26, h⟩ := bind_some h; refine zao fun _ z => ?_; simp only [go_sem, seval, c19]; refine SC.by_ (zau n x17.2 ([117, 54, 52] : Str) _ h26 _ _ _ P0 (by simp only [go_sem, ↓reduceIte, hg2])) ?_; simp only [go_sem, Nat.reduceAdd]; apply z; refine zcW fun _ z => ?_; simp only [go_sem, seval, pz1 hpP0]; apply z; simp only [zac, zap]; refine zai ?_; obtain ⟨x27, h28, h⟩ := bind_some h; obtain ⟨f29, h⟩ := zaO h; have f30 : x12.1.length + 1 <= 1073741824 := by first | omega | (simp only [List.length_append, List.length_cons, List.length_nil] at f29 ⊢; omega)
    have f31 : x12.1.length <= 1073741823 := by first | omega | (simp only [List.length_append, List.length_cons, List.length_nil] at f29 ⊢; omega)
    refine zaP (tbl := [0, 1, 0, 4, 12, 31, 63, 127]) (ord := [(2, 0), (3, 0), (0, 0), (1, 1), (4, 0), (5, 0), (6, 0), (7, 0)]) 41 rfl (by kernel_rfl) (by kernel_rfl) fun _ z => ?_; simp only [go_sem, seval]; refine zaJ (zbW n x25 (1 : Int) _ h28 _ _ _ P0 (by simp only [go_sem, ↓reduceIte, pz1 hpP0, hg2, hg4])) rfl ?_; simp only [go_sem, seval, pz1 hpP0, f30]; apply z; simp only [zac]; refine zan fun _ z => ?_; simp only [go_sem, seval, pz1 hpP0]; apply z; refine zar ?_; obtain rfl := zah h; refine ⟨by simp, ?_⟩; simp only [go_sem, seval, zam, za4, zaM, zaj, zaq hpP0, s_x2, s_x12]
  ·replace h := zaF c16 h; refine zaw ?_
   try simp only [zac]
   refine zai ?_; obtain ⟨x32, h33, h⟩ := bind_some h; obtain ⟨f34, h⟩ := zaO h; have f35 : x12.1.length + 1 <= 1073741824 := by first | omega | (simp only [List.length_append, List.length_cons, List.length_nil] at f34 ⊢; omega)
   have f36 : x12.1.length <= 1073741823 := by first | omega | (simp only [List.length_append, List.length_cons, List.length_nil] at f34 ⊢; omega)
   refine zaP (tbl := [0, 1, 0, 4, 12, 31, 63, 127]) (ord := [(2, 0), (3, 0), (0, 0), (1, 1), (4, 0), (5, 0), (6, 0), (7, 0)]) 31 rfl (by kernel_rfl) (by kernel_rfl) fun _ z => ?_; simp only [go_sem, seval, c16]; refine zaJ (zbW n x14.2 (1 : Int) _ h33 _ _ _ P0 (by simp only [go_sem, ↓reduceIte, hg2, hg4])) rfl ?_; simp only [go_sem, seval, pz1 hpP0, f35]; apply z; simp only [zac]; refine zan fun _ z => ?_; simp only [go_sem, seval, pz1 hpP0]; apply z; refine zar ?_; obtain rfl := zah h; refine ⟨by simp, ?_⟩; simp only [go_sem, seval, zam, za4, zaM, zaj, zaq hpP0, s_x2, s_x12]
 ·replace h := zaF c7 h; refine zaw ?_
  try simp only [zac]
  refine zai ?_; obtain ⟨x37, h38, h⟩ := bind_some h; refine zao fun _ z => ?_; simp only [go_sem, seval, c7]; refine SC.by_ (zau n x5.2 ([102, 110] : Str) _ h38 _ _ _ P0 (by simp only [go_sem, ↓reduceIte, hg2])) ?_; simp only [go_sem, Nat.reduceAdd]; apply z; refine zai ?_; obtain ⟨x39, h40, h⟩ := bind_some h; refine zao fun _ z => ?_; simp only [go_sem, seval]; refine SC.by_ (zbK n x37 _ h40 _ _ _ P0 (by simp only [go_sem, ↓reduceIte, hg2])) ?_; simp only [go_sem, seval, pz1 hpP0]; apply z; refine zai ?_; obtain ⟨x41, h42, h⟩ := bind_some h; refine zao fun _ z => ?_; simp only [go_sem, seval]; refine SC.mono (zdZ n x39.2 _ h42 _ _ _ P0 (by simp only [go_sem, ↓reduceIte, pz1 hpP0, hg2])) ?_; rintro _ _ ⟨o_x41, j_x41, s_x41, rfl, rfl⟩; replace s_x41 : q <:+ o_x41 := List.IsSuffix.trans (by simp only [go_sem]) s_x41; simp only [go_sem, seval, pz1 hpP0]; apply z; refine zai ?_; refine zai ?_; obtain ⟨x43, h44, h⟩ := bind_some h; refine zao fun _ z => ?_; simp only [go_sem, seval]; refine SC.by_ (zaz n x41.2 ([45, 62] : Str) _ h44 _ _ _ P0 (by simp only [go_sem, ↓reduceIte, pz1 hpP0, hg2])) ?_; simp only [go_sem, Nat.reduceAdd]; apply z; refine zby x43.1 (fun c45 => ?_) (fun c45 => ?_)
  ·replace h := zaE c45 h; refine zaH ?_; refine zai ?_; obtain ⟨x46, h47, h⟩ := bind_some h; refine zao fun _ z => ?_; simp only [go_sem, seval, c45]; refine SC.by_ (zaz n x43.2 ([117, 51, 50] : Str) _ h47 _ _ _ P0 (by simp only [go_sem, ↓reduceIte, hg2])) ?_; simp only [go_sem, seval]; apply z; refine zby x46.1 (fun c48 => ?_) (fun c48 => ?_)
   ·replace h := zaE c48 h; refine zcW fun _ z => ?_; simp only [go_sem, seval, pz1 hpP0, c48]; apply z; simp only [zac, zap]; refine zai ?_; obtain ⟨x49, h50, h⟩ := bind_some h; obtain ⟨f51, h⟩ := zaO h; have f52 : x41.1.length + 1 <= 1073741824 := by first | omega | (simp only [List.length_append, List.length_cons, List.length_nil] at f51 ⊢; omega)
    have f53 : x41.1.length <= 1073741823 := by first | omega | (simp only [List.length_append, List.length_cons, List.length_nil] at f51 ⊢; omega)
    refine zaP (tbl := [0, 1, 0, 4, 12, 31, 63, 127]) (ord := [(2, 0), (3, 0), (0, 0), (1, 1), (4, 0), (5, 0), (6, 0), (7, 0)]) 37 rfl (by kernel_rfl) (by kernel_rfl) fun _ z => ?_; simp only [go_sem, seval]; refine zaJ (zbW n x46.2 (1 : Int) _ h50 _ _ _ P0 (by simp only [go_sem, ↓reduceIte, pz1 hpP0, hg2, hg4])) rfl ?_; simp only [go_sem, seval, pz1 hpP0, f52]; apply z; simp only [zac]; refine zan fun _ z => ?_; simp only [go_sem, seval, pz1 hpP0]; apply z; refine zar ?_; obtain rfl := zah h; refine ⟨by simp, ?_⟩; simp only [go_sem, seval, zam, za4, zaM, zaj, zaq hpP0, s_x2, s_x41]
   ·replace h := zaF c48 h; refine zai ?_; obtain ⟨x54, h55, h⟩ := bind_some h; refine zao fun _ z => ?_; simp only [go_sem, seval, c48]; refine SC.by_ (zau n x46.2 ([117, 54, 52] : Str) _ h55 _ _ _ P0 (by simp only [go_sem, ↓reduceIte, hg2])) ?_; simp only [go_sem, Nat.reduceAdd]; apply z; refine zcW fun _ z => ?_; simp only [go_sem, seval, pz1 hpP0]; apply z; simp only [zac, zap]; refine zai ?_; obtain ⟨x56, h57, h⟩ := bind_some h; obtain ⟨f58, h⟩ := zaO h; have f59 : x41.1.length + 1 <= 1073741824 := by first | omega | (simp only [List.length_append, List.length_cons, List.length_nil] at f58 ⊢; omega)
    have f60 : x41.1.length <= 1073741823 := by first | omega | (simp only [List.length_append, List.length_cons, List.length_nil] at f58 ⊢; omega)
    refine zaP (tbl := [0, 1, 0, 4, 12, 31, 63, 127]) (ord := [(2, 0), (3, 0), (0, 0), (1, 1), (4, 0), (5, 0), (6, 0), (7, 0)]) 39 rfl (by kernel_rfl) (by kernel_rfl) fun _ z => ?_; simp only [go_sem, seval]; refine zaJ (zbW n x54 (1 : Int) _ h57 _ _ _ P0 (by simp only [go_sem, ↓reduceIte, pz1 hpP0, hg2, hg4])) rfl ?_; simp only [go_sem, seval, pz1 hpP0, f59]; apply z; simp only [zac]; refine zan fun _ z => ?_; simp only [go_sem, seval, pz1 hpP0]; apply z; refine zar ?_; obtain rfl := zah h; refine ⟨by simp, ?_⟩; simp only [go_sem, seval, zam, za4, zaM, zaj, zaq hpP0, s_x2, s_x41]
  ·replace h := zaF c45 h; refine zaw ?_
   try simp only [zac]
   refine zai ?_; obtain ⟨x61, h62, h⟩ := bind_some h; obtain ⟨f63, h⟩ := zaO h; have f64 : x41.1.length + 1 <= 1073741824 := by first | omega | (simp only [List.length_append, List.length_cons, List.length_nil] at f63 ⊢; omega)
   have f65 : x41.1.length <= 1073741823 := by first | omega | (simp only [List.length_append, List.length_cons, List.length_nil] at f63 ⊢; omega)
   refine zaP (tbl := [0, 1, 0, 4, 12, 31, 63, 127]) (ord := [(2, 0), (3, 0), (0, 0), (1, 1), (4, 0), (5, 0), (6, 0), (7, 0)]) 29 rfl (by kernel_rfl) (by kernel_rfl) fun _ z => ?_; simp only [go_sem, seval, c45]; refine zaJ (zbW n x43.2 (1 : Int) _ h62 _ _ _ P0 (by simp only [go_sem, ↓reduceIte, hg2, hg4])) rfl ?_; simp only [go_sem, seval, pz1 hpP0, f64]; apply z; simp only [zac]; refine zan fun _ z => ?_; simp only [go_sem, seval, pz1 hpP0]; apply z; refine zar ?_; obtain rfl := zah h; refine ⟨by simp, ?_⟩; simp only [go_sem, seval, zam, za4, zaM, zaj, zaq hpP0, s_x2, s_x41]
def zjL (f : Str -> Option (zaa × Int × Int)) : Prop := ∀ a0 r, f a0 = some r -> ∀ (q : Pa) (m : M) (vs : List V), vs.map V.weak1 = [.list .none (zdB a0)] /\ m.gl 1 = .eptr [(cA cS zbh)] 0 0 /\ m.gl 2 = .eptr [(cA cS zaI)] 0 0 /\ m.gl 4 = .eptr [(cA (cA cS) za6)] 0 0 -> SC Tryd.prog 11 vs q m (fun v m' => v = .tup [.agg ((zaa.C r.1)), .lit (.int .i64 r.2.1), .lit (.int .i64 r.2.2)] /\ m' = m)
theorem zjn (n : Nat) : zjL (zfR n) := by
 rintro a0 r h q m vs ⟨hv, hg1, hg2, hg4⟩; refine SC.weak ?_; rw [hv]; refine SC_w Tryd.func11 rfl (fun xs w => Tryd.call11 xs w) Tryd.ntmps11 (by kernel_rfl) Tryd.results11 ?_; unfold zfR at h; refine zan fun _ z => ?_; simp only [go_sem, Nat.reduceAdd]; apply z; refine zai ?_; obtain ⟨x2, h3, h⟩ := bind_some h; refine zao fun _ z => ?_; simp only [go_sem, seval]; refine SC.by_ (zjO n a0 _ h3 _ _ _ (by simp only [go_sem, hg1])) ?_; simp only [go_sem, seval]; apply z; refine zai ?_; refine zan fun _ z => ?_; simp only [go_sem, seval]; apply z; refine zby (x2.2.1 != (0 : Int)) (fun c4 => ?_) (fun c4 => ?_)
 ·replace h := zaE c4 h; refine zan fun _ z => ?_; simp only [go_sem, seval, c4]; apply z; refine zar ?_
  try simp only [zax]
  obtain rfl := zah h; refine ⟨by simp, ?_⟩; simp only [go_sem, seval, zam, za4, zaj]
 ·replace h := zaF c4 h; refine zaw ?_
  try simp only [zac]
  refine zan fun _ z => ?_; simp only [go_sem, seval, c4]; apply z; refine zai ?_; obtain ⟨x6, h8, h⟩ := bind_some h; refine zao fun _ z => ?_; simp only [go_sem, seval]; refine SC.mono (zbJ (zab.mk x2.1 (0 : Int) (0 : Int) (0 : Int) (0 : Int)) (1 : Int) _ h8 _ _ _ (16 :: q) (by simp only [go_sem, ↓reduceIte])) ?_; rintro _ _ ⟨o_x6, j_x6, s_x6, rfl, rfl⟩; replace s_x6 : q <:+ o_x6 := List.IsSuffix.trans (by simp only [go_sem]) s_x6; simp only [go_sem, seval]; apply z; refine zai ?_; refine zaH ?_; obtain ⟨y12, hy12, h⟩ := bind_some h; refine zbm [] [] rfl (fun c E' m' => ∃ v10 v11, zd1 n c v10 v11 = some y12 /\ E' 2 = .ptr (0 :: q) 0 /\ E' 8 = .ptr (16 :: q) 0 /\ E' 9 = .ptr (20 :: q) 0 /\ m'.blk (0 :: q) = some ([.lit (.int .i64 (0 : Int)), .lit (.int .i64 (0 : Int)), .lit (.string (bs [])), .lit (.int .u32 (0 : Int)), .list .self ([].map zaa.C)]) /\ m'.blk (16 :: q) = some ((zab.C v10)) /\ m'.blk (20 :: q) = some ([.lit (.int .i64 v11.zba), .lit (.int .i64 v11.At_), .lit (.string (bs v11.za0)), .lit (.int .u32 v11.Num_), .list .self (v11.zav.map zaa.C)]) /\ m'.gl = m.gl /\ m.back q m' = m) n ⟨x6.2, x6.1, hy12, ?_⟩ ?_
  ·simp only [go_sem, seval, zam, za4, zaM, zaj, s_x6]
  rintro i9 c13 E14 m15 ⟨v10, v11, hy12, e16⟩ _
  rcases c13 with _ | c13
  ·exact absurd hy12 (by rw [zd1]; exact fun e => nomatch e)
  rw [zd1] at hy12; refine zai ?_; refine zai ?_; obtain ⟨y17, hy17, hy12⟩ := bind_some hy12; refine zbe 11 [] [] rfl (fun E' m' => E' 2 = .ptr (0 :: q) 0 /\ E' 8 = .ptr (16 :: q) 0 /\ E' 9 = .ptr (20 :: q) 0 /\ E' 36 = .lit (.bool y17) /\ m'.blk (0 :: q) = some ([.lit (.int .i64 (0 : Int)), .lit (.int .i64 (0 : Int)), .lit (.string (bs [])), .lit (.int .u32 (0 : Int)), .list .self ([].map zaa.C)]) /\ m'.blk (16 :: q) = some ((zab.C v10)) /\ m'.blk (20 :: q) = some ([.lit (.int .i64 v11.zba), .lit (.int .i64 v11.At_), .lit (.string (bs v11.za0)), .lit (.int .u32 v11.Num_), .list .self (v11.zav.map zaa.C)]) /\ m'.gl = m.gl /\ m.back q m' = m) ?_ ?_
  ·rcases zbb (v10.e_ == (0 : Int)) with c18 | c18
   ·replace hy17 := zaE c18 hy17; obtain ⟨x19, h20, hy17⟩ := bind_some hy17; refine zao fun _ z => ?_; simp only [go_sem, seval, c18, e16]; refine SC.by_ (zbA v10 _ h20 _ _ _ (16 :: q) (by simp only [go_sem, e16])) ?_; simp only [go_sem, seval]; apply z; obtain rfl := zah hy17; refine ⟨by decide, ?_⟩; simp only [go_sem, seval, e16]
   ·replace hy17 := zaF c18 hy17; refine zao fun _ z => ?_; simp only [go_sem, seval, c18, e16]; apply z; obtain rfl := zah hy17; refine ⟨by decide, ?_⟩; simp only [go_sem, seval, e16]
  ·intro E21 m22 e23 _; simp only [zac]; refine zcg y17 (by simp only [go_sem, e23]) (fun c24 => ?_) (fun c24 => ?_)
   ·replace hy12 := zaE c24 hy12; refine zaw ?_
    try simp only [zac]
    refine zaH ?_; obtain ⟨x25, h26, hy12⟩ := bind_some hy12; obtain ⟨f27, hy12⟩ := zaO hy12; have f28 : v11.zav.length + 1 <= 1073741824 := by first | omega | (simp only [List.length_append, List.length_cons, List.length_nil] at f27 ⊢; omega)
    have f29 : v11.zav.length <= 1073741823 := by first | omega | (simp only [List.length_append, List.length_cons, List.length_nil] at f27 ⊢; omega)
    refine zaP (tbl := [0, 1, 0, 4, 12, 31, 63, 127]) (ord := [(2, 0), (3, 0), (0, 0), (1, 1), (4, 0), (5, 0), (6, 0), (7, 0)]) 19 rfl (by kernel_rfl) (by kernel_rfl) fun _ z => ?_; simp only [go_sem, seval, e23]; refine zaJ (zf2 n v10 _ h26 _ _ _ (16 :: q) (by simp only [go_sem, e23, hg2, hg4])) rfl ?_; simp only [go_sem, seval, f28, e23]; apply z; simp only [zac, zap]; refine ⟨c13, Nat.lt_succ_self _, x25.2, ({ v11 with zav := (v11.zav ++ [x25.1]) } : zaa), hy12, ?_⟩; simp only [go_sem, seval, zam, za4, zaM, e23]
   ·replace hy12 := zaF c24 hy12; refine zbP ?_
    try simp only [zaU, zaK, ↓reduceIte, zac]
    obtain rfl := zah hy12; refine zai ?_; refine zan fun _ z => ?_; simp only [go_sem, seval, e23]; apply z; refine zby (v10.e_ != (0 : Int)) (fun c30 => ?_) (fun c30 => ?_)
    ·replace h := zaE c30 h; refine zai ?_; refine zaP (tbl := [0, 0, 2, 6, 14, 0, 32, 96, 224, 1, 543, 2047]) (ord := [(0, 0), (9, 0), (1, 0), (2, 0), (3, 0), (4, 1), (5, 0), (6, 0), (7, 0), (8, 1), (10, 0), (11, 0)]) 40 rfl (by kernel_rfl) (by kernel_rfl) fun _ z => ?_; simp only [go_sem, seval, c30, e23]; apply z; simp only [zac]; refine zar ?_
     try simp only [zax]
     obtain rfl := zah h; refine ⟨by simp, ?_⟩; simp only [go_sem, seval, zam, za4, e23]
    ·replace h := zaF c30 h; refine zaw ?_
     try simp only [zac]
     refine zan fun _ z => ?_; simp only [go_sem, seval, c30, e23]; apply z; refine zar ?_; obtain rfl := zah h; refine ⟨by simp, ?_⟩; simp only [go_sem, seval, zam, e23]
end Go.Proofs.YtldnmmnnohnpkaaDoor.Abs
