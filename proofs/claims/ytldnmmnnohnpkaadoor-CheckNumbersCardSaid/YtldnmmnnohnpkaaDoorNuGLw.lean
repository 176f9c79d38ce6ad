/-
 Walks: each function does what its model says. Written by a program of mine (gen.py) for this claim.
-/
import Derived.Test.YtldnmmnnohnpkaaDoorNuS3
import Derived.Test.YtldnmmnnohnpkaaDoorNuH8
import Derived.Test.YtldnmmnnohnpkaaDoorNuGLm
namespace Go.Proofs.YtldnmmnnohnpkaaDoor.Abs
open Go.RowKit
set_option linter.unusedVariables false
set_option maxRecDepth 10000
def zgy (f : Option Bool) : Prop := ∀ r, f = some r -> ∀ (q : Pa) (m : M) (vs : List V), vs.map V.weak1 = [] /\ (m.hp = fun _ => none) /\ m.gl 0 = .eptr [(cA zat.C zaR)] 0 0 /\ m.gl 1 = .eptr [(cA cS zbh)] 0 0 /\ m.gl 2 = .eptr [(cA cS zaI)] 0 0 /\ m.gl 4 = .eptr [(cA (cA cS) za6)] 0 0 -> SC Tryd.prog 5 vs q m (fun v m' => v = .lit (.bool r) /\ m' = m)
theorem zgg (n : Nat) : zgy (zdg n) := by
 rintro r h q m vs ⟨hv, hgh, hg0, hg1, hg2, hg4⟩; refine SC.weak ?_; rw [hv]; refine SC_w Tryd.func5 rfl (fun xs w => Tryd.call5 xs w) Tryd.ntmps5 (by kernel_rfl) Tryd.results5 ?_; unfold zdg at h; refine zan fun _ z => ?_; simp only [go_sem]; apply z; refine zai ?_; obtain ⟨x1, h3, h⟩ := bind_some h; refine zao fun _ z => ?_; simp only [go_sem, seval]; refine SC.by_ (zik n ([101, 120, 112, 111, 114, 116, 32, 102, 110, 32, 102, 40, 112, 58, 32, 112, 117, 98, 44, 32, 120, 58, 32, 117, 51, 50, 41, 32, 45, 62, 32, 117, 51, 50, 32, 123, 32, 114, 101, 116, 117, 114, 110, 32, 120, 32, 43, 32, 112, 59, 32, 125] : Str) _ h3 _ _ _ (by simp only [go_sem, UInt8.reduceToNat, hgh, hg0, hg1, hg2, hg4])) ?_; simp only [go_sem, seval]; apply z; refine zai ?_; obtain ⟨y4, hy4, h⟩ := bind_some h; refine zbe 50 [] [] rfl (fun E' m' => E' 0 = .lit (.bool y4) /\ m'.gl = m.gl /\ m'.hp = m.hp /\ m.back q m' = m) ?_ ?_
 ·rcases zbb (x1.2.1 == (0 : Int)) with c5 | c5
  ·replace hy4 := zaE c5 hy4
   rcases zbb ((x1.1.zaT.length : Int) == (1 : Int)) with c6 | c6
   ·replace hy4 := zaE c6 hy4; obtain ⟨x7, h11, hy4⟩ := bind_some hy4; obtain ⟨f8, f9, f10⟩ := zaA h11; have f12 : x1.1.zaT[0]? = some x7 := f10
    rcases zbb ((x7.zbH.length : Int) == (2 : Int)) with c13 | c13
    ·replace hy4 := zaE c13 hy4
     rcases zbb ((x7.zcY.length : Int) == (1 : Int)) with c14 | c14
     ·replace hy4 := zaE c14 hy4; obtain ⟨x15, h19, hy4⟩ := bind_some hy4; obtain ⟨f16, f17, f18⟩ := zaA h19; have f20 : x7.zcY[0]? = some x15 := f18; refine zao fun _ z => ?_; simp only [go_sem, seval, c5, c6, f8, f9, f12, c13, c14, f17, f20]; apply z; obtain rfl := zah hy4; refine ⟨by decide, ?_⟩; simp only [go_sem, ↓reduceIte, zam, zaj, hgh]
     ·replace hy4 := zaF c14 hy4; refine zao fun _ z => ?_; simp only [go_sem, seval, c5, c6, f8, f9, f12, c13, c14]; apply z; obtain rfl := zah hy4; refine ⟨by decide, ?_⟩; simp only [go_sem, ↓reduceIte, zam, zaj, hgh]
    ·replace hy4 := zaF c13 hy4; refine zao fun _ z => ?_; simp only [go_sem, seval, c5, c6, f8, f9, f12, c13]; apply z; obtain rfl := zah hy4; refine ⟨by decide, ?_⟩; simp only [go_sem, ↓reduceIte, zam, zaj, hgh]
   ·replace hy4 := zaF c6 hy4; refine zao fun _ z => ?_; simp only [go_sem, seval, c5, c6]; apply z; obtain rfl := zah hy4; refine ⟨by decide, ?_⟩; simp only [go_sem, ↓reduceIte, zam, zaj, hgh]
  ·replace hy4 := zaF c5 hy4; refine zao fun _ z => ?_; simp only [go_sem, seval, c5]; apply z; obtain rfl := zah hy4; refine ⟨by decide, ?_⟩; simp only [go_sem, ↓reduceIte, zam, zaj, hgh]
 ·intro E21 m22 e23 _; simp only [zac]; refine zar ?_; obtain rfl := zah h; refine ⟨by simp, ?_⟩; simp only [go_sem, e23]
def zgx (f : Int -> Option Str) : Prop := ∀ a0 r, f a0 = some r -> ∀ (q : Pa) (m : M) (vs : List V), vs.map V.weak1 = [.lit (.int .u32 a0)] -> SC Tryd.prog 7 vs q m (fun v m' => v = .lit (.string (bs r)) /\ m' = m)
theorem zeA (n : Nat) : zgx (zb2 n) := by
 intro a0 r h q m vs hv; refine SC.weak ?_; rw [hv]; refine SC_w Tryd.func7 rfl (fun xs w => Tryd.call7 xs w) Tryd.ntmps7 (by kernel_rfl) Tryd.results7 ?_; unfold zb2 at h; refine zan fun _ z => ?_; simp only [go_sem]; apply z; refine zan fun _ z => ?_; simp only [go_sem, Nat.reduceAdd]; apply z; refine zaH ?_; obtain ⟨y4, hy4, h⟩ := bind_some h; refine zbm [] [] rfl (fun c E' m' => ∃ v2 v3, za3 c v2 v3 = some y4 /\ E' 0 = .lit (.int .u32 v2) /\ E' 3 = .lit (.string (bs v3)) /\ m'.gl = m.gl /\ m.back q m' = m) n ⟨a0, ([] : Str), hy4, ?_⟩ ?_
 ·simp only [go_sem, seval, zaj]
 rintro i1 c5 E6 m7 ⟨v2, v3, hy4, e8⟩ _
 rcases c5 with _ | c5
 ·exact absurd hy4 (by rw [za3]; exact fun e => nomatch e)
 rw [za3] at hy4; refine zaH ?_; refine zai ?_; obtain ⟨f9, hy4⟩ := zaO hy4; have f10 : (encS (IntKind.i32.wrap (IntKind.u32.wrap ((48 : Int) + (v2.tmod (10 : Int)))))).length + v3.length <= 4611686018427387904 := by first | omega | (simp only [List.length_append, List.length_cons, List.length_nil] at f9 ⊢; omega)
 refine zao fun _ z => ?_; simp only [go_sem, seval, (by decide : (10 : Int) ≠ (0 : Int)), f9, e8]; apply z; refine zan fun _ z => ?_; simp only [go_sem, seval, (by decide : (10 : Int) ≠ (0 : Int)), e8]; apply z; refine zan fun _ z => ?_; simp only [go_sem, seval]; apply z; refine zcg ((IntKind.u32.wrap (v2.tdiv (10 : Int))) == (0 : Int)) (by simp only [go_sem, ↓reduceIte]) (fun c11 => ?_) (fun c11 => ?_)
 ·replace hy4 := zaE c11 hy4; refine zan fun _ z => ?_; simp only [go_sem, seval, c11]; apply z; refine zar ?_
  try simp only [zax, zaL]
  obtain rfl := zah hy4; obtain rfl := zah h; refine ⟨by simp, ?_⟩; simp only [go_sem, ↓reduceIte, e8]
 ·replace hy4 := zaF c11 hy4; refine zaw ?_
  try simp only [zac, zap]
  refine ⟨c5, Nat.lt_succ_self _, (IntKind.u32.wrap (v2.tdiv (10 : Int))), ((encS (IntKind.i32.wrap (IntKind.u32.wrap ((48 : Int) + (v2.tmod (10 : Int)))))) ++ v3), hy4, ?_⟩; simp only [go_sem, seval, c11, e8]
def zfl (f : Int -> Int -> Option Bool) : Prop := ∀ a0 a1 r, f a0 a1 = some r -> ∀ (q : Pa) (m : M) (vs : List V), vs.map V.weak1 = [.lit (.int .u32 a0), .lit (.int .u32 a1)] /\ (m.hp = fun _ => none) /\ m.gl 0 = .eptr [(cA zat.C zaR)] 0 0 /\ m.gl 1 = .eptr [(cA cS zbh)] 0 0 /\ m.gl 2 = .eptr [(cA cS zaI)] 0 0 /\ m.gl 4 = .eptr [(cA (cA cS) za6)] 0 0 -> SC Tryd.prog 3 vs q m (fun v m' => v = .lit (.bool r) /\ m' = m)
theorem zfd (n : Nat) : zfl (zbU n) := by
 rintro a0 a1 r h q m vs ⟨hv, hgh, hg0, hg1, hg2, hg4⟩; refine SC.weak ?_; rw [hv]; refine SC_w Tryd.func3 rfl (fun xs w => Tryd.call3 xs w) Tryd.ntmps3 (by kernel_rfl) Tryd.results3 ?_; unfold zbU at h; refine zan fun _ z => ?_; simp only [go_sem]; apply z; refine zai ?_; refine zai ?_; obtain ⟨x1, h2, h⟩ := bind_some h; refine zao fun _ z => ?_; simp only [go_sem]; refine SC.by_ (zgg n _ h2 _ _ _ (by simp only [go_sem, hgh, hg0, hg1, hg2, hg4])) ?_; simp only [go_sem, seval]; apply z; refine zby (!x1) (fun c3 => ?_) (fun c3 => ?_)
 ·replace h := zaE c3 h; refine zan fun _ z => ?_; simp only [go_sem, Nat.reduceAdd, c3]; apply z; refine zar ?_
  try simp only [zax]
  obtain rfl := zah h; refine ⟨by simp, ?_⟩; simp only [go_sem, ↓reduceIte, zaj]
 ·replace h := zaF c3 h; refine zaw ?_
  try simp only [zac]
  refine zai ?_; obtain ⟨x4, h8, h⟩ := bind_some h; obtain ⟨f9, h⟩ := zaO h; have f10 : 21 + x4.length <= 4611686018427387904 := by first | omega | (simp only [List.length_append, List.length_cons, List.length_nil] at f9 ⊢; omega)
  obtain ⟨f11, h⟩ := zaO h; have f12 : x4.length + 1 + 1 + 1 + 1 + 1 + 1 + 1 + 1 + 1 + 1 + 1 + 1 + 1 + 1 + 1 + 1 + 1 + 1 + 1 + 1 + 1 + 5 <= 4611686018427387904 := by first | omega | (simp only [List.length_append, List.length_cons, List.length_nil] at f11 ⊢; omega)
  have f13 : x4.length <= 4611686018427387878 := by first | omega | (simp only [List.length_append, List.length_cons, List.length_nil] at f11 ⊢; omega)
  obtain ⟨x5, h14, h⟩ := bind_some h; obtain ⟨f15, h⟩ := zaO h; have f16 : x4.length + 5 + 1 + 1 + 1 + 1 + 1 + 1 + 1 + 1 + 1 + 1 + 1 + 1 + 1 + 1 + 1 + 1 + 1 + 1 + 1 + 1 + 1 + x5.length <= 4611686018427387904 := by first | omega | (simp only [List.length_append, List.length_cons, List.length_nil] at f15 ⊢; omega)
  obtain ⟨f17, h⟩ := zaO h; have f18 : x4.length + 5 + x5.length + 1 + 1 + 1 + 1 + 1 + 1 + 1 + 1 + 1 + 1 + 1 + 1 + 1 + 1 + 1 + 1 + 1 + 1 + 1 + 1 + 1 + 8 <= 4611686018427387904 := by first | omega | (simp only [List.length_append, List.length_cons, List.length_nil] at f17 ⊢; omega)
  have f19 : x4.length + 5 + x5.length <= 4611686018427387875 := by first | omega | (simp only [List.length_append, List.length_cons, List.length_nil] at f17 ⊢; omega)
  obtain ⟨f20, h⟩ := zaO h; have f21 : x4.length + 5 + x5.length + 8 + 1 + 1 + 1 + 1 + 1 + 1 + 1 + 1 + 1 + 1 + 1 + 1 + 1 + 1 + 1 + 1 + 1 + 1 + 1 + 1 + 1 <= 4611686018427387904 := by first | omega | (simp only [List.length_append, List.length_cons, List.length_nil] at f20 ⊢; omega)
  have f22 : x4.length + 5 + x5.length <= 4611686018427387875 := by first | omega | (simp only [List.length_append, List.length_cons, List.length_nil] at f20 ⊢; omega)
  obtain ⟨x6, h23, h⟩ := bind_some h; refine zao fun _ z => ?_; simp only [go_sem, seval, c3]; refine SC.by_ (zeA n a0 _ h8 _ _ _ (by simp only [go_sem])) ?_; simp only [go_sem, seval, f10, f12]; refine SC.by_ (zeA n a1 _ h14 _ _ _ (by simp only [go_sem])) ?_; simp only [go_sem, seval, UInt8.reduceToNat, f16, f18]; refine SC.by_ (zik n ((((([102, 110, 32, 102, 40, 120, 58, 32, 117, 51, 50, 41, 32, 123, 32, 97, 114, 114, 32, 97, 91] : Str) ++ x4) ++ ([93, 59, 32, 97, 91] : Str)) ++ x5) ++ ([93, 32, 61, 32, 120, 59, 32, 125] : Str)) _ h23 _ _ _ (by simp only [go_sem, UInt8.reduceToNat, hgh, hg0, hg1, hg2, hg4])) ?_; simp only [go_sem, seval]; apply z; refine zai ?_; refine zai ?_; obtain ⟨y24, hy24, h⟩ := bind_some h; refine zbe 41 [] [] rfl (fun E' m' => E' 0 = .lit (.int .u32 a0) /\ E' 1 = .lit (.int .u32 a1) /\ E' 6 = .lit (.int .i64 x6.2.1) /\ E' 43 = .lit (.bool y24) /\ m'.gl = m.gl /\ m'.hp = m.hp /\ m.back q m' = m) ?_ ?_
  ·rcases zbb (decide ((1 : Int) <= a0)) with c25 | c25
   ·replace hy24 := zaE c25 hy24
    rcases zbb (decide (a0 <= (255 : Int))) with c26 | c26
    ·replace hy24 := zaE c26 hy24; refine zao fun _ z => ?_; simp only [go_sem, seval, c25, c26]; apply z; obtain rfl := zah hy24; refine ⟨by decide, ?_⟩; simp only [go_sem, seval, zam, zaj, hgh]
    ·replace hy24 := zaF c26 hy24
     rcases zbb (decide ((256 : Int) <= a0)) with c27 | c27
     ·replace hy24 := zaE c27 hy24
      rcases zbb (decide (a0 <= (1024 : Int))) with c28 | c28
      ·replace hy24 := zaE c28 hy24; refine zao fun _ z => ?_; simp only [go_sem, seval, c25, c26, c27, c28, (by decide : (4 : Int) ≠ (0 : Int))]; apply z; obtain rfl := zah hy24; refine ⟨by decide, ?_⟩; simp only [go_sem, seval, zam, zaj, hgh]
      ·replace hy24 := zaF c28 hy24; refine zao fun _ z => ?_; simp only [go_sem, seval, c25, c26, c27, c28]; apply z; obtain rfl := zah hy24; refine ⟨by decide, ?_⟩; simp only [go_sem, seval, zam, zaj, hgh]
     ·replace hy24 := zaF c27 hy24; refine zao fun _ z => ?_; simp only [go_sem, seval, c25, c26, c27]; apply z; obtain rfl := zah hy24; refine ⟨by decide, ?_⟩; simp only [go_sem, seval, zam, zaj, hgh]
   ·replace hy24 := zaF c25 hy24
    rcases zbb (decide ((256 : Int) <= a0)) with c29 | c29
    ·replace hy24 := zaE c29 hy24
     rcases zbb (decide (a0 <= (1024 : Int))) with c30 | c30
     ·replace hy24 := zaE c30 hy24; refine zao fun _ z => ?_; simp only [go_sem, seval, c25, c29, c30, (by decide : (4 : Int) ≠ (0 : Int))]; apply z; obtain rfl := zah hy24; refine ⟨by decide, ?_⟩; simp only [go_sem, seval, zam, zaj, hgh]
     ·replace hy24 := zaF c30 hy24; refine zao fun _ z => ?_; simp only [go_sem, seval, c25, c29, c30]; apply z; obtain rfl := zah hy24; refine ⟨by decide, ?_⟩; simp only [go_sem, seval, zam, zaj, hgh]
    ·replace hy24 := zaF c29 hy24; refine zao fun _ z => ?_; simp only [go_sem, seval, c25, c29]; apply z; obtain rfl := zah hy24; refine ⟨by decide, ?_⟩; simp only [go_sem, seval, zam, zaj, hgh]
  ·intro E31 m32 e33 _; simp only [zac]; refine zcg y24 (by simp only [go_sem, e33]) (fun c34 => ?_) (fun c34 => ?_)
   ·replace h := zaE c34 h; refine zan fun _ z => ?_; simp only [go_sem, seval, e33]; apply z; refine zar ?_
    try simp only [zax]
    obtain rfl := zah h; refine ⟨by simp, ?_⟩; simp only [go_sem, ↓reduceIte, e33]
   ·replace h := zaF c34 h; refine zaw ?_
    try simp only [zac]
    refine zai ?_; refine zan fun _ z => ?_; simp only [go_sem, seval, e33]; apply z; refine zby (decide (a0 <= a1)) (fun c35 => ?_) (fun c35 => ?_)
    ·replace h := zaE c35 h; refine zan fun _ z => ?_; simp only [go_sem, seval, c35, e33]; apply z; refine zar ?_
     try simp only [zax]
     obtain rfl := zah h; refine ⟨by simp, ?_⟩; simp only [go_sem, ↓reduceIte, e33]
    ·replace h := zaF c35 h; refine zaw ?_
     try simp only [zac]
     refine zan fun _ z => ?_; simp only [go_sem, seval, c35, e33]; apply z; refine zar ?_; obtain rfl := zah h; refine ⟨by simp, ?_⟩; simp only [go_sem, ↓reduceIte, e33]
end Go.Proofs.YtldnmmnnohnpkaaDoor.Abs
