/-
  ParseLevels: the plain law: with any two numbers the model says true. By computing: in the kernel, over all 169 pairs.
-/
import Derived.Test.YtolhahlnccekcaaDoorGPm
import Derived.KernelRfl
namespace Go.Proofs.YtolhahlnccekcaaDoor.Abs
set_option maxRecDepth 100000
theorem anchor10 : remontoirelaw10_anchor 30 = some true := by kernel_rfl
theorem levels_all : ((List.range 13).all fun i => (List.range 13).all fun j => remontoirelaw10_ParseLevels 30 (i : Nat) (j : Nat) == some true) = true := by kernel_rfl
theorem levels_true (a0 a1 : Int) : remontoirelaw10_ParseLevels 30 a0 a1 = some true := by
  by_cases h : 0 ≤ a0 ∧ a0 ≤ 12 ∧ 0 ≤ a1 ∧ a1 ≤ 12
  · obtain ⟨h1, h2, h3, h4⟩ := h
    have k := levels_all
    rw [List.all_eq_true] at k
    have k1 := k a0.toNat (List.mem_range.2 (by omega))
    rw [List.all_eq_true] at k1
    have k2 := k1 a1.toNat (List.mem_range.2 (by omega))
    rw [Int.toNat_of_nonneg h1, Int.toNat_of_nonneg h3] at k2
    exact eq_of_beq k2
  · unfold remontoirelaw10_ParseLevels
    rw [anchor10, Option.bind_some, if_neg (by decide)]
    have : (if (decide (a0 < (0 : Int))) = true then
        some true
      else
        if (decide ((12 : Int) < a0)) = true then
          some true
        else
          if (decide (a1 < (0 : Int))) = true then
            some true
          else
            some (decide ((12 : Int) < a1))) = some true := by
      by_cases c1 : a0 < 0
      · simp [c1]
      by_cases c2 : 12 < a0
      · simp [c2]
      by_cases c3 : a1 < 0
      · simp [c3]
      simp [c1, c2, c3]
      omega
    rw [this, Option.bind_some, if_pos rfl]
end Go.Proofs.YtolhahlnccekcaaDoor.Abs
