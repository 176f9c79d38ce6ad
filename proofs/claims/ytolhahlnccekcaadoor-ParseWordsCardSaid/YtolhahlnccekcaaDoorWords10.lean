/-
  ParseWords: the plain law.
-/
import Derived.Test.YtolhahlnccekcaaDoorPar2
import Derived.KernelRfl
namespace Go.Proofs.YtolhahlnccekcaaDoor.Abs
set_option maxRecDepth 100000
theorem anchor10b : remontoirelaw10_anchor 4000 = some true := by kernel_rfl
theorem refWord_l1 (s : Str) : ∀ (c : Nat) (v : Nat), 13 < v + c → v ≤ 13 → (∀ y ∈ remontoireref10_Word_k1.take v, decide (s = y) = false) →
    Tot (remontoireref10_Word_l1 s c v) fun r => match r with | .inl _ => (remontoireref10_Word_k1.any fun y => decide (s = y)) = false | .inr k => k = true ∧ (remontoireref10_Word_k1.any fun y => decide (s = y)) = true := by
  intro c
  induction c with
  | zero => intro v h1 h2; omega
  | succ c ih =>
    intro v h1 h2 h3
    have hl : remontoireref10_Word_k1.length = 13 := rfl
    unfold remontoireref10_Word_l1
    refine Tot.iteb (fun h4 => ?_) (fun h4 => ?_)
    · simp only [decide_eq_true_eq] at h4
      refine Tot.bind' (Tot.idx (by omega) (by omega) fun x hx => ?_)
      rw [Int.toNat_natCast] at hx
      refine Tot.iteb (fun h5 => .some ⟨rfl, ?_⟩) (fun h5 => ?_)
      · exact List.any_eq_true.2 ⟨x, List.mem_of_getElem? hx, h5⟩
      · rw [wrap64 (by omega) (by omega)]
        refine ih (v + 1) (by omega) (by omega) ?_
        rw [take_step' hx]
        intro y hy
        rcases List.mem_append.1 hy with hy | hy
        · exact h3 y hy
        · rw [List.mem_singleton.1 hy]; exact h5
    · refine .some ?_
      simp only [decide_eq_false_iff_not] at h4
      rw [List.take_of_length_le (by omega)] at h3
      exact List.any_eq_false.2 fun y hy => by simp [h3 y hy]
theorem refWord_eq {n : Nat} {s : Str} (hn : 13 < n) : remontoireref10_Word n s = some (isWord s) := by
  unfold remontoireref10_Word
  obtain ⟨r, e, hr⟩ := refWord_l1 s n 0 (by omega) (by omega) (by simp)
  rw [show ((0 : Nat) : Int) = 0 from rfl] at e
  rw [e, Option.bind_some]
  have h : (remontoireref10_Word_k1.any fun y => decide (s = y)) = isWord s := rfl
  rw [h] at hr
  cases r with
  | inl _ => rw [hr]; rfl
  | inr k => rw [hr.1, hr.2]; rfl
theorem words_all : (g_parse_words.all fun s => remontoirelaw10_ParseWords 4000 s == some true) = true := by kernel_rfl
theorem words_true (s : Str) : remontoirelaw10_ParseWords 4000 s = some true := by
  by_cases hw : isWord s = true
  · unfold isWord at hw
    obtain ⟨y, h1, h2⟩ := List.any_eq_true.1 hw
    simp only [decide_eq_true_eq] at h2
    subst h2
    exact eq_of_beq (List.all_eq_true.1 words_all s h1)
  · unfold remontoirelaw10_ParseWords
    rw [anchor10b, Option.bind_some, if_neg (by decide)]
    by_cases h : 100 < s.length
    · rw [if_pos (by simp; omega), Option.bind_some, if_pos rfl]
      simp; omega
    · rw [if_neg (by simp; omega), Word_eq (by decide), Option.bind_some, refWord_eq (by decide), Option.bind_some, Option.bind_some, if_neg (by simp)]
      rw [need_of (by simp; omega), need_of (by simp; omega), need_of (by simp; omega)]
      obtain ⟨r, e, _⟩ := Parse_tot (n := 4000) (s := (([102, 110, 32] : Str) ++ s) ++ ([40, 41, 123, 125] : Str)) (by simp; omega)
      rw [e, Option.bind_some, Option.bind_some, if_pos (by simpa using hw)]; rfl
end Go.Proofs.YtolhahlnccekcaaDoor.Abs
