/-
  ParseTrees, the lexer: the document's tokens are the program's.
-/
import Derived.Test.YtolhahlnccekcaaDoorPtTot
import Derived.KernelRfl
namespace Go.Proofs.YtolhahlnccekcaaDoor.Abs
open Go.RowKit
set_option linter.unusedVariables false
set_option linter.unusedSimpArgs false
theorem wrapu64 {n : Int} (h1 : 0 ≤ n) (h2 : n ≤ 18446744073709551615) : IntKind.u64.wrap n = n := by
  unfold IntKind.wrap
  simp only [IntKind.signed, IntKind.bits, Bool.false_and, Bool.false_eq_true, if_false]
  exact Int.emod_eq_of_lt h1 (by omega)
theorem letter_eq (a : Int) : remontoireref09_letter a = some (isLet a) := by
  unfold remontoireref09_letter isLet
  cases decide (97 ≤ a) <;> cases decide (a ≤ 122) <;> simp
theorem digit_eq (a : Int) : remontoireref09_digit a = some (isDig a) := by
  unfold remontoireref09_digit isDig
  cases decide (48 ≤ a) <;> simp
/-- what a digit of base 16 counts; -1: it is none -/
def hexv (b : UInt8) : Int := if isDig b.toNat then b.toNat - 48 else if 97 ≤ b.toNat ∧ b.toNat ≤ 102 then b.toNat - 87 else -1
def hexP (b : UInt8) : Bool := Lib.indexByte (([48, 49, 50, 51, 52, 53, 54, 55, 56, 57, 97, 98, 99, 100, 101, 102] : Str).take (16 : Int).toNat) b == hexv b
def decP (b : UInt8) : Bool := Lib.indexByte (([48, 49, 50, 51, 52, 53, 54, 55, 56, 57, 97, 98, 99, 100, 101, 102] : Str).take (10 : Int).toNat) b == (if isDig b.toNat then (b.toNat : Int) - 48 else -1)
theorem hexP_all : ((List.range 256).all fun i => hexP (UInt8.ofNat i)) = true := by decide +kernel
theorem decP_all : ((List.range 256).all fun i => decP (UInt8.ofNat i)) = true := by decide +kernel
theorem u8_all {p : UInt8 → Bool} (h : ((List.range 256).all fun i => p (UInt8.ofNat i)) = true) (b : UInt8) : p b = true := by
  have := List.all_eq_true.1 h b.toNat (List.mem_range.2 b.toNat_lt)
  rwa [UInt8.ofNat_toNat] at this
theorem hexv_eq (b : UInt8) : Lib.indexByte (([48, 49, 50, 51, 52, 53, 54, 55, 56, 57, 97, 98, 99, 100, 101, 102] : Str).take (16 : Int).toNat) (b.toNat : Int).toNat.toUInt8 = hexv b := by
  have h : hexP b = true := u8_all (p := hexP) hexP_all b
  rw [Int.toNat_natCast, Nat.toUInt8, UInt8.ofNat_toNat]
  unfold hexP at h
  exact eq_of_beq h
theorem decv_eq (b : UInt8) : Lib.indexByte (([48, 49, 50, 51, 52, 53, 54, 55, 56, 57, 97, 98, 99, 100, 101, 102] : Str).take (10 : Int).toNat) (b.toNat : Int).toNat.toUInt8 = (if isDig b.toNat then (b.toNat : Int) - 48 else -1) := by
  have h : decP b = true := u8_all (p := decP) decP_all b
  rw [Int.toNat_natCast, Nat.toUInt8, UInt8.ofNat_toNat]
  unfold decP at h
  exact eq_of_beq h
theorem skip_n2 (s : Str) (hs : s.length < 4611686018427387904) : ∀ (c : Nat) (v : Nat), s.length < v + c → v ≤ s.length → Tot (remontoireref09_blanks_l2 s c v) fun r => r = if Lib.indexByte (s.drop v) 10 < 0 then (s.length : Int) else v + Lib.indexByte (s.drop v) 10 := by
  intro c
  induction c with
  | zero => intro v h1 h2; omega
  | succ c ih =>
    intro v h1 h2
    unfold remontoireref09_blanks_l2
    by_cases h4 : v < s.length
    · have hd : s.drop v = s[v] :: s.drop (v + 1) := List.drop_eq_getElem_cons h4
      rw [if_pos (by simpa using h4)]
      have hi : idxL s (v : Int) = some s[v] := by rw [idxL_nat]; exact List.getElem?_eq_getElem h4
      rw [hi, Option.bind_some, Option.bind_some]
      by_cases h5 : s[v] = 10
      · rw [if_neg (by simp [h5])]
        refine .some ?_
        rw [hd, h5]
        simp [Lib.indexByte]
      · have h6 : s[v].toNat ≠ 10 := fun e => h5 (UInt8.toNat_inj.1 (by simpa using e))
        rw [if_pos (by simp; omega), wrap64 (by omega) (by omega)]
        refine (ih (v + 1) (by omega) (by omega)).mono fun r hr => ?_
        rw [hr, hd]
        have h7 : (s[v] == (10 : UInt8)) = false := by simpa using h5
        simp only [Lib.indexByte, h7, Bool.false_eq_true, if_false, beq_iff_eq]
        have h8 := Lib.indexByte_ge (s.drop (v + 1)) 10
        by_cases h9 : Lib.indexByte (s.drop (v + 1)) 10 = -1
        · simp [h9]
        · rw [if_neg h9, if_neg (by omega), if_neg (by omega)]
          omega
    · rw [if_neg (by simpa using h4), Option.bind_some, if_neg (by decide)]
      refine .some ?_
      have : v = s.length := by omega
      subst this
      simp [Lib.indexByte]
theorem skip_sim {n : Nat} (s : Str) (hs : s.length < 4611686018427387904) (hn : s.length < n) : ∀ (c c' : Nat) (v : Nat), s.length < v + c → s.length < v + c' → v ≤ s.length → ∃ k, Tot (lex_skip_l1 s c v) (fun r => r = .inl k ∨ r = .inr k) ∧ Tot (remontoireref09_blanks_l1 n s c' v) (fun r => r = .inl k ∨ r = .inr k) := by
  intro c
  induction c with
  | zero => intro c' v h1 h1' h2; omega
  | succ c ih =>
    intro c' v h1 h1' h2
    cases c' with
    | zero => omega
    | succ c' =>
    unfold lex_skip_l1 remontoireref09_blanks_l1
    by_cases h4 : v < s.length
    · rw [if_pos (by simpa using h4), if_pos (by simpa using h4)]
      have hi : idxL s (v : Int) = some s[v] := by rw [idxL_nat]; exact List.getElem?_eq_getElem h4
      have hd : s.drop v = s[v] :: s.drop (v + 1) := List.drop_eq_getElem_cons h4
      rw [hi, Option.bind_some, Option.bind_some, blank_eq, Option.bind_some]
      have hb : (if ((s[v].toNat : Int) == (32 : Int)) = true then some true else if ((s[v].toNat : Int) == (9 : Int)) = true then some true else if ((s[v].toNat : Int) == (13 : Int)) = true then some true else some ((s[v].toNat : Int) == (10 : Int))) = some (isBl s[v].toNat) := by
        unfold isBl
        cases (s[v].toNat : Int) == 32 <;> cases (s[v].toNat : Int) == 9 <;> cases (s[v].toNat : Int) == 13 <;> rfl
      rw [hb, Option.bind_some]
      by_cases h5 : isBl s[v].toNat = true
      · rw [if_pos h5, if_pos h5, wrap64 (by omega) (by omega)]
        exact ih c' (v + 1) (by omega) (by omega) (by omega)
      · rw [if_neg h5, if_neg h5, need_of ⟨by omega, by omega⟩, Int.toNat_natCast, strings_HasPrefix_eq, Option.bind_some, wrap64 (by omega) (by omega)]
        -- is it '//' ?
        by_cases h6 : (s.drop v).take 2 = ([47, 47] : Str)
        · have hl : v + 1 < s.length := by
            have := congrArg List.length h6
            rw [List.length_take, List.length_drop] at this
            simp only [List.length_cons, List.length_nil] at this
            omega
          have hd2 : s.drop (v + 1) = s[v + 1] :: s.drop (v + 1 + 1) := List.drop_eq_getElem_cons hl
          rw [hd, hd2] at h6
          simp only [List.take_succ_cons, List.take_zero, List.cons.injEq, and_true] at h6
          have hi2 : idxL s ((v : Int) + 1) = some s[v + 1] := by rw [show (v : Int) + 1 = ((v + 1 : Nat) : Int) by omega, idxL_nat]; exact List.getElem?_eq_getElem hl
          rw [if_pos (by simp [hd, hd2, h6]), if_neg (by simp; omega), h6.1, if_neg (by decide), hi2, Option.bind_some, h6.2, Option.bind_some, if_neg (by decide), need_of ⟨by omega, by omega⟩, IndexByte_eq, Option.bind_some]
          obtain ⟨r, er, hr⟩ := skip_n2 s hs n v (by omega) (by omega)
          rw [er, Option.bind_some, hr]
          have h8 := Lib.indexByte_ge (s.drop v) 10
          have hc : (10 : Int).toNat.toUInt8 = (10 : UInt8) := rfl
          rw [hc]
          by_cases h9 : Lib.indexByte (s.drop v) 10 < 0
          · rw [if_pos (by simpa using h9), if_pos h9]
            refine ⟨s.length, .some (.inr rfl), ?_⟩
            cases c' with
            | zero => omega
            | succ c' =>
              unfold remontoireref09_blanks_l1
              rw [if_neg (by simp)]
              exact .some (.inl rfl)
          · rw [if_neg (by simpa using h9), if_neg h9]
            obtain ⟨o, ho⟩ := Int.eq_ofNat_of_zero_le (Int.not_lt.1 h9)
            obtain ⟨h10, _⟩ := Lib.indexByte_some ho
            have h11 : o < (s.drop v).length := (List.getElem?_eq_some_iff.1 h10).1
            rw [List.length_drop] at h11
            have h12 : o ≠ 0 := by
              rintro rfl
              rw [hd] at h10
              simp only [List.getElem?_cons_zero, Option.some.injEq] at h10
              rw [h6.1] at h10
              revert h10; decide
            rw [ho, wrap64 (by omega) (by omega)]
            exact ih c' (v + o) (by omega) (by omega) (by omega)
        · rw [if_neg (by simpa using h6)]
          refine ⟨v, .some (.inr rfl), ?_⟩
          have hy : (if (decide ((s.length : Int) ≤ (v : Int) + 1)) = true then some true else if ((s[v].toNat : Int) != (47 : Int)) = true then some true else (idxL s ((v : Int) + 1)).bind fun x25 => some ((x25.toNat : Int) != (47 : Int))) = some true := by
            by_cases hl : v + 1 < s.length
            · have hd2 : s.drop (v + 1) = s[v + 1] :: s.drop (v + 1 + 1) := List.drop_eq_getElem_cons hl
              have hi2 : idxL s ((v : Int) + 1) = some s[v + 1] := by rw [show (v : Int) + 1 = ((v + 1 : Nat) : Int) by omega, idxL_nat]; exact List.getElem?_eq_getElem hl
              rw [if_neg (by simp; omega)]
              by_cases h7 : s[v] = 47
              · rw [h7, if_neg (by decide), hi2, Option.bind_some]
                rw [hd, hd2] at h6
                simp only [List.take_succ_cons, List.take_zero, List.cons.injEq, and_true, h7, true_and] at h6
                have : s[v + 1].toNat ≠ 47 := fun e => h6 (UInt8.toNat_inj.1 (by simpa using e))
                simp; omega
              · have : s[v].toNat ≠ 47 := fun e => h7 (UInt8.toNat_inj.1 (by simpa using e))
                rw [if_pos (by simp; omega)]
            · rw [if_pos (by simp; omega)]
          rw [hy, Option.bind_some, if_pos rfl]
          exact .some (.inr rfl)
    · rw [if_neg (by simpa using h4), if_neg (by simpa using h4)]
      exact ⟨v, .some (.inl rfl), .some (.inl rfl)⟩
theorem blanks_eq {n : Nat} {s : Str} {v : Nat} (hs : s.length < 4611686018427387904) (hn : s.length < n) (hv : v ≤ s.length) : remontoireref09_blanks n s v = lex_skip n s v := by
  obtain ⟨k, ⟨r, e, hr⟩, ⟨r', e', hr'⟩⟩ := skip_sim s hs hn n n v (by omega) (by omega) hv
  unfold remontoireref09_blanks lex_skip
  rw [e, e', Option.bind_some, Option.bind_some]
  rcases hr with rfl | rfl <;> rcases hr' with rfl | rfl <;> rfl
end Go.Proofs.YtolhahlnccekcaaDoor.Abs
