/-
  Derivations moved: other offsets, and another rest.
-/
import Derived.Test.YtolhahlnccekcaaDoorPwDer
namespace Go.Proofs.YtolhahlnccekcaaDoor.Abs
open Go.RowKit
set_option linter.unusedVariables false
set_option linter.unusedSimpArgs false
mutual
def shN (d : Int) : Nd → Nd
  | ⟨k, a, t, n, l⟩ => ⟨k, a + d, t, n, shL d l⟩
def shL (d : Int) : List Nd → List Nd
  | [] => []
  | x :: l => shN d x :: shL d l
end
/-! another rest -/
end Go.Proofs.YtolhahlnccekcaaDoor.Abs
namespace Go.Proofs.YtolhahlnccekcaaDoor.Abs
open Go.RowKit
set_option linter.unusedVariables false
set_option linter.unusedSimpArgs false
theorem ib_cases (l : Str) (c : UInt8) : Lib.indexByte l c = -1 ∨ ∃ o : Nat, Lib.indexByte l c = o ∧ o < l.length := by
  induction l with
  | nil => exact .inl rfl
  | cons b l ih =>
    unfold Lib.indexByte
    by_cases hb : (b == c) = true
    · rw [if_pos hb]; exact .inr ⟨0, rfl, by simp⟩
    · rw [if_neg hb]
      rcases ih with ih | ⟨o, ih, ho⟩
      · rw [ih]; exact .inl rfl
      · rw [ih, if_neg (by simp only [beq_iff_eq]; omega)]
        exact .inr ⟨o + 1, by omega, by rw [List.length_cons]; omega⟩
/-- where the next token begins -/
inductive Sk (s : Str) : Nat → Nat → Prop
  | out : Sk s s.length s.length
  | bl {v k x} : s[v]? = some x → isBl x.toNat = true → Sk s (v + 1) k → Sk s v k
  | rem {v k x o} : s[v]? = some x → isBl x.toNat = false → (s.drop v).take 2 = [47, 47] → Lib.indexByte (s.drop v) 10 = ((o : Nat) : Int) → Sk s (v + o) k → Sk s v k
  | remE {v x} : s[v]? = some x → isBl x.toNat = false → (s.drop v).take 2 = [47, 47] → Lib.indexByte (s.drop v) 10 = -1 → Sk s v s.length
  | tok {v x} : s[v]? = some x → isBl x.toNat = false → (s.drop v).take 2 ≠ [47, 47] → Sk s v v
theorem rem_pos {s : Str} {v o : Nat} (h : (s.drop v).take 2 = [47, 47]) (ho : Lib.indexByte (s.drop v) 10 = (o : Int)) : 0 < o := by
  rcases Nat.eq_zero_or_pos o with h0 | h0
  · subst h0
    have h8 := (Lib.indexByte_some ho).1
    have h12 := congrArg (·[0]?) h
    simp only [List.getElem?_take_of_lt (show 0 < 2 by decide)] at h12
    rw [h8] at h12
    revert h12; decide
  · exact h0
theorem Sk_l1 (s : Str) (hs : s.length < 4611686018427387904) : ∀ (c : Nat) (v : Nat), s.length < v + c → v ≤ s.length → Tot (lex_skip_l1 s c v) (fun r => ∃ k : Nat, Sk s v k ∧ v ≤ k ∧ k ≤ s.length ∧ (r = .inl (k : Int) ∨ r = .inr (k : Int))) := by
  intro c
  induction c with
  | zero => intro v h1 h2; omega
  | succ c ih =>
    intro v h1 h2
    unfold lex_skip_l1
    refine Tot.iteb (fun h4 => ?_) (fun h4 => ?_)
    rotate_left
    · simp only [decide_eq_false_iff_not] at h4
      obtain rfl : v = s.length := by omega
      exact .some ⟨_, .out, Nat.le_refl _, Nat.le_refl _, .inl rfl⟩
    simp only [decide_eq_true_eq] at h4
    refine Tot.bind' (Tot.idx (by omega) h4 fun x hx => ?_)
    rw [Int.toNat_natCast] at hx
    rw [blank_eq, Option.bind_some]
    refine Tot.iteb (fun h5 => ?_) (fun h5 => ?_)
    · rw [wrap64 (by omega) (by omega)]
      exact (ih (v + 1) (by omega) (by omega)).mono fun r ⟨k, h5', h6, h7, h8⟩ => ⟨k, .bl hx h5 h5', by omega, h7, h8⟩
    · refine Tot.need ⟨by omega, by omega⟩ ?_
      rw [Int.toNat_natCast, strings_HasPrefix_eq, Option.bind_some]
      refine Tot.iteb (fun h6 => ?_) (fun h6 => .some ⟨v, .tok hx h5 (by simpa using h6), by omega, h2, .inr rfl⟩)
      simp only [decide_eq_true_eq] at h6
      refine Tot.need ⟨by omega, by omega⟩ ?_
      rw [IndexByte_eq, Option.bind_some]
      rcases ib_cases (s.drop v) 10 with e | ⟨o, e, ho⟩
      · rw [show (Int.toNat 10).toUInt8 = (10 : UInt8) from rfl, e]
        rw [if_pos (by decide)]
        exact .some ⟨s.length, .remE hx h5 h6 e, h2, Nat.le_refl _, .inr rfl⟩
      · rw [show (Int.toNat 10).toUInt8 = (10 : UInt8) from rfl, e]
        rw [if_neg (by simp only [decide_eq_true_eq]; omega)]
        have h11 := rem_pos h6 e
        rw [List.length_drop] at ho
        rw [wrap64 (by omega) (by omega)]
        exact (ih (v + o) (by omega) (by omega)).mono fun r ⟨k, h5', h7, h8, h9⟩ => ⟨k, .rem hx h5 h6 e h5', by omega, h8, h9⟩
theorem Sk_tot {n : Nat} {s : Str} {v : Nat} (hs : s.length < 4611686018427387904) (hn : s.length < v + n) (hv : v ≤ s.length) : Tot (lex_skip n s v) fun r => ∃ k : Nat, Sk s v k ∧ v ≤ k ∧ k ≤ s.length ∧ r = k := by
  unfold lex_skip
  refine (Sk_l1 s hs n v hn hv).bind fun r ⟨k, h0, h1, h2, h3⟩ => ?_
  rcases h3 with rfl | rfl <;> exact .some ⟨k, h0, h1, h2, rfl⟩
theorem Sk.det {s : Str} {v k k' : Nat} (h : Sk s v k) (h' : Sk s v k') : k = k' := by
  induction h with
  | out =>
    cases h' with
    | out => rfl
    | bl h1 => have := (List.getElem?_eq_some_iff.1 h1).1; omega
    | rem h1 => have := (List.getElem?_eq_some_iff.1 h1).1; omega
    | remE h1 => have := (List.getElem?_eq_some_iff.1 h1).1; omega
    | tok h1 => have := (List.getElem?_eq_some_iff.1 h1).1; omega
  | bl h1 h2 h3 ih =>
    cases h' with
    | out => have := (List.getElem?_eq_some_iff.1 h1).1; omega
    | bl k1 k2 k3 => exact ih k3
    | rem k1 k2 => rw [h1] at k1; cases k1; rw [h2] at k2; cases k2
    | remE k1 k2 => rw [h1] at k1; cases k1; rw [h2] at k2; cases k2
    | tok k1 k2 => rw [h1] at k1; cases k1; rw [h2] at k2; cases k2
  | rem h1 h2 h3 h4 h5 ih =>
    cases h' with
    | out => have := (List.getElem?_eq_some_iff.1 h1).1; omega
    | bl k1 k2 k3 => rw [h1] at k1; cases k1; rw [h2] at k2; cases k2
    | rem k1 k2 k3 k4 k5 => rw [h4] at k4; have := Int.ofNat_inj.1 k4; subst this; exact ih k5
    | remE k1 k2 k3 k4 => rw [h4] at k4; omega
    | tok k1 k2 k3 => exact absurd h3 k3
  | remE h1 h2 h3 h4 =>
    cases h' with
    | out => rfl
    | bl k1 k2 k3 => rw [h1] at k1; cases k1; rw [h2] at k2; cases k2
    | rem k1 k2 k3 k4 k5 => rw [h4] at k4; omega
    | remE k1 k2 k3 k4 => rfl
    | tok k1 k2 k3 => exact absurd h3 k3
  | tok h1 h2 h3 =>
    cases h' with
    | out => rfl
    | bl k1 k2 k3 => rw [h1] at k1; cases k1; rw [h2] at k2; cases k2
    | rem k1 k2 k3 k4 k5 => exact absurd k3 h3
    | remE k1 k2 k3 k4 => exact absurd k3 h3
    | tok k1 k2 k3 => rfl
theorem skip_sk {n : Nat} {s : Str} {v k : Nat} (hs : s.length < 4611686018427387904) (hn : s.length < v + n) (hv : v ≤ s.length) (h : Sk s v k) : lex_skip n s v = some (k : Int) ∧ v ≤ k ∧ k ≤ s.length := by
  obtain ⟨r, e, k', h1, h2, h3, rfl⟩ := Sk_tot hs hn hv
  obtain rfl := h.det h1
  exact ⟨e, h2, h3⟩
/-- the tokens from a place on -/
inductive Tk (n : Nat) (s : Str) : Nat → List Tok → Prop
  | nil : Tk n s s.length []
  | cons {v t k l} : v < s.length → lex_next n s v = some (t, 0) → Sk s (v + t.Text_.length) k → Tk n s k l → Tk n s v (t :: l)
section
variable {n : Nat} {s : Str}
theorem Tk_l1 (hs : s.length ≤ 65536) (hn : s.length < n) (hn2 : 26 < n) : ∀ (c : Nat) (l : List Tok) (v : Nat) {r : List Tok}, v ≤ s.length → lex_Tokens_l1 n s c l v = some (.inl r) → ∃ l', r = l ++ l' ∧ Tk n s v l' := by
  intro c
  induction c with
  | zero => intro l v r _ h; cases h
  | succ c ih =>
    intro l v r hv h
    unfold lex_Tokens_l1 at h
    by_cases h5 : v < s.length
    · rw [if_pos (by simp only [decide_eq_true_eq]; omega)] at h
      obtain ⟨x, ex, hx⟩ := next_tot (n := n) (s := s) (v := v) (by omega) hn hn2 h5
      rw [ex, Option.bind_some] at h
      by_cases h6 : x.2 = 0
      · rw [if_neg (by simpa using h6)] at h
        obtain ⟨k1, k2, k3, k4⟩ := hx h6
        obtain ⟨hq, h⟩ := need_some h
        rw [wrap64 (by omega) (by omega)] at h
        obtain ⟨r', e, k, h7, h8, h9, rfl⟩ := Sk_tot (n := n) (s := s) (v := v + x.1.Text_.length) (by omega) (by omega) k4
        rw [show ((v : Int) + (x.1.Text_.length : Int)) = ((v + x.1.Text_.length : Nat) : Int) by omega, e, Option.bind_some] at h
        obtain ⟨l', e', h'⟩ := ih _ k h9 h
        refine ⟨x.1 :: l', by rw [e']; simp, .cons h5 ?_ h7 h'⟩
        rw [ex, ← h6]
      · rw [if_pos (by simpa using h6)] at h
        cases h
    · rw [if_neg (by simp only [decide_eq_true_eq]; omega)] at h
      cases h
      obtain rfl : v = s.length := by omega
      exact ⟨[], by simp, .nil⟩
theorem Tk.run (hs : s.length ≤ 65536) (hn : s.length < n) (hn2 : 26 < n) {v : Nat} {l' : List Tok} (h : Tk n s v l') : ∀ (c : Nat) (l : List Tok), s.length < v + c → l.length ≤ v → lex_Tokens_l1 n s c l v = some (.inl (l ++ l')) := by
  induction h with
  | nil =>
    intro c l hc hl
    obtain ⟨c, rfl⟩ : ∃ e, c = e + 1 := ⟨c - 1, by omega⟩
    unfold lex_Tokens_l1
    rw [if_neg (by simp only [decide_eq_true_eq]; omega), List.append_nil]
  | @cons v t k l' h1 h2 h3 h4 ih =>
    intro c l hc hl
    obtain ⟨c, rfl⟩ : ∃ e, c = e + 1 := ⟨c - 1, by omega⟩
    obtain ⟨x, ex, hx⟩ := next_tot (n := n) (s := s) (v := v) (by omega) hn hn2 h1
    rw [h2] at ex; cases ex
    obtain ⟨k1, k2, k3, k4⟩ := hx rfl
    obtain ⟨e, h8, h9⟩ := skip_sk (n := n) (by omega) (by omega) k4 h3
    unfold lex_Tokens_l1
    rw [if_pos (by simp only [decide_eq_true_eq]; omega), h2, Option.bind_some, if_neg (by simp), need_of (by simp only [List.length_singleton]; omega), wrap64 (by simp only at k4 ⊢; omega) (by simp only at k4 ⊢; omega)]
    simp only
    rw [show ((v : Int) + (t.Text_.length : Int)) = ((v + t.Text_.length : Nat) : Int) by omega, e, Option.bind_some, ih c _ (by simp only at k3; omega) (by simp only [List.length_append, List.length_singleton] at k3 ⊢; omega), List.append_assoc]; rfl
theorem Tokens_tk (hn : s.length < n) (hn2 : 26 < n) {l : List Tok} {w : Int} (h : lex_Tokens n s = some (l, 0, w)) : s.length ≤ 65536 ∧ ∃ k l', l = l' ++ [⟨4, s.length, [], 0⟩] ∧ Sk s 0 k ∧ Tk n s k l' := by
  unfold lex_Tokens at h
  by_cases h1 : (65536 : Int) < s.length
  · rw [if_pos (by simpa using h1)] at h
    cases h
  rw [if_neg (by simpa using h1)] at h
  obtain ⟨r, e, k, h7, h8, h9, rfl⟩ := Sk_tot (n := n) (s := s) (v := 0) (by omega) (by omega) (by omega)
  rw [show ((0 : Nat) : Int) = 0 from rfl] at e
  rw [e, Option.bind_some] at h
  obtain ⟨y, ey, h⟩ := bind_some h
  cases y with
  | inl y =>
    obtain ⟨hq, h⟩ := need_some (show need _ _ = _ from h)
    cases h
    obtain ⟨l', e', h'⟩ := Tk_l1 (by omega) hn hn2 n [] k h9 ey
    exact ⟨by omega, k, l', by rw [e']; rfl, h7, h'⟩
  | inr y =>
    obtain ⟨z, ez, hz⟩ := Tokens_l1 (by omega) hn hn2 n [] k (by omega) h9 (by simp [TokOk]) (by simp)
    rw [ey] at ez; cases ez
    have h' : some y = some (l, (0 : Int), w) := h
    cases h'
    exact absurd rfl hz
theorem Tk_tokens (hs : s.length ≤ 65536) (hn : s.length < n) (hn2 : 26 < n) {k : Nat} {l' : List Tok} (h0 : Sk s 0 k) (h : Tk n s k l') : lex_Tokens n s = some (l' ++ [⟨4, s.length, [], 0⟩], 0, 0) := by
  unfold lex_Tokens
  obtain ⟨e, h8, h9⟩ := skip_sk (n := n) (by omega) (by omega) (by omega) h0
  rw [show ((0 : Nat) : Int) = 0 from rfl] at e
  have h1 := h.run hs hn hn2 n [] (by omega) (by simp)
  obtain ⟨z, ez, hz⟩ := Tokens_l1 hs hn hn2 n [] k (by omega) h9 (by simp [TokOk]) (by simp)
  rw [h1] at ez; cases ez
  have h2 : ([] ++ l').length ≤ s.length := hz.2
  rw [List.nil_append] at h1 h2
  rw [if_neg (by simp only [decide_eq_true_eq]; omega), e, Option.bind_some, h1, Option.bind_some]
  show need _ _ = _
  rw [need_of (by simp only [List.length_singleton]; omega)]
end
/-! two texts -/
section
variable {a b : Str}
end
end Go.Proofs.YtolhahlnccekcaaDoor.Abs
