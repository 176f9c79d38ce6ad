/-
  The lexer over two texts with a line end between.
-/
import Derived.Test.YtolhahlnccekcaaDoorPjJoi1
namespace Go.Proofs.YtolhahlnccekcaaDoor.Abs
open Go.RowKit
set_option linter.unusedVariables false
set_option linter.unusedSimpArgs false
theorem ib_cases (l : Str) (c : UInt8) : Lib.indexByte l c = -1 ∨ ∃ o : Nat, Lib.indexByte l c = o ∧ o < l.length := by
  induction l with
  | nil => exact .inl rfl
  | cons b l ih =>
    unfold Lib.indexByte
    by_cases hb : (b == c) = true
    · rw [if_pos hb]; exact .inr ⟨0, rfl, by simp⟩
    · rw [if_neg hb]
      rcases ih with ih | ⟨o, ih, ho⟩
      · rw [ih]; exact .inl rfl
      · rw [ih, if_neg (by simp only [beq_iff_eq]; omega)]
        exact .inr ⟨o + 1, by omega, by rw [List.length_cons]; omega⟩
theorem ib_app {l r : Str} {c : UInt8} {o : Nat} (h : Lib.indexByte l c = o) : Lib.indexByte (l ++ r) c = o := by
  induction l generalizing o with
  | nil => unfold Lib.indexByte at h; omega
  | cons b l ih =>
    rw [List.cons_append]
    unfold Lib.indexByte at h ⊢
    by_cases hb : (b == c) = true
    · rw [if_pos hb] at h ⊢; exact h
    · rw [if_neg hb] at h ⊢
      rcases ib_cases l c with e | ⟨o', e, _⟩
      · rw [e, if_pos (by decide)] at h; omega
      · rw [ih e]; rw [e] at h; exact h
theorem ib_end {l r : Str} {c : UInt8} (h : Lib.indexByte l c = -1) : Lib.indexByte (l ++ c :: r) c = (l.length : Int) := by
  induction l with
  | nil => unfold Lib.indexByte; rw [List.nil_append]; simp
  | cons b l ih =>
    rw [List.cons_append]
    unfold Lib.indexByte at h ⊢
    by_cases hb : (b == c) = true
    · rw [if_pos hb] at h; omega
    · rw [if_neg hb] at h ⊢
      rcases ib_cases l c with e | ⟨o', e, _⟩
      · rw [ih e, if_neg (by simp only [beq_iff_eq]; omega), List.length_cons]; omega
      · rw [e, if_neg (by simp only [beq_iff_eq]; omega)] at h; omega
/-- where the next token begins -/
inductive Sk (s : Str) : Nat → Nat → Prop
  | out : Sk s s.length s.length
  | bl {v k x} : s[v]? = some x → isBl x.toNat = true → Sk s (v + 1) k → Sk s v k
  | rem {v k x o} : s[v]? = some x → isBl x.toNat = false → (s.drop v).take 2 = [47, 47] → Lib.indexByte (s.drop v) 10 = ((o : Nat) : Int) → Sk s (v + o) k → Sk s v k
  | remE {v x} : s[v]? = some x → isBl x.toNat = false → (s.drop v).take 2 = [47, 47] → Lib.indexByte (s.drop v) 10 = -1 → Sk s v s.length
  | tok {v x} : s[v]? = some x → isBl x.toNat = false → (s.drop v).take 2 ≠ [47, 47] → Sk s v v
theorem rem_pos {s : Str} {v o : Nat} (h : (s.drop v).take 2 = [47, 47]) (ho : Lib.indexByte (s.drop v) 10 = (o : Int)) : 0 < o := by
  rcases Nat.eq_zero_or_pos o with h0 | h0
  · subst h0
    have h8 := (Lib.indexByte_some ho).1
    have h12 := congrArg (·[0]?) h
    simp only [List.getElem?_take_of_lt (show 0 < 2 by decide)] at h12
    rw [h8] at h12
    revert h12; decide
  · exact h0
theorem Sk_l1 (s : Str) (hs : s.length < 4611686018427387904) : ∀ (c : Nat) (v : Nat), s.length < v + c → v ≤ s.length → Tot (lex_skip_l1 s c v) (fun r => ∃ k : Nat, Sk s v k ∧ v ≤ k ∧ k ≤ s.length ∧ (r = .inl (k : Int) ∨ r = .inr (k : Int))) := by
  intro c
  induction c with
  | zero => intro v h1 h2; omega
  | succ c ih =>
    intro v h1 h2
    unfold lex_skip_l1
    refine Tot.iteb (fun h4 => ?_) (fun h4 => ?_)
    rotate_left
    · simp only [decide_eq_false_iff_not] at h4
      obtain rfl : v = s.length := by omega
      exact .some ⟨_, .out, Nat.le_refl _, Nat.le_refl _, .inl rfl⟩
    simp only [decide_eq_true_eq] at h4
    refine Tot.bind' (Tot.idx (by omega) h4 fun x hx => ?_)
    rw [Int.toNat_natCast] at hx
    rw [blank_eq, Option.bind_some]
    refine Tot.iteb (fun h5 => ?_) (fun h5 => ?_)
    · rw [wrap64 (by omega) (by omega)]
      exact (ih (v + 1) (by omega) (by omega)).mono fun r ⟨k, h5', h6, h7, h8⟩ => ⟨k, .bl hx h5 h5', by omega, h7, h8⟩
    · refine Tot.need ⟨by omega, by omega⟩ ?_
      rw [Int.toNat_natCast, strings_HasPrefix_eq, Option.bind_some]
      refine Tot.iteb (fun h6 => ?_) (fun h6 => .some ⟨v, .tok hx h5 (by simpa using h6), by omega, h2, .inr rfl⟩)
      simp only [decide_eq_true_eq] at h6
      refine Tot.need ⟨by omega, by omega⟩ ?_
      rw [IndexByte_eq, Option.bind_some]
      rcases ib_cases (s.drop v) 10 with e | ⟨o, e, ho⟩
      · rw [show (Int.toNat 10).toUInt8 = (10 : UInt8) from rfl, e]
        rw [if_pos (by decide)]
        exact .some ⟨s.length, .remE hx h5 h6 e, h2, Nat.le_refl _, .inr rfl⟩
      · rw [show (Int.toNat 10).toUInt8 = (10 : UInt8) from rfl, e]
        rw [if_neg (by simp only [decide_eq_true_eq]; omega)]
        have h11 := rem_pos h6 e
        rw [List.length_drop] at ho
        rw [wrap64 (by omega) (by omega)]
        exact (ih (v + o) (by omega) (by omega)).mono fun r ⟨k, h5', h7, h8, h9⟩ => ⟨k, .rem hx h5 h6 e h5', by omega, h8, h9⟩
theorem Sk_tot {n : Nat} {s : Str} {v : Nat} (hs : s.length < 4611686018427387904) (hn : s.length < v + n) (hv : v ≤ s.length) : Tot (lex_skip n s v) fun r => ∃ k : Nat, Sk s v k ∧ v ≤ k ∧ k ≤ s.length ∧ r = k := by
  unfold lex_skip
  refine (Sk_l1 s hs n v hn hv).bind fun r ⟨k, h0, h1, h2, h3⟩ => ?_
  rcases h3 with rfl | rfl <;> exact .some ⟨k, h0, h1, h2, rfl⟩
theorem Sk.det {s : Str} {v k k' : Nat} (h : Sk s v k) (h' : Sk s v k') : k = k' := by
  induction h with
  | out =>
    cases h' with
    | out => rfl
    | bl h1 => have := (List.getElem?_eq_some_iff.1 h1).1; omega
    | rem h1 => have := (List.getElem?_eq_some_iff.1 h1).1; omega
    | remE h1 => have := (List.getElem?_eq_some_iff.1 h1).1; omega
    | tok h1 => have := (List.getElem?_eq_some_iff.1 h1).1; omega
  | bl h1 h2 h3 ih =>
    cases h' with
    | out => have := (List.getElem?_eq_some_iff.1 h1).1; omega
    | bl k1 k2 k3 => exact ih k3
    | rem k1 k2 => rw [h1] at k1; cases k1; rw [h2] at k2; cases k2
    | remE k1 k2 => rw [h1] at k1; cases k1; rw [h2] at k2; cases k2
    | tok k1 k2 => rw [h1] at k1; cases k1; rw [h2] at k2; cases k2
  | rem h1 h2 h3 h4 h5 ih =>
    cases h' with
    | out => have := (List.getElem?_eq_some_iff.1 h1).1; omega
    | bl k1 k2 k3 => rw [h1] at k1; cases k1; rw [h2] at k2; cases k2
    | rem k1 k2 k3 k4 k5 => rw [h4] at k4; have := Int.ofNat_inj.1 k4; subst this; exact ih k5
    | remE k1 k2 k3 k4 => rw [h4] at k4; omega
    | tok k1 k2 k3 => exact absurd h3 k3
  | remE h1 h2 h3 h4 =>
    cases h' with
    | out => rfl
    | bl k1 k2 k3 => rw [h1] at k1; cases k1; rw [h2] at k2; cases k2
    | rem k1 k2 k3 k4 k5 => rw [h4] at k4; omega
    | remE k1 k2 k3 k4 => rfl
    | tok k1 k2 k3 => exact absurd h3 k3
  | tok h1 h2 h3 =>
    cases h' with
    | out => rfl
    | bl k1 k2 k3 => rw [h1] at k1; cases k1; rw [h2] at k2; cases k2
    | rem k1 k2 k3 k4 k5 => exact absurd k3 h3
    | remE k1 k2 k3 k4 => exact absurd k3 h3
    | tok k1 k2 k3 => rfl
theorem skip_sk {n : Nat} {s : Str} {v k : Nat} (hs : s.length < 4611686018427387904) (hn : s.length < v + n) (hv : v ≤ s.length) (h : Sk s v k) : lex_skip n s v = some (k : Int) ∧ v ≤ k ∧ k ≤ s.length := by
  obtain ⟨r, e, k', h1, h2, h3, rfl⟩ := Sk_tot hs hn hv
  obtain rfl := h.det h1
  exact ⟨e, h2, h3⟩
/-- the tokens from a place on -/
inductive Tk (n : Nat) (s : Str) : Nat → List Tok → Prop
  | nil : Tk n s s.length []
  | cons {v t k l} : v < s.length → lex_next n s v = some (t, 0) → Sk s (v + t.Text_.length) k → Tk n s k l → Tk n s v (t :: l)
section
variable {n : Nat} {s : Str}
theorem Tk_l1 (hs : s.length ≤ 65536) (hn : s.length < n) (hn2 : 26 < n) : ∀ (c : Nat) (l : List Tok) (v : Nat) {r : List Tok}, v ≤ s.length → lex_Tokens_l1 n s c l v = some (.inl r) → ∃ l', r = l ++ l' ∧ Tk n s v l' := by
  intro c
  induction c with
  | zero => intro l v r _ h; cases h
  | succ c ih =>
    intro l v r hv h
    unfold lex_Tokens_l1 at h
    by_cases h5 : v < s.length
    · rw [if_pos (by simp only [decide_eq_true_eq]; omega)] at h
      obtain ⟨x, ex, hx⟩ := next_tot (n := n) (s := s) (v := v) (by omega) hn hn2 h5
      rw [ex, Option.bind_some] at h
      by_cases h6 : x.2 = 0
      · rw [if_neg (by simpa using h6)] at h
        obtain ⟨k1, k2, k3, k4⟩ := hx h6
        obtain ⟨hq, h⟩ := need_some h
        rw [wrap64 (by omega) (by omega)] at h
        obtain ⟨r', e, k, h7, h8, h9, rfl⟩ := Sk_tot (n := n) (s := s) (v := v + x.1.Text_.length) (by omega) (by omega) k4
        rw [show ((v : Int) + (x.1.Text_.length : Int)) = ((v + x.1.Text_.length : Nat) : Int) by omega, e, Option.bind_some] at h
        obtain ⟨l', e', h'⟩ := ih _ k h9 h
        refine ⟨x.1 :: l', by rw [e']; simp, .cons h5 ?_ h7 h'⟩
        rw [ex, ← h6]
      · rw [if_pos (by simpa using h6)] at h
        cases h
    · rw [if_neg (by simp only [decide_eq_true_eq]; omega)] at h
      cases h
      obtain rfl : v = s.length := by omega
      exact ⟨[], by simp, .nil⟩
theorem Tk.run (hs : s.length ≤ 65536) (hn : s.length < n) (hn2 : 26 < n) {v : Nat} {l' : List Tok} (h : Tk n s v l') : ∀ (c : Nat) (l : List Tok), s.length < v + c → l.length ≤ v → lex_Tokens_l1 n s c l v = some (.inl (l ++ l')) := by
  induction h with
  | nil =>
    intro c l hc hl
    obtain ⟨c, rfl⟩ : ∃ e, c = e + 1 := ⟨c - 1, by omega⟩
    unfold lex_Tokens_l1
    rw [if_neg (by simp only [decide_eq_true_eq]; omega), List.append_nil]
  | @cons v t k l' h1 h2 h3 h4 ih =>
    intro c l hc hl
    obtain ⟨c, rfl⟩ : ∃ e, c = e + 1 := ⟨c - 1, by omega⟩
    obtain ⟨x, ex, hx⟩ := next_tot (n := n) (s := s) (v := v) (by omega) hn hn2 h1
    rw [h2] at ex; cases ex
    obtain ⟨k1, k2, k3, k4⟩ := hx rfl
    obtain ⟨e, h8, h9⟩ := skip_sk (n := n) (by omega) (by omega) k4 h3
    unfold lex_Tokens_l1
    rw [if_pos (by simp only [decide_eq_true_eq]; omega), h2, Option.bind_some, if_neg (by simp), need_of (by simp only [List.length_singleton]; omega), wrap64 (by simp only at k4 ⊢; omega) (by simp only at k4 ⊢; omega)]
    simp only
    rw [show ((v : Int) + (t.Text_.length : Int)) = ((v + t.Text_.length : Nat) : Int) by omega, e, Option.bind_some, ih c _ (by simp only at k3; omega) (by simp only [List.length_append, List.length_singleton] at k3 ⊢; omega), List.append_assoc]; rfl
theorem Tokens_tk (hn : s.length < n) (hn2 : 26 < n) {l : List Tok} {w : Int} (h : lex_Tokens n s = some (l, 0, w)) : s.length ≤ 65536 ∧ ∃ k l', l = l' ++ [⟨4, s.length, [], 0⟩] ∧ Sk s 0 k ∧ Tk n s k l' := by
  unfold lex_Tokens at h
  by_cases h1 : (65536 : Int) < s.length
  · rw [if_pos (by simpa using h1)] at h
    cases h
  rw [if_neg (by simpa using h1)] at h
  obtain ⟨r, e, k, h7, h8, h9, rfl⟩ := Sk_tot (n := n) (s := s) (v := 0) (by omega) (by omega) (by omega)
  rw [show ((0 : Nat) : Int) = 0 from rfl] at e
  rw [e, Option.bind_some] at h
  obtain ⟨y, ey, h⟩ := bind_some h
  cases y with
  | inl y =>
    obtain ⟨hq, h⟩ := need_some (show need _ _ = _ from h)
    cases h
    obtain ⟨l', e', h'⟩ := Tk_l1 (by omega) hn hn2 n [] k h9 ey
    exact ⟨by omega, k, l', by rw [e']; rfl, h7, h'⟩
  | inr y =>
    obtain ⟨z, ez, hz⟩ := Tokens_l1 (by omega) hn hn2 n [] k (by omega) h9 (by simp [TokOk]) (by simp)
    rw [ey] at ez; cases ez
    have h' : some y = some (l, (0 : Int), w) := h
    cases h'
    exact absurd rfl hz
theorem Tk_tokens (hs : s.length ≤ 65536) (hn : s.length < n) (hn2 : 26 < n) {k : Nat} {l' : List Tok} (h0 : Sk s 0 k) (h : Tk n s k l') : lex_Tokens n s = some (l' ++ [⟨4, s.length, [], 0⟩], 0, 0) := by
  unfold lex_Tokens
  obtain ⟨e, h8, h9⟩ := skip_sk (n := n) (by omega) (by omega) (by omega) h0
  rw [show ((0 : Nat) : Int) = 0 from rfl] at e
  have h1 := h.run hs hn hn2 n [] (by omega) (by simp)
  obtain ⟨z, ez, hz⟩ := Tokens_l1 hs hn hn2 n [] k (by omega) h9 (by simp [TokOk]) (by simp)
  rw [h1] at ez; cases ez
  have h2 : ([] ++ l').length ≤ s.length := hz.2
  rw [List.nil_append] at h1 h2
  rw [if_neg (by simp only [decide_eq_true_eq]; omega), e, Option.bind_some, h1, Option.bind_some]
  show need _ _ = _
  rw [need_of (by simp only [List.length_singleton]; omega)]
end
/-! two texts -/
section
variable {a b : Str}
theorem j_drop (v : Nat) : (a ++ 10 :: b).drop (a.length + 1 + v) = b.drop v := by
  rw [show a.length + 1 + v = a.length + (1 + v) by omega, List.drop_append, show a.length + (1 + v) - a.length = v + 1 by omega, List.drop_eq_nil_of_le (by omega)]
  simp
theorem j_get (v : Nat) : (a ++ 10 :: b)[a.length + 1 + v]? = b[v]? := by
  rw [List.getElem?_append_right (by omega), show a.length + 1 + v - a.length = v + 1 by omega]
  simp
theorem j_dropl {v : Nat} (h : v ≤ a.length) : (a ++ 10 :: b).drop v = a.drop v ++ 10 :: b := by
  rw [List.drop_append, show v - a.length = 0 by omega, List.drop_zero]
theorem j_getl {v : Nat} (h : v < a.length) : (a ++ 10 :: b)[v]? = a[v]? := List.getElem?_append_left h
theorem Sk.right {v k : Nat} (h : Sk b v k) : Sk (a ++ 10 :: b) (a.length + 1 + v) (a.length + 1 + k) := by
  induction h with
  | out =>
    have : a.length + 1 + b.length = (a ++ 10 :: b).length := by rw [List.length_append, List.length_cons]; omega
    rw [this]; exact .out
  | bl h1 h2 h3 ih => exact .bl ((j_get _).trans h1) h2 ih
  | rem h1 h2 h3 h4 h5 ih => exact .rem ((j_get _).trans h1) h2 (by rw [j_drop]; exact h3) (by rw [j_drop]; exact h4) (by rw [Nat.add_assoc]; exact ih)
  | remE h1 h2 h3 h4 =>
    have : a.length + 1 + b.length = (a ++ 10 :: b).length := by rw [List.length_append, List.length_cons]; omega
    rw [this]
    exact .remE ((j_get _).trans h1) h2 (by rw [j_drop]; exact h3) (by rw [j_drop]; exact h4)
  | tok h1 h2 h3 => exact .tok ((j_get _).trans h1) h2 (by rw [j_drop]; exact h3)
theorem j_nl {k : Nat} (h : Sk (a ++ 10 :: b) (a.length + 1) k) : Sk (a ++ 10 :: b) a.length k := by
  refine .bl (x := 10) ?_ (by decide) h
  rw [List.getElem?_append_right (Nat.le_refl _), Nat.sub_self]; rfl
theorem Sk.left {v k X : Nat} (h : Sk a v k) (hX : Sk (a ++ 10 :: b) (a.length + 1) X) : v ≤ a.length → Sk (a ++ 10 :: b) v (if k < a.length then k else X) := by
  have two : ∀ {v : Nat}, (a.drop v).take 2 = [47, 47] → (a.drop v ++ 10 :: b).take 2 = [47, 47] := by
    intro v h
    have h1 := congrArg List.length h
    rw [List.length_take] at h1
    simp only [List.length_cons, List.length_nil] at h1
    rw [List.take_append_of_le_length (by omega)]; exact h
  induction h with
  | out => intro _; rw [if_neg (Nat.lt_irrefl _)]; exact j_nl hX
  | bl h1 h2 h3 ih =>
    intro hv
    have hv' := (List.getElem?_eq_some_iff.1 h1).1
    exact .bl ((j_getl hv').trans h1) h2 (ih (by omega))
  | @rem v k x o h1 h2 h3 h4 h5 ih =>
    intro hv
    have hv' := (List.getElem?_eq_some_iff.1 h1).1
    have ho : o < (a.drop v).length := by
      rcases ib_cases (a.drop v) 10 with e | ⟨o', e, ho⟩
      · rw [h4] at e; omega
      · rw [h4] at e; omega
    rw [List.length_drop] at ho
    refine .rem (o := o) ((j_getl hv').trans h1) h2 ?_ ?_ (ih (by omega))
    · rw [j_dropl hv]; exact two h3
    · rw [j_dropl hv]; exact ib_app h4
  | @remE v x h1 h2 h3 h4 =>
    intro hv
    have hv' := (List.getElem?_eq_some_iff.1 h1).1
    rw [if_neg (Nat.lt_irrefl _)]
    refine .rem (o := a.length - v) ((j_getl hv').trans h1) h2 ?_ ?_ ?_
    · rw [j_dropl hv]; exact two h3
    · rw [j_dropl hv, ib_end h4, List.length_drop]
    · rw [show v + (a.length - v) = a.length by omega]; exact j_nl hX
  | @tok v x h1 h2 h3 =>
    intro hv
    have hv' := (List.getElem?_eq_some_iff.1 h1).1
    rw [if_pos hv']
    refine .tok ((j_getl hv').trans h1) h2 ?_
    rw [j_dropl hv]
    intro e
    apply h3
    by_cases h9 : 2 ≤ (a.drop v).length
    · rw [List.take_append_of_le_length h9] at e; exact e
    · exfalso
      have h10 : (a.drop v).length = 1 := by rw [List.length_drop] at h9 ⊢; omega
      obtain ⟨y, hy⟩ := List.length_eq_one_iff.1 h10
      rw [hy] at e
      simp at e
theorem next_right {n : Nat} {v : Nat} {t : Tok} (h : lex_next n b v = some (t, 0)) : lex_next n (a ++ 10 :: b) ((a.length + 1 + v : Nat) : Int) = some (shT ((a.length : Int) + 1) t, 0) := by
  unfold lex_next at h ⊢
  obtain ⟨hq, h⟩ := need_some h
  rw [need_of (by rw [List.length_append, List.length_cons]; omega)]
  simp only [Int.toNat_natCast] at h ⊢
  rw [j_drop]
  have hi : idxL (a ++ 10 :: b) ((a.length + 1 + v : Nat) : Int) = idxL b v := by
    unfold idxL
    rw [if_pos (by omega), if_pos (by omega), Int.toNat_natCast, Int.toNat_natCast, j_get]
  rw [hi]
  obtain ⟨x2, e2, h⟩ := bind_some h
  obtain ⟨x7, e7, h⟩ := bind_some h
  obtain ⟨x8, e8, h⟩ := bind_some h
  rw [e2, Option.bind_some, e7, Option.bind_some, e8, Option.bind_some]
  have hat : ((a.length + 1 + v : Nat) : Int) = (v : Int) + ((a.length : Int) + 1) := by omega
  by_cases c8 : x8 = true
  · rw [if_pos c8] at h ⊢
    by_cases c9 : (decide ((32 : Int) < (x2.length : Int))) = true
    · rw [if_pos c9] at h; cases h
    · rw [if_neg c9] at h ⊢; cases h
      rw [hat]; rfl
  · rw [if_neg c8] at h ⊢
    obtain ⟨x16, e16, h⟩ := bind_some h
    rw [e16, Option.bind_some]
    by_cases c16 : x16 = true
    · rw [if_pos c16] at h ⊢
      obtain ⟨x19, e19, h⟩ := bind_some h
      rw [e19, Option.bind_some]
      by_cases c9 : (!x19.2) = true
      · rw [if_pos c9] at h; cases h
      · rw [if_neg c9] at h ⊢; cases h
        rw [hat]; rfl
    · rw [if_neg c16] at h ⊢
      obtain ⟨_, h⟩ := need_some h
      rw [need_of (by rw [List.length_append, List.length_cons]; omega)]
      obtain ⟨x22, e22, h⟩ := bind_some h
      rw [e22, Option.bind_some]
      by_cases c9 : (decide (x22 = ([] : Str))) = true
      · rw [if_pos c9] at h; cases h
      · rw [if_neg c9] at h ⊢; cases h
        rw [hat]; rfl
theorem next_left {n : Nat} {v : Nat} {t : Tok} (hs : a.length + b.length < 1000000) (hn : a.length + b.length + 100 < n) (hv : v < a.length) (h : lex_next n a v = some (t, 0)) : lex_next n (a ++ 10 :: b) v = some (t, 0) := by
  unfold lex_next at h ⊢
  obtain ⟨hq, h⟩ := need_some h
  have hq' : (0 : Int) ≤ v ∧ (v : Int) ≤ ((a ++ 10 :: b).length : Int) := by rw [List.length_append, List.length_cons]; omega
  rw [need_of hq']
  simp only [Int.toNat_natCast] at h ⊢
  rw [word_eq (by rw [List.length_drop]; omega) (by rw [List.length_drop]; omega)] at h
  rw [word_eq (by rw [List.length_drop, List.length_append, List.length_cons]; omega) (by rw [List.length_drop, List.length_append, List.length_cons]; omega)]
  rw [sign_eq (by omega)] at h
  rw [sign_eq (by omega)]
  have hw : ((a ++ 10 :: b).drop v).takeWhile lod = (a.drop v).takeWhile lod := by
    rw [j_dropl (by omega)]
    generalize a.drop v = l
    induction l with
    | nil => rw [List.nil_append, List.takeWhile_cons_of_neg (by decide)]; rfl
    | cons x l ih =>
      rw [List.cons_append]
      by_cases hx : lod x = true
      · rw [List.takeWhile_cons_of_pos hx, List.takeWhile_cons_of_pos hx, ih]
      · rw [List.takeWhile_cons_of_neg hx, List.takeWhile_cons_of_neg hx]
  have hsn : signOf ((a ++ 10 :: b).drop v) = signOf (a.drop v) := by
    rw [j_dropl (by omega)]
    unfold signOf
    congr 1
    have hall : ∀ y ∈ g_lex_signs, decide ((a.drop v ++ 10 :: b).take y.length = y) = decide ((a.drop v).take y.length = y) := by
      intro y hy
      have h10 : (g_lex_signs.all fun y => !(y.contains 10)) = true := by decide
      have h11 := List.all_eq_true.1 h10 y hy
      simp only [Bool.not_eq_true', List.contains_eq_mem, decide_eq_false_iff_not] at h11
      apply decide_eq_decide.2
      by_cases hl : y.length ≤ (a.drop v).length
      · rw [List.take_append_of_le_length hl]
      · constructor
        · intro e
          exfalso
          apply h11
          rw [← e, List.take_append]
          apply List.mem_append_right
          obtain ⟨k, hk⟩ : ∃ k, y.length - (a.drop v).length = k + 1 := ⟨y.length - (a.drop v).length - 1, by omega⟩
          rw [hk, List.take_succ_cons]
          exact List.mem_cons_self
        · intro e
          exfalso
          have := congrArg List.length e
          rw [List.length_take] at this
          omega
    have gen : ∀ l : List Str, (∀ y ∈ l, decide ((a.drop v ++ 10 :: b).take y.length = y) = decide ((a.drop v).take y.length = y)) → l.find? (fun y => decide ((a.drop v ++ 10 :: b).take y.length = y)) = l.find? (fun y => decide ((a.drop v).take y.length = y)) := by
      intro l
      induction l with
      | nil => intro _; rfl
      | cons y l ih =>
        intro h
        rw [List.find?_cons, List.find?_cons, h y List.mem_cons_self, ih fun z hz => h z (List.mem_cons_of_mem _ hz)]
    exact gen _ hall
  have hi : idxL (a ++ 10 :: b) v = idxL a v := by
    unfold idxL
    rw [if_pos (by omega), if_pos (by omega), Int.toNat_natCast, j_getl hv]
  rw [hw, hsn, hi]
  obtain ⟨x2, e2, h⟩ := bind_some h
  obtain ⟨x7, e7, h⟩ := bind_some h
  obtain ⟨x8, e8, h⟩ := bind_some h
  rw [e2, Option.bind_some, e7, Option.bind_some, e8, Option.bind_some]
  by_cases c8 : x8 = true
  · rw [if_pos c8] at h ⊢; exact h
  · rw [if_neg c8] at h ⊢
    obtain ⟨x16, e16, h⟩ := bind_some h
    rw [e16, Option.bind_some]
    by_cases c16 : x16 = true
    · rw [if_pos c16] at h ⊢; exact h
    · rw [if_neg c16] at h ⊢
      obtain ⟨_, h⟩ := need_some h
      rw [need_of hq']; exact h
theorem Tk.right {n : Nat} {v : Nat} {l : List Tok} (h : Tk n b v l) : Tk n (a ++ 10 :: b) (a.length + 1 + v) (l.map (shT ((a.length : Int) + 1))) := by
  induction h with
  | nil =>
    have : a.length + 1 + b.length = (a ++ 10 :: b).length := by rw [List.length_append, List.length_cons]; omega
    rw [this]; exact .nil
  | cons h1 h2 h3 h4 ih =>
    refine .cons (by rw [List.length_append, List.length_cons]; omega) (next_right h2) ?_ ih
    have := h3.right (a := a)
    rwa [← Nat.add_assoc] at this
theorem Tk.left {n : Nat} {v X : Nat} {l r : List Tok} (h : Tk n a v l) (hs : a.length + b.length < 1000000) (hn : a.length + b.length + 100 < n) (hX : Sk (a ++ 10 :: b) (a.length + 1) X) (hr : Tk n (a ++ 10 :: b) X r) : Tk n (a ++ 10 :: b) (if v < a.length then v else X) (l ++ r) := by
  induction h with
  | nil => rw [if_neg (Nat.lt_irrefl _)]; exact hr
  | @cons v t k l h1 h2 h3 h4 ih =>
    rw [if_pos h1]
    obtain ⟨x, ex, hx⟩ := next_tot (n := n) (s := a) (v := v) (by omega) (by omega) (by omega) h1
    rw [h2] at ex; cases ex
    obtain ⟨k1, k2, k3, k4⟩ := hx rfl
    exact .cons (by rw [List.length_append, List.length_cons]; omega) (next_left hs hn h1 h2) (h3.left hX k4) ih
theorem Tokens_join {n : Nat} {la lb : List Tok} {wa wb : Int} (hs : a.length + b.length < 65000) (hn : a.length + b.length + 100 < n) (ha : lex_Tokens n a = some (la, 0, wa)) (hb : lex_Tokens n b = some (lb, 0, wb)) : ∃ ta tb, la = ta ++ [⟨4, a.length, [], 0⟩] ∧ lb = tb ++ [⟨4, b.length, [], 0⟩] ∧ lex_Tokens n (a ++ 10 :: b) = some (ta ++ lb.map (shT ((a.length : Int) + 1)), 0, 0) := by
  obtain ⟨_, ka, ta, e1, s1, t1⟩ := Tokens_tk (by omega) (by omega) ha
  obtain ⟨_, kb, tb, e2, s2, t2⟩ := Tokens_tk (by omega) (by omega) hb
  have hX := s2.right (a := a)
  have hr := t2.right (a := a)
  rw [Nat.add_zero] at hX
  have h1 := s1.left hX (by omega)
  have h2 := t1.left (by omega) hn hX hr
  have hl : (a ++ 10 :: b).length = a.length + b.length + 1 := by rw [List.length_append, List.length_cons]; omega
  have h3 := Tk_tokens (n := n) (by omega) (by omega) (by omega) h1 h2
  refine ⟨ta, tb, e1, e2, h3.trans ?_⟩
  rw [e2, List.map_append, List.append_assoc, hl]
  congr 4
  show [(⟨4, _, [], 0⟩ : Tok)] = [⟨4, (b.length : Int) + ((a.length : Int) + 1), [], 0⟩]
  congr 2
  omega
end
end Go.Proofs.YtolhahlnccekcaaDoor.Abs
