/-
  Own helper theorems of no one function: that a model gives something, and what holds of it.
-/
import Derived.Test.YtolhahlnccekcaaDoorPwS5
import Derived.Test.YtolhahlnccekcaaDoorPwGMm
import Derived.Lib.IndexLaws
namespace Go.Proofs.YtolhahlnccekcaaDoor.Abs
open Go.RowKit
def Tot {α : Type} (o : Option α) (Q : α → Prop) : Prop := ∃ r, o = some r ∧ Q r
section
variable {α β : Type} {o : Option α} {Q P : α → Prop}
theorem Tot.some {r : α} (h : Q r) : Tot (some r) Q := ⟨r, rfl, h⟩
theorem Tot.mono (h : Tot o P) (k : ∀ x, P x → Q x) : Tot o Q := by obtain ⟨r, e, hr⟩ := h; exact ⟨r, e, k r hr⟩
theorem Tot.bind {f : α → Option β} {R : β → Prop} (h : Tot o P) (k : ∀ x, P x → Tot (f x) R) : Tot (o.bind f) R := by
  obtain ⟨r, e, hr⟩ := h; subst e; exact k r hr
theorem Tot.bind' {f : α → Option β} {R : β → Prop} (h : Tot o fun x => Tot (f x) R) : Tot (o.bind f) R := h.bind fun _ k => k
theorem Tot.need {c : Prop} [Decidable c] (hc : c) (h : Tot o Q) : Tot (need c o) Q := by rw [need_of hc]; exact h
theorem Tot.iteb {b : Bool} {x y : Option α} (h1 : b = true → Tot x Q) (h2 : b = false → Tot y Q) : Tot (if b = true then x else y) Q := by
  cases b
  · exact h2 rfl
  · exact h1 rfl
theorem Tot.elim {γ : Type} {s : β ⊕ γ} {f : β → Option α} {g : γ → Option α} (h1 : ∀ x, s = .inl x → Tot (f x) Q) (h2 : ∀ x, s = .inr x → Tot (g x) Q) : Tot (s.elim f g) Q := by
  cases s
  · exact h1 _ rfl
  · exact h2 _ rfl
theorem Tot.idx {l : List α} {i : Int} (h0 : 0 ≤ i) (h1 : i < l.length) (k : ∀ x, l[i.toNat]? = Option.some x → Q x) : Tot (idxL l i) Q := by
  unfold idxL
  rw [if_pos h0]
  refine ⟨l[i.toNat]'(by omega), List.getElem?_eq_getElem (by omega), k _ (List.getElem?_eq_getElem (by omega))⟩
theorem Tot.get (h : Tot o Q) {r : α} (e : o = Option.some r) : Q r := by
  obtain ⟨x, e', hx⟩ := h; rw [e] at e'; cases e'; exact hx
theorem Tot.and (h : Tot o Q) (k : Tot o P) : Tot o fun x => Q x ∧ P x := by
  obtain ⟨x, e, hx⟩ := h; exact ⟨x, e, hx, k.get e⟩
end
theorem wrap64 {n : Int} (h1 : -9223372036854775808 ≤ n) (h2 : n ≤ 9223372036854775807) : IntKind.i64.wrap n = n := by
  rw [IntKind.wrap_i64]; omega
theorem take_step' {α : Type} {l : List α} {j : Nat} {x : α} (h : l[j]? = some x) : l.take (j + 1) = l.take j ++ [x] := by
  rw [List.take_add_one, h]; rfl
theorem takeWhile_at {α : Type} {p : α → Bool} {s : List α} {v : Nat} {x : α} (h : ∀ y ∈ s.take v, p y = true) (hx : s[v]? = some x) (hp : p x = false) : s.takeWhile p = s.take v := by
  obtain ⟨hv, rfl⟩ := List.getElem?_eq_some_iff.1 hx
  have h1 : (s.take v ++ s.drop v).takeWhile p = s.take v ++ (s.drop v).takeWhile p := List.takeWhile_append_of_pos h
  rw [List.take_append_drop] at h1
  rw [h1, List.drop_eq_getElem_cons hv, List.takeWhile_cons_of_neg (by simp [hp]), List.append_nil]
theorem find_at {α : Type} {p : α → Bool} {s : List α} {v : Nat} {x : α} (h : ∀ y ∈ s.take v, p y = false) (hx : s[v]? = some x) (hp : p x = true) : s.find? p = some x := by
  obtain ⟨hv, rfl⟩ := List.getElem?_eq_some_iff.1 hx
  have h1 : (s.take v ++ s.drop v).find? p = (s.drop v).find? p := by
    rw [List.find?_append, List.find?_eq_none.2 (fun y hy => by simp [h y hy])]; rfl
  rw [List.take_append_drop] at h1
  rw [h1, List.drop_eq_getElem_cons hv, List.find?_cons_of_pos (by simp [hp])]
theorem takeWhile_whole {α : Type} {p : α → Bool} {s : List α} (h : ∀ y ∈ s, p y = true) : s.takeWhile p = s := by
  have := List.takeWhile_append_of_pos (l₂ := []) h
  simpa using this
end Go.Proofs.YtolhahlnccekcaaDoor.Abs
namespace Go.Proofs.YtolhahlnccekcaaDoor.Abs
open Go.RowKit
set_option linter.unusedVariables false
set_option linter.unusedSimpArgs false
def isLet (c : Int) : Bool := (decide (97 ≤ c) && decide (c ≤ 122)) || (c == 95)
def isDig (c : Int) : Bool := decide (48 ≤ c) && decide (c ≤ 57)
def isBl (c : Int) : Bool := c == 32 || (c == 9 || (c == 13 || c == 10))
def lod (b : UInt8) : Bool := isLet b.toNat || isDig b.toNat
theorem blank_eq (a : Int) : lex_blank a = some (isBl a) := by
  unfold lex_blank isBl
  cases a == 32 <;> cases a == 9 <;> cases a == 13 <;> rfl
theorem Letter_eq (a : Int) : lex_Letter a = some (isLet a) := by
  unfold lex_Letter isLet
  cases decide (97 ≤ a) <;> cases decide (a ≤ 122) <;> simp
theorem Digit_eq (a : Int) : lex_Digit a = some (isDig a) := by
  unfold lex_Digit isDig
  cases decide (48 ≤ a) <;> simp
theorem HasPrefix_eq (a b : Str) : internal_stringslite_HasPrefix a b = some (decide (a.take b.length = b)) := by
  unfold internal_stringslite_HasPrefix
  by_cases h : (b.length : Int) ≤ a.length
  · rw [if_pos (by simpa using h), need_of ⟨by omega, h⟩]
    rfl
  · rw [if_neg (by simpa using h), Option.bind_some, decide_eq_false]
    intro e
    have := congrArg List.length e
    rw [List.length_take] at this
    omega
theorem strings_HasPrefix_eq (a b : Str) : strings_HasPrefix a b = some (decide (a.take b.length = b)) := by
  unfold strings_HasPrefix
  rw [HasPrefix_eq]; rfl
theorem IndexByte_eq (a : Str) (c : Int) : strings_IndexByte a c = some (Lib.indexByte a c.toNat.toUInt8) := rfl

theorem word_l1 (s : Str) : ∀ (c : Nat) (v : Nat), s.length < v + c → v ≤ s.length → (∀ y ∈ s.take v, lod y = true) → s.length < 4611686018427387904 →
    Tot (lex_word_l1 s c v) (fun r => match r with | .inl _ => s.takeWhile lod = s | .inr t => t = s.takeWhile lod) := by
  intro c
  induction c with
  | zero => intro v h1 h2; omega
  | succ c ih =>
    intro v h1 h2 h3 hs
    unfold lex_word_l1
    refine Tot.iteb (fun h4 => ?_) (fun h4 => ?_)
    · simp only [decide_eq_true_eq] at h4
      refine (Tot.bind (P := fun y => ∃ x, s[v]? = some x ∧ y = !lod x) ?_) ?_
      · refine Tot.bind' (Tot.idx (by omega) h4 fun x hx => ?_)
        rw [Int.toNat_natCast] at hx
        rw [Letter_eq, Option.bind_some, Digit_eq, Option.bind_some]
        refine Tot.iteb (fun h5 => .some ⟨x, hx, ?_⟩) (fun h5 => .some ⟨x, hx, ?_⟩)
        · simp only [Bool.not_eq_true'] at h5
          simp [lod, h5]
        · simp only [Bool.not_eq_false'] at h5
          simp [lod, h5]
      · rintro y ⟨x, hx, rfl⟩
        refine Tot.iteb (fun h5 => ?_) (fun h5 => ?_)
        · refine Tot.need ⟨by omega, by omega⟩ (.some ?_)
          simp only [Bool.not_eq_true'] at h5
          rw [Int.toNat_natCast]
          exact (takeWhile_at h3 hx h5).symm
        · simp only [Bool.not_eq_false'] at h5
          rw [wrap64 (by omega) (by omega)]
          refine ih (v + 1) (by omega) (by omega) ?_ hs
          rw [take_step' hx]
          intro y hy
          rcases List.mem_append.1 hy with hy | hy
          · exact h3 y hy
          · rw [List.mem_singleton.1 hy]; exact h5
    · refine .some ?_
      simp only [decide_eq_false_iff_not] at h4
      rw [List.take_of_length_le (by omega)] at h3
      exact takeWhile_whole h3
theorem word_eq {n : Nat} {s : Str} (hn : s.length < n) (hs : s.length < 4611686018427387904) : lex_word n s = some (s.takeWhile lod) := by
  unfold lex_word
  obtain ⟨r, e, hr⟩ := word_l1 s n 0 (by omega) (by omega) (by simp) hs
  rw [show ((0 : Nat) : Int) = 0 from rfl] at e
  rw [e, Option.bind_some]
  cases r with
  | inl _ => rw [hr]; rfl
  | inr t => rw [hr]; rfl
theorem sign_l1 (s : Str) : ∀ (c : Nat) (v : Nat), 26 < v + c → v ≤ 26 → (∀ y ∈ g_lex_signs.take v, decide (s.take y.length = y) = false) →
    Tot (lex_sign_l1 s c v) (fun r => match r with | .inl _ => g_lex_signs.find? (fun y => decide (s.take y.length = y)) = none | .inr t => g_lex_signs.find? (fun y => decide (s.take y.length = y)) = some t) := by
  intro c
  induction c with
  | zero => intro v h1 h2; omega
  | succ c ih =>
    intro v h1 h2 h3
    unfold lex_sign_l1
    refine Tot.iteb (fun h4 => ?_) (fun h4 => ?_)
    · simp only [decide_eq_true_eq] at h4
      refine Tot.bind' (Tot.idx (by omega) (by have : g_lex_signs.length = 26 := rfl; omega) fun x hx => ?_)
      rw [Int.toNat_natCast] at hx
      rw [strings_HasPrefix_eq, Option.bind_some]
      refine Tot.iteb (fun h5 => .some ?_) (fun h5 => ?_)
      · exact find_at h3 hx h5
      · rw [wrap64 (by omega) (by omega)]
        refine ih (v + 1) (by omega) (by omega) ?_
        rw [take_step' hx]
        intro y hy
        rcases List.mem_append.1 hy with hy | hy
        · exact h3 y hy
        · rw [List.mem_singleton.1 hy]; exact h5
    · refine .some ?_
      simp only [decide_eq_false_iff_not] at h4
      rw [List.take_of_length_le (by have : g_lex_signs.length = 26 := rfl; omega)] at h3
      exact List.find?_eq_none.2 fun y hy => by simpa using h3 y hy
def signOf (s : Str) : Str := (g_lex_signs.find? (fun y => decide (s.take y.length = y))).getD []
theorem sign_eq {n : Nat} {s : Str} (hn : 26 < n) : lex_sign n s = some (signOf s) := by
  unfold lex_sign signOf
  obtain ⟨r, e, hr⟩ := sign_l1 s n 0 (by omega) (by omega) (by simp)
  rw [show ((0 : Nat) : Int) = 0 from rfl] at e
  rw [e, Option.bind_some]
  cases r with
  | inl _ => rw [hr]; rfl
  | inr t => rw [hr]; rfl
theorem signOf_len (s : Str) : signOf s = [] ∨ 1 ≤ (signOf s).length ∧ (signOf s).length ≤ s.length := by
  unfold signOf
  cases h : g_lex_signs.find? (fun y => decide (s.take y.length = y)) with
  | none => exact .inl rfl
  | some y =>
    have h1 := List.find?_some h
    have h2 := List.mem_of_find?_eq_some h
    simp only [decide_eq_true_eq] at h1
    have h3 := congrArg List.length h1
    rw [List.length_take] at h3
    have h4 : (g_lex_signs.all fun y => decide (1 ≤ y.length)) = true := by decide
    have h5 := List.all_eq_true.1 h4 y h2
    simp only [decide_eq_true_eq] at h5
    exact .inr ⟨h5, by show y.length ≤ _; omega⟩
theorem skip_l1 (s : Str) (hs : s.length < 4611686018427387904) : ∀ (c : Nat) (v : Nat), s.length < v + c → v ≤ s.length → Tot (lex_skip_l1 s c v) (fun r => ∃ k : Nat, v ≤ k ∧ k ≤ s.length ∧ (r = .inl (k : Int) ∨ r = .inr (k : Int))) := by
  intro c
  induction c with
  | zero => intro v h1 h2; omega
  | succ c ih =>
    intro v h1 h2
    unfold lex_skip_l1
    refine Tot.iteb (fun h4 => ?_) (fun h4 => .some ⟨v, by omega, h2, .inl rfl⟩)
    simp only [decide_eq_true_eq] at h4
    refine Tot.bind' (Tot.idx (by omega) h4 fun x hx => ?_)
    rw [Int.toNat_natCast] at hx
    rw [blank_eq, Option.bind_some]
    refine Tot.iteb (fun h5 => ?_) (fun h5 => ?_)
    · rw [wrap64 (by omega) (by omega)]
      exact (ih (v + 1) (by omega) (by omega)).mono fun r ⟨k, h6, h7, h8⟩ => ⟨k, by omega, h7, h8⟩
    · refine Tot.need ⟨by omega, by omega⟩ ?_
      rw [Int.toNat_natCast, strings_HasPrefix_eq, Option.bind_some]
      refine Tot.iteb (fun h6 => ?_) (fun h6 => .some ⟨v, by omega, h2, .inr rfl⟩)
      simp only [decide_eq_true_eq] at h6
      refine Tot.need ⟨by omega, by omega⟩ ?_
      rw [IndexByte_eq, Option.bind_some]
      refine Tot.iteb (fun h7 => .some ⟨s.length, h2, by omega, .inr rfl⟩) (fun h7 => ?_)
      simp only [decide_eq_false_iff_not, Int.not_lt] at h7
      obtain ⟨o, ho⟩ := Int.eq_ofNat_of_zero_le h7
      rw [ho]
      obtain ⟨h8, h9⟩ := Lib.indexByte_some ho
      have h10 : o < (s.drop v).length := (List.getElem?_eq_some_iff.1 h8).1
      rw [List.length_drop] at h10
      have h11 : o ≠ 0 := by
        rintro rfl
        have h12 := congrArg (·[0]?) h6
        simp only [List.getElem?_take_of_lt (show 0 < ([47, 47] : Str).length by decide)] at h12
        rw [h8] at h12
        revert h12; decide
      rw [wrap64 (by omega) (by omega)]
      exact (ih (v + o) (by omega) (by omega)).mono fun r ⟨k, h6, h7, h8⟩ => ⟨k, by omega, h7, h8⟩
theorem skip_tot {n : Nat} {s : Str} {v : Nat} (hs : s.length < 4611686018427387904) (hn : s.length < v + n) (hv : v ≤ s.length) : Tot (lex_skip n s v) fun r => ∃ k : Nat, v ≤ k ∧ k ≤ s.length ∧ r = k := by
  unfold lex_skip
  refine (skip_l1 s hs n v hn hv).bind fun r ⟨k, h1, h2, h3⟩ => ?_
  rcases h3 with rfl | rfl <;> exact .some ⟨k, h1, h2, rfl⟩
theorem value_l1 (x : Str × Bool) (hs : x.1.length < 4611686018427387904) : ∀ (c : Nat) (t : Int) (v : Nat), x.1.length < v + c → v ≤ x.1.length → Tot (lex_value_l1 x c t v) fun _ => True := by
  intro c
  induction c with
  | zero => intro t v h1 h2; omega
  | succ c ih =>
    intro t v h1 h2
    unfold lex_value_l1
    refine Tot.iteb (fun h4 => ?_) (fun h4 => .some trivial)
    simp only [decide_eq_true_eq] at h4
    refine Tot.need (by decide) ?_
    refine Tot.bind' (Tot.idx (by omega) h4 fun y hy => ?_)
    rw [IndexByte_eq, Option.bind_some]
    refine Tot.bind (P := fun _ => True) (Tot.iteb (fun _ => .some trivial) fun _ => .some trivial) fun y _ => ?_
    refine Tot.iteb (fun _ => .some trivial) fun _ => ?_
    rw [wrap64 (n := (v : Int) + 1) (by omega) (by omega)]
    exact ih _ (v + 1) (by omega) (by omega)
theorem value_l2 (s : Str) (hs : s.length < 4611686018427387904) : ∀ (c : Nat) (t : Int) (v : Nat), s.length < v + c → v ≤ s.length → Tot (lex_value_l2 s c t v) fun _ => True := by
  intro c
  induction c with
  | zero => intro t v h1 h2; omega
  | succ c ih =>
    intro t v h1 h2
    unfold lex_value_l2
    refine Tot.iteb (fun h4 => ?_) (fun h4 => .some trivial)
    simp only [decide_eq_true_eq] at h4
    refine Tot.need (by decide) ?_
    refine Tot.bind' (Tot.idx (by omega) h4 fun y hy => ?_)
    rw [IndexByte_eq, Option.bind_some]
    refine Tot.bind (P := fun _ => True) (Tot.iteb (fun _ => .some trivial) fun _ => .some trivial) fun y _ => ?_
    refine Tot.iteb (fun _ => .some trivial) fun _ => ?_
    rw [wrap64 (n := (v : Int) + 1) (by omega) (by omega)]
    exact ih _ (v + 1) (by omega) (by omega)
theorem CutPrefix_eq (a b : Str) : strings_CutPrefix a b = some (if a.take b.length = b then (a.drop b.length, true) else (a, false)) := by
  unfold strings_CutPrefix internal_stringslite_CutPrefix
  rw [HasPrefix_eq, Option.bind_some]
  by_cases h : a.take b.length = b
  · rw [decide_eq_true h, if_neg (by decide), if_pos h, need_of]
    · rfl
    · have := congrArg List.length h
      rw [List.length_take] at this
      omega
  · rw [decide_eq_false h, if_pos (by decide), if_neg h]; rfl
theorem value_tot {n : Nat} {s : Str} (hs : s.length < 4611686018427387904) (hn : s.length < n) : Tot (lex_value n s) fun _ => True := by
  unfold lex_value
  rw [CutPrefix_eq, Option.bind_some]
  have hl : ∀ x : Str × Bool, x = (if s.take ([48, 120] : Str).length = ([48, 120] : Str) then (s.drop ([48, 120] : Str).length, true) else (s, false)) → x.1.length ≤ s.length := by
    rintro x rfl
    split
    · rw [List.length_drop]; omega
    · exact Nat.le_refl _
  generalize (if s.take ([48, 120] : Str).length = ([48, 120] : Str) then (s.drop ([48, 120] : Str).length, true) else (s, false)) = x at hl
  have hx := hl x rfl
  refine Tot.iteb (fun _ => ?_) fun _ => ?_
  · exact (value_l1 x (by omega) n 0 0 (by omega) (by omega)).bind fun r _ => Tot.elim (fun _ _ => .some trivial) fun _ _ => .some trivial
  · exact (value_l2 s (by omega) n 0 0 (by omega) (by omega)).bind fun r _ => Tot.elim (fun _ _ => .some trivial) fun _ _ => .some trivial
theorem next_tot {n : Nat} {s : Str} {v : Nat} (hs : s.length < 4611686018427387904) (hn : s.length < n) (hn2 : 26 < n) (hv : v < s.length) :
    Tot (lex_next n s v) fun r => r.2 = 0 → (r.1.Kind_ = 1 ∨ r.1.Kind_ = 2 ∨ r.1.Kind_ = 3) ∧ r.1.At_ = v ∧ 1 ≤ r.1.Text_.length ∧ v + r.1.Text_.length ≤ s.length := by
  unfold lex_next
  refine Tot.need ⟨by omega, by omega⟩ ?_
  rw [Int.toNat_natCast, word_eq (by rw [List.length_drop]; omega) (by rw [List.length_drop]; omega), Option.bind_some]
  refine Tot.bind' (Tot.idx (by omega) (by omega) fun x hx => ?_)
  rw [Int.toNat_natCast] at hx
  have hd : s.drop v = x :: s.drop (v + 1) := by
    obtain ⟨h1, rfl⟩ := List.getElem?_eq_some_iff.1 hx
    exact List.drop_eq_getElem_cons h1
  have hle : ((s.drop v).takeWhile lod).length ≤ s.length - v := by
    have := (List.takeWhile_prefix (l := s.drop v) lod).length_le
    rwa [List.length_drop] at this
  have hpos : lod x = true → 1 ≤ ((s.drop v).takeWhile lod).length := by
    intro h
    rw [hd, List.takeWhile_cons_of_pos h, List.length_cons]; omega
  rw [Letter_eq, Option.bind_some]
  refine Tot.iteb (fun h1 => Tot.iteb (fun _ => .some fun h => by cases h) fun _ => .some fun _ => ⟨.inl rfl, rfl, hpos (by simp [lod, h1]), by simp only; omega⟩) fun h1 => ?_
  rw [Digit_eq, Option.bind_some]
  refine Tot.iteb (fun h2 => ?_) fun h2 => ?_
  · refine (value_tot (by omega) (by omega)).bind fun y _ => Tot.iteb (fun _ => .some fun h => by cases h) fun _ => .some fun _ => ⟨.inr (.inl rfl), rfl, hpos (by simp [lod, h2]), by simp only; omega⟩
  · refine Tot.need ⟨by omega, by omega⟩ ?_
    rw [sign_eq hn2, Option.bind_some]
    refine Tot.iteb (fun _ => .some fun h => by cases h) fun h3 => .some fun _ => ⟨.inr (.inr rfl), rfl, ?_⟩
    have h4 := signOf_len (s.drop v)
    simp only [decide_eq_false_iff_not] at h3
    rcases h4 with h4 | h4
    · exact absurd h4 h3
    · rw [List.length_drop] at h4
      exact ⟨h4.1, by simp only; omega⟩
/-- what the lexer's tokens are -/
def TokOk (l : List T_lex_Token) : Prop := ∀ t ∈ l, (t.Kind_ = 1 ∨ t.Kind_ = 2 ∨ t.Kind_ = 3) ∧ t.Text_ ≠ []
theorem Tokens_l1 {n : Nat} {s : Str} (hs : s.length ≤ 65536) (hn : s.length < n) (hn2 : 26 < n) : ∀ (c : Nat) (l : List T_lex_Token) (v : Nat), s.length < v + c → v ≤ s.length → TokOk l → l.length ≤ v →
    Tot (lex_Tokens_l1 n s c l v) fun r => match r with | .inl l => TokOk l ∧ l.length ≤ s.length | .inr x => x.2.1 ≠ 0 := by
  intro c
  induction c with
  | zero => intro l v h1 h2; omega
  | succ c ih =>
    intro l v h1 h2 h3 h4
    unfold lex_Tokens_l1
    refine Tot.iteb (fun h5 => ?_) fun h5 => .some ⟨h3, by omega⟩
    simp only [decide_eq_true_eq] at h5
    refine (next_tot (by omega) hn hn2 (by omega)).bind fun x hx => ?_
    refine Tot.iteb (fun h6 => .some (by simpa using h6)) fun h6 => ?_
    obtain ⟨k1, k2, k3, k4⟩ := hx (by simpa using h6)
    refine Tot.need (by simp only [List.length_singleton]; omega) ?_
    rw [wrap64 (by omega) (by omega)]
    refine (skip_tot (v := v + x.1.Text_.length) (by omega) (by omega) k4).bind fun r ⟨k, h7, h8, h9⟩ => ?_
    subst h9
    refine ih _ k (by omega) h8 ?_ (by simp only [List.length_append, List.length_singleton]; omega)
    intro t ht
    rcases List.mem_append.1 ht with ht | ht
    · exact h3 t ht
    · rw [List.mem_singleton.1 ht]
      exact ⟨k1, fun e => by rw [e] at k3; simp at k3⟩
theorem Tokens_tot {n : Nat} {s : Str} (hn : s.length < n) (hn2 : 26 < n) : Tot (lex_Tokens n s) fun r => r.2.1 = 0 → ∃ l, r.1 = l ++ [⟨4, s.length, [], 0⟩] ∧ TokOk l ∧ l.length ≤ s.length ∧ s.length ≤ 65536 := by
  unfold lex_Tokens
  refine Tot.iteb (fun _ => .some fun h => by cases h) fun h1 => ?_
  simp only [decide_eq_false_iff_not, Int.not_lt] at h1
  refine (skip_tot (v := 0) (by omega) (by omega) (by omega)).bind fun r ⟨k, h2, h3, h4⟩ => ?_
  subst h4
  refine (Tokens_l1 (by omega) hn hn2 n [] k (by omega) h3 (by simp [TokOk]) (by simp)).bind fun y hy => ?_
  refine Tot.elim (fun z e => ?_) (fun z e => ?_)
  · subst e
    refine Tot.need (by simp only [List.length_singleton]; omega) (.some fun _ => ⟨z, rfl, hy.1, hy.2, by omega⟩)
  · subst e
    exact .some fun h => absurd h hy
end Go.Proofs.YtolhahlnccekcaaDoor.Abs
