/-
  ParseTrees, the lexer: numbers, signs, tokens.
-/
import Derived.Test.YtolhahlnccekcaaDoorPtTr1
namespace Go.Proofs.YtolhahlnccekcaaDoor.Abs
open Go.RowKit
set_option linter.unusedVariables false
set_option linter.unusedSimpArgs false
def foldv (base : Int) (dg : UInt8 → Int) : Str → Int → Option Int
  | [], t => some t
  | b :: l, t => if dg b < 0 ∨ 4294967295 < t * base + dg b then none else foldv base dg l (t * base + dg b)
def numR (o : Option Int) : Int ⊕ (Int × Bool) := match o with | some r => .inl r | none => .inr (0, false)
def decv (b : UInt8) : Int := if isDig b.toNat then (b.toNat : Int) - 48 else -1
theorem hexv_le (b : UInt8) : -1 ≤ hexv b ∧ hexv b ≤ 15 := by
  unfold hexv isDig
  split
  · rename_i h; simp only [Bool.and_eq_true, decide_eq_true_eq] at h; omega
  · split
    · omega
    · omega
theorem decv_le (b : UInt8) : -1 ≤ decv b ∧ decv b ≤ 9 := by
  unfold decv isDig
  split
  · rename_i h; simp only [Bool.and_eq_true, decide_eq_true_eq] at h; omega
  · omega
theorem idx_at {s : Str} {v : Nat} (h : v < s.length) : idxL s (v : Int) = some s[v] := by rw [idxL_nat]; exact List.getElem?_eq_getElem h
theorem value_l1_eq (x : Str × Bool) (hs : x.1.length < 4611686018427387904) : ∀ (c : Nat) (t : Int) (v : Nat), x.1.length < v + c → v ≤ x.1.length → 0 ≤ t → t ≤ 4294967295 → lex_value_l1 x c t v = some (numR (foldv 16 hexv (x.1.drop v) t)) := by
  intro c
  induction c with
  | zero => intro t v h1 h2; omega
  | succ c ih =>
    intro t v h1 h2 h3 h4
    unfold lex_value_l1
    by_cases h5 : v < x.1.length
    · have h6 := hexv_le x.1[v]
      rw [if_pos (by simpa using h5), need_of (by decide), idx_at h5, Option.bind_some, IndexByte_eq, Option.bind_some, hexv_eq, List.drop_eq_getElem_cons h5, wrap64 (n := t * 16) (by omega) (by omega), wrap64 (n := t * 16 + hexv x.1[v]) (by omega) (by omega), wrap64 (n := (v : Int) + 1) (by omega) (by omega)]
      unfold foldv
      by_cases h7 : hexv x.1[v] < 0
      · rw [if_pos (by simpa using h7), Option.bind_some, if_pos rfl, if_pos (.inl h7)]; rfl
      · rw [if_neg (by simpa using h7), Option.bind_some]
        by_cases h8 : 4294967295 < t * 16 + hexv x.1[v]
        · rw [if_pos (by simpa using h8), if_pos (.inr h8)]; rfl
        · rw [if_neg (by simpa using h8), if_neg (by omega)]
          exact ih _ (v + 1) (by omega) (by omega) (by omega) (by omega)
    · rw [if_neg (by simpa using h5), List.drop_eq_nil_of_le (by omega)]; rfl
theorem value_l2_eq (s : Str) (hs : s.length < 4611686018427387904) : ∀ (c : Nat) (t : Int) (v : Nat), s.length < v + c → v ≤ s.length → 0 ≤ t → t ≤ 4294967295 → lex_value_l2 s c t v = some (numR (foldv 10 decv (s.drop v) t)) := by
  intro c
  induction c with
  | zero => intro t v h1 h2; omega
  | succ c ih =>
    intro t v h1 h2 h3 h4
    unfold lex_value_l2
    by_cases h5 : v < s.length
    · have h6 := decv_le s[v]
      have hd : Lib.indexByte (([48, 49, 50, 51, 52, 53, 54, 55, 56, 57, 97, 98, 99, 100, 101, 102] : Str).take (10 : Int).toNat) (s[v].toNat : Int).toNat.toUInt8 = decv s[v] := decv_eq s[v]
      rw [if_pos (by simpa using h5), need_of (by decide), idx_at h5, Option.bind_some, IndexByte_eq, Option.bind_some, hd, List.drop_eq_getElem_cons h5, wrap64 (n := t * 10) (by omega) (by omega), wrap64 (n := t * 10 + decv s[v]) (by omega) (by omega), wrap64 (n := (v : Int) + 1) (by omega) (by omega)]
      unfold foldv
      by_cases h7 : decv s[v] < 0
      · rw [if_pos (by simpa using h7), Option.bind_some, if_pos rfl, if_pos (.inl h7)]; rfl
      · rw [if_neg (by simpa using h7), Option.bind_some]
        by_cases h8 : 4294967295 < t * 10 + decv s[v]
        · rw [if_pos (by simpa using h8), if_pos (.inr h8)]; rfl
        · rw [if_neg (by simpa using h8), if_neg (by omega)]
          exact ih _ (v + 1) (by omega) (by omega) (by omega) (by omega)
    · rw [if_neg (by simpa using h5), List.drop_eq_nil_of_le (by omega)]; rfl
theorem number_l1_eq (s : Str) (hs : s.length < 4611686018427387904) : ∀ (c : Nat) (t : Int) (v : Nat), s.length < v + c → v ≤ s.length → 0 ≤ t → t ≤ 4294967295 → remontoireref09_number_l1 s c v t = some (numR (foldv 16 hexv (s.drop v) t)) := by
  intro c
  induction c with
  | zero => intro t v h1 h2; omega
  | succ c ih =>
    intro t v h1 h2 h3 h4
    unfold remontoireref09_number_l1
    by_cases h5 : v < s.length
    · have hb : s[v].toNat < 256 := s[v].toNat_lt
      have hx := hexv_le s[v]
      rw [if_pos (by simpa using h5), idx_at h5, Option.bind_some, List.drop_eq_getElem_cons h5, digit_eq, Option.bind_some, wrapu64 (n := (s[v].toNat : Int)) (by omega) (by omega), wrapu64 (n := t * 16) (by omega) (by omega), wrap64 (n := (v : Int) + 1) (by omega) (by omega)]
      unfold foldv
      by_cases h6 : isDig s[v].toNat = true
      · have h7 := h6
        unfold isDig at h7
        simp only [Bool.and_eq_true, decide_eq_true_eq] at h7
        have he : hexv s[v] = (s[v].toNat : Int) - 48 := by unfold hexv; rw [if_pos h6]
        rw [if_pos h6, if_neg (by simp; omega), Option.bind_some, if_neg (by decide), wrapu64 (n := (s[v].toNat : Int) - 48) (by omega) (by omega), wrapu64 (n := t * 16 + ((s[v].toNat : Int) - 48)) (by omega) (by omega), if_neg (by simp; omega), he]
        by_cases h8 : 4294967295 < t * 16 + ((s[v].toNat : Int) - 48)
        · rw [if_pos (by simpa using h8), if_pos (.inr h8)]; rfl
        · rw [if_neg (by simpa using h8), if_neg (by omega)]
          exact ih _ (v + 1) (by omega) (by omega) (by omega) (by omega)
      · rw [if_neg h6]
        by_cases h7 : 97 ≤ s[v].toNat ∧ s[v].toNat ≤ 102
        · have he : hexv s[v] = (s[v].toNat : Int) - 87 := by unfold hexv; rw [if_neg h6, if_pos h7]
          rw [if_pos (by simp; omega), Option.bind_some, if_pos (by simp; omega), wrapu64 (n := (s[v].toNat : Int) - 87) (by omega) (by omega), wrapu64 (n := t * 16 + ((s[v].toNat : Int) - 87)) (by omega) (by omega), if_neg (by simp; omega), he]
          by_cases h8 : 4294967295 < t * 16 + ((s[v].toNat : Int) - 87)
          · rw [if_pos (by simpa using h8), if_pos (.inr h8)]; rfl
          · rw [if_neg (by simpa using h8), if_neg (by omega)]
            exact ih _ (v + 1) (by omega) (by omega) (by omega) (by omega)
        · have he : hexv s[v] = -1 := by unfold hexv; rw [if_neg h6, if_neg h7]
          have hy : (if (decide ((97 : Int) ≤ (s[v].toNat : Int))) = true then some (decide ((s[v].toNat : Int) ≤ (102 : Int))) else some false) = some false := by
            by_cases h8 : 97 ≤ s[v].toNat
            · rw [if_pos (by simp; omega)]; simp; omega
            · rw [if_neg (by simp; omega)]
          rw [hy, Option.bind_some, if_neg (by decide), if_pos (by decide), he, if_pos (.inl (by decide))]; rfl
    · rw [if_neg (by simpa using h5), List.drop_eq_nil_of_le (by omega)]; rfl
theorem number_l2_eq (s : Str) (hs : s.length < 4611686018427387904) : ∀ (c : Nat) (t : Int) (v : Nat), s.length < v + c → v ≤ s.length → 0 ≤ t → t ≤ 4294967295 → remontoireref09_number_l2 s c v t = some (numR (foldv 10 decv (s.drop v) t)) := by
  intro c
  induction c with
  | zero => intro t v h1 h2; omega
  | succ c ih =>
    intro t v h1 h2 h3 h4
    unfold remontoireref09_number_l2
    by_cases h5 : v < s.length
    · have hb : s[v].toNat < 256 := s[v].toNat_lt
      have hx := decv_le s[v]
      rw [if_pos (by simpa using h5), idx_at h5, Option.bind_some, List.drop_eq_getElem_cons h5, digit_eq, Option.bind_some, wrapu64 (n := (s[v].toNat : Int)) (by omega) (by omega), wrapu64 (n := t * 10) (by omega) (by omega), wrap64 (n := (v : Int) + 1) (by omega) (by omega)]
      unfold foldv
      by_cases h6 : isDig s[v].toNat = true
      · have h7 := h6
        unfold isDig at h7
        simp only [Bool.and_eq_true, decide_eq_true_eq] at h7
        have he : decv s[v] = (s[v].toNat : Int) - 48 := by unfold decv; rw [if_pos h6]
        rw [if_pos h6, if_neg (by simp; omega), Option.bind_some, if_neg (by decide), wrapu64 (n := (s[v].toNat : Int) - 48) (by omega) (by omega), wrapu64 (n := t * 10 + ((s[v].toNat : Int) - 48)) (by omega) (by omega), if_neg (by simp; omega), he]
        by_cases h8 : 4294967295 < t * 10 + ((s[v].toNat : Int) - 48)
        · rw [if_pos (by simpa using h8), if_pos (.inr h8)]; rfl
        · rw [if_neg (by simpa using h8), if_neg (by omega)]
          exact ih _ (v + 1) (by omega) (by omega) (by omega) (by omega)
      · have he : decv s[v] = -1 := by unfold decv; rw [if_neg h6]
        rw [if_neg h6, he]
        simp only [show ((-1 : Int) < 0) from by decide, true_or, if_true]
        by_cases h7 : 97 ≤ s[v].toNat ∧ s[v].toNat ≤ 102
        · rw [if_pos (by simp; omega), Option.bind_some, if_pos (by simp; omega), wrapu64 (n := (s[v].toNat : Int) - 87) (by omega) (by omega), if_pos (by simp; omega)]; rfl
        · have hy : (if (decide ((97 : Int) ≤ (s[v].toNat : Int))) = true then some (decide ((s[v].toNat : Int) ≤ (102 : Int))) else some false) = some false := by
            by_cases h8 : 97 ≤ s[v].toNat
            · rw [if_pos (by simp; omega)]; simp; omega
            · rw [if_neg (by simp; omega)]
          rw [hy, Option.bind_some, if_neg (by decide), if_pos (by decide)]; rfl
    · rw [if_neg (by simpa using h5), List.drop_eq_nil_of_le (by omega)]; rfl
theorem number_eq {n : Nat} {s : Str} (hs : s.length < 4611686018427387904) (hn : s.length < n) : remontoireref09_number n s = lex_value n s := by
  unfold remontoireref09_number lex_value
  rw [CutPrefix_eq, Option.bind_some]
  have hy : (if (decide ((1 : Int) < (s.length : Int))) = true then (idxL s (0 : Int)).bind fun x3 => if ((x3.toNat : Int) == (48 : Int)) = true then (idxL s (1 : Int)).bind fun x10 => some ((x10.toNat : Int) == (120 : Int)) else some false else some false) = some (decide (s.take 2 = [48, 120])) := by
    match s with
    | [] => rfl
    | [a] => simp
    | a :: b :: l =>
      rw [if_pos (by simp; omega)]
      show ((if ((a.toNat : Int) == (48 : Int)) = true then some ((b.toNat : Int) == (120 : Int)) else some false) : Option Bool) = some (decide ([a, b] = [48, 120]))
      by_cases h1 : a = 48
      · subst h1
        by_cases h2 : b = 120
        · subst h2; rfl
        · have : b.toNat ≠ 120 := fun e => h2 (UInt8.toNat_inj.1 (by simpa using e))
          rw [if_pos (by decide)]
          simp [h2]; omega
      · have : a.toNat ≠ 48 := fun e => h1 (UInt8.toNat_inj.1 (by simpa using e))
        rw [if_neg (by simp; omega)]
        simp [h1]
  rw [hy, Option.bind_some]
  have h2 : ([48, 120] : Str).length = 2 := rfl
  rw [h2]
  by_cases h : s.take 2 = ([48, 120] : Str)
  · have hl : 2 ≤ s.length := by
      have := congrArg List.length h
      rw [List.length_take] at this
      simp only [List.length_cons, List.length_nil] at this
      omega
    rw [if_pos (by simpa using h), if_pos h]
    simp only [if_true]
    rw [show (0 : Int) = ((0 : Nat) : Int) from rfl, value_l1_eq (s.drop 2, true) (by simp; omega) n _ 0 (by simp; omega) (by omega) (by decide) (by decide), Option.bind_some]
    simp only [List.drop_zero]
    by_cases h3 : 2 = s.length
    · rw [if_pos (by simp; omega), List.drop_eq_nil_of_le (by omega)]; rfl
    · rw [if_neg (by simp; omega), show (2 : Int) = ((2 : Nat) : Int) from rfl, number_l1_eq s hs n _ 2 (by omega) (by omega) (by decide) (by decide), Option.bind_some]
      have hne : decide (s.drop 2 ≠ []) = true := by
        simp only [ne_eq, decide_eq_true_eq, List.drop_eq_nil_iff]; omega
      rw [hne]
  · rw [if_neg (by simpa using h), if_neg h]
    simp only [Bool.false_eq_true, if_false]
    have e1 : lex_value_l2 s n 0 0 = some (numR (foldv 10 decv s 0)) := value_l2_eq s hs n 0 0 (by omega) (by omega) (by decide) (by decide)
    rw [e1, Option.bind_some]
    by_cases h3 : s = []
    · subst h3; rfl
    · have hl : 0 < s.length := List.length_pos_iff.2 h3
      have this : remontoireref09_number_l2 s n 0 0 = some (numR (foldv 10 decv s 0)) := number_l2_eq s hs n 0 0 (by omega) (by omega) (by decide) (by decide)
      rw [if_neg (by simp; omega), this, Option.bind_some]
      have hne : decide (s ≠ []) = true := by simp [h3]
      rw [hne]
/-- the document's order of signs finds the same -/
theorem signs_order (s : Str) : remontoireref09_signLen_k1.find? (fun y => decide (s.take y.length = y)) = g_lex_signs.find? (fun y => decide (s.take y.length = y)) := by
  have h : decide (s.take ([60, 60, 60] : Str).length = [60, 60, 60]) = true → decide (s.take ([45, 62] : Str).length = [45, 62]) = false ∧ decide (s.take ([46, 46] : Str).length = [46, 46]) = false ∧ decide (s.take ([61, 61] : Str).length = [61, 61]) = false := by
    match s with
    | [] => intro h; simp at h
    | a :: l =>
      intro h
      simp only [List.length_cons, List.length_nil, List.take_succ_cons, List.cons.injEq, decide_eq_true_eq] at h
      obtain ⟨rfl, _⟩ := h
      refine ⟨decide_eq_false ?_, decide_eq_false ?_, decide_eq_false ?_⟩ <;> · intro e; simp only [List.length_cons, List.length_nil, List.take_succ_cons, List.cons.injEq] at e; exact absurd e.1 (by decide)
  unfold remontoireref09_signLen_k1 g_lex_signs
  cases h1 : decide (s.take ([60, 60, 60] : Str).length = [60, 60, 60]) with
  | true =>
    obtain ⟨h2, h3, h4⟩ := h h1
    simp only [List.find?_cons, h1, h2, h3, h4]
  | false => simp only [List.find?_cons, h1]
theorem take_drop_pre {s : Str} {v : Nat} {y : Str} (h : v + y.length ≤ s.length) : ((s.take (v + y.length)).drop v) = (s.drop v).take y.length := by
  rw [List.drop_take]
  congr 1; omega
theorem signLen_l1 (s : Str) (hs : s.length < 4611686018427387904) (v : Nat) (hv : v ≤ s.length) : ∀ (c : Nat) (k : Nat), 26 < k + c → k ≤ 26 → (∀ y ∈ remontoireref09_signLen_k1.take k, decide ((s.drop v).take y.length = y) = false) →
    Tot (remontoireref09_signLen_l1 v s c k) (fun r => match r with | .inl _ => remontoireref09_signLen_k1.find? (fun y => decide ((s.drop v).take y.length = y)) = none | .inr t => ∃ y, t = (y.length : Int) ∧ remontoireref09_signLen_k1.find? (fun y => decide ((s.drop v).take y.length = y)) = some y) := by
  intro c
  induction c with
  | zero => intro k h1 h2; omega
  | succ c ih =>
    intro k h1 h2 h3
    have hl : remontoireref09_signLen_k1.length = 26 := rfl
    have hmax : (remontoireref09_signLen_k1.all fun y => decide (y.length ≤ 3)) = true := by decide
    unfold remontoireref09_signLen_l1
    refine Tot.iteb (fun h4 => ?_) (fun h4 => ?_)
    · simp only [decide_eq_true_eq] at h4
      refine Tot.bind' (Tot.idx (by omega) (by omega) fun x hx => ?_)
      rw [Int.toNat_natCast] at hx
      have hx3 : x.length ≤ 3 := by simpa using List.all_eq_true.1 hmax x (List.mem_of_getElem? hx)
      rw [wrap64 (n := (v : Int) + x.length) (by omega) (by omega)]
      have hy : (if (decide (((v : Int) + (x.length : Int)) ≤ (s.length : Int))) = true then need ((0 : Int) ≤ (v : Int) ∧ (v : Int) ≤ ((v : Int) + (x.length : Int)) ∧ ((v : Int) + (x.length : Int)) ≤ (s.length : Int)) (some (decide (((s.take ((v : Int) + (x.length : Int)).toNat).drop (v : Int).toNat) = x))) else some false) = some (decide ((s.drop v).take x.length = x)) := by
        by_cases h5 : v + x.length ≤ s.length
        · rw [if_pos (by simp; omega), need_of (by omega), Int.toNat_natCast, show ((v : Int) + (x.length : Int)).toNat = v + x.length by omega, take_drop_pre h5]
        · rw [if_neg (by simp; omega), decide_eq_false]
          intro e
          have := congrArg List.length e
          rw [List.length_take, List.length_drop] at this
          omega
      rw [hy, Option.bind_some]
      refine Tot.iteb (fun h5 => .some ⟨x, rfl, find_at h3 hx h5⟩) (fun h5 => ?_)
      rw [wrap64 (by omega) (by omega)]
      refine ih (k + 1) (by omega) (by omega) ?_
      rw [take_step' hx]
      intro y hy
      rcases List.mem_append.1 hy with hy | hy
      · exact h3 y hy
      · rw [List.mem_singleton.1 hy]; exact h5
    · refine .some ?_
      simp only [decide_eq_false_iff_not] at h4
      rw [List.take_of_length_le (by omega)] at h3
      exact List.find?_eq_none.2 fun y hy => by simpa using h3 y hy
theorem signLen_eq {n : Nat} {s : Str} {v : Nat} (hs : s.length < 4611686018427387904) (hn : 26 < n) (hv : v ≤ s.length) : remontoireref09_signLen n s v = some ((signOf (s.drop v)).length : Int) := by
  unfold remontoireref09_signLen signOf
  obtain ⟨r, e, hr⟩ := signLen_l1 s hs v hv n 0 (by omega) (by omega) (by simp)
  rw [show ((0 : Nat) : Int) = 0 from rfl] at e
  rw [e, Option.bind_some, ← signs_order]
  cases r with
  | inl _ => rw [hr]; rfl
  | inr t => obtain ⟨y, rfl, hy⟩ := hr; rw [hy]; rfl
theorem signOf_take (s : Str) : s.take (signOf s).length = signOf s := by
  unfold signOf
  cases h : g_lex_signs.find? (fun y => decide (s.take y.length = y)) with
  | none => rfl
  | some y => simpa using List.find?_some h
/-- the end of a word -/
theorem word_l2 (s : Str) (hs : s.length < 4611686018427387904) : ∀ (c : Nat) (v : Nat), s.length < v + c → v ≤ s.length → remontoireref09_Tokens_l2 s c v = some ((v + ((s.drop v).takeWhile lod).length : Nat) : Int) := by
  intro c
  induction c with
  | zero => intro v h1 h2; omega
  | succ c ih =>
    intro v h1 h2
    unfold remontoireref09_Tokens_l2
    by_cases h4 : v < s.length
    · rw [if_pos (by simpa using h4), idx_at h4, Option.bind_some, letter_eq, Option.bind_some, digit_eq, Option.bind_some, List.drop_eq_getElem_cons h4]
      have hy : (if isLet (s[v].toNat : Int) = true then some true else some (isDig (s[v].toNat : Int))) = some (lod s[v]) := by
        unfold lod
        cases isLet (s[v].toNat : Int) <;> simp
      rw [hy, Option.bind_some]
      by_cases h5 : lod s[v] = true
      · rw [if_pos h5, wrap64 (by omega) (by omega), List.takeWhile_cons_of_pos h5]
        have := ih (v + 1) (by omega) (by omega)
        rw [show ((v : Int) + 1) = ((v + 1 : Nat) : Int) by omega, this, List.length_cons]
        congr 2; omega
      · rw [if_neg h5, List.takeWhile_cons_of_neg h5]; rfl
    · rw [if_neg (by simpa using h4), Option.bind_some, if_neg (by decide), List.drop_eq_nil_of_le (by omega)]; rfl
def cT (t : T_lex_Token) : T_remontoireref09_T := ⟨t.Kind_, t.At_, t.Text_, t.Num_⟩
theorem Tokens_l1_sim {n : Nat} {s : Str} (hs : s.length ≤ 65536) (hn : s.length < n) (hn2 : 26 < n) : ∀ (c : Nat) (l : List T_lex_Token) (v : Nat) (r : _), v ≤ s.length → lex_Tokens_l1 n s c l v = some r →
    remontoireref09_Tokens_l1 n s c (l.map cT) v = some (r.map (·.map cT) (fun x => (x.1.map cT, x.2))) := by
  intro c
  induction c with
  | zero => intro l v r _ h; cases h
  | succ c ih =>
    intro l v r hv h
    unfold lex_Tokens_l1 at h
    unfold remontoireref09_Tokens_l1
    by_cases h1 : v < s.length
    · rw [if_pos (by simpa using h1)] at h ⊢
      have hx : s[v]? = some s[v] := List.getElem?_eq_getElem h1
      unfold lex_next at h
      rw [need_of ⟨by omega, by omega⟩, Int.toNat_natCast, word_eq (by rw [List.length_drop]; omega) (by rw [List.length_drop]; omega), Option.bind_some, idx_at h1, Option.bind_some, Letter_eq, Option.bind_some, Digit_eq, Option.bind_some, need_of ⟨by omega, by omega⟩, sign_eq hn2, Option.bind_some] at h
      have hle : ((s.drop v).takeWhile lod).length ≤ s.length - v := by
        have := (List.takeWhile_prefix (l := s.drop v) lod).length_le
        rwa [List.length_drop] at this
      have hw : (s.take (v + ((s.drop v).takeWhile lod).length)).drop v = (s.drop v).takeWhile lod := by
        rw [take_drop_pre (by omega)]
        exact (List.prefix_iff_eq_take.1 (List.takeWhile_prefix lod)).symm
      rw [word_l2 s (by omega) n v (by omega) (by omega), Option.bind_some, need_of ⟨by omega, by omega, by omega⟩, idx_at h1, Option.bind_some, letter_eq, Option.bind_some, Int.toNat_natCast, Int.toNat_natCast, hw, digit_eq, Option.bind_some]
      have fin : ∀ (t : T_lex_Token) (u : Nat), u ≤ s.length → (lex_skip n s u).bind (fun x => lex_Tokens_l1 n s c (l ++ [t]) x) = some r →
          (remontoireref09_blanks n s u).bind (fun x => remontoireref09_Tokens_l1 n s c (l.map cT ++ [cT t]) x) = some (r.map (·.map cT) (fun x => (x.1.map cT, x.2))) := by
        intro t u hu h
        rw [blanks_eq (by omega) hn hu]
        obtain ⟨_, e, k, hk1, hk2, rfl⟩ := skip_tot (n := n) (s := s) (v := u) (by omega) (by omega) hu
        rw [e, Option.bind_some] at h ⊢
        have := ih (l ++ [t]) k r hk2 h
        rwa [List.map_append, List.map_cons, List.map_nil] at this
      generalize hwd : (s.drop v).takeWhile lod = wd at h hle hw ⊢
      by_cases h2 : isLet (s[v].toNat : Int) = true
      · rw [if_pos h2] at h ⊢
        by_cases h3 : 32 < wd.length
        · rw [if_pos (by simp; omega)] at h ⊢
          rw [Option.bind_some, if_pos (by decide)] at h
          cases h; rfl
        · rw [if_neg (by simp; omega)] at h ⊢
          rw [Option.bind_some, if_neg (by simp)] at h
          obtain ⟨h4, h⟩ := need_some h
          rw [need_of (by simpa using h4)]
          rw [wrap64 (by simp only; omega) (by simp only; omega)] at h
          exact fin ⟨1, v, wd, 0⟩ (v + wd.length) (by omega) h
      · rw [if_neg h2] at h ⊢
        by_cases h3 : isDig (s[v].toNat : Int) = true
        · rw [if_pos h3] at h ⊢
          rw [number_eq (by omega) (by omega)]
          obtain ⟨x, e, _⟩ := value_tot (n := n) (s := wd) (by omega) (by omega)
          rw [e, Option.bind_some] at h ⊢
          by_cases h4 : (!x.2) = true
          · rw [if_pos h4] at h ⊢
            rw [Option.bind_some, if_pos (by decide)] at h
            cases h; rfl
          · rw [if_neg h4] at h ⊢
            rw [Option.bind_some, if_neg (by simp)] at h
            obtain ⟨h5, h⟩ := need_some h
            rw [need_of (by simpa using h5)]
            rw [wrap64 (by simp only; omega) (by simp only; omega)] at h
            exact fin ⟨2, v, wd, x.1⟩ (v + wd.length) (by omega) h
        · rw [if_neg h3] at h ⊢
          rw [signLen_eq (by omega) hn2 (by omega), Option.bind_some]
          have hsl := signOf_len (s.drop v)
          rw [List.length_drop] at hsl
          by_cases h4 : signOf (s.drop v) = []
          · rw [if_pos (by simpa using h4)] at h
            rw [Option.bind_some, if_pos (by decide)] at h
            rw [h4, wrap64 (by rw [List.length_nil]; omega) (by rw [List.length_nil]; omega), if_pos (by simp)]
            cases h; rfl
          · have hsl := hsl.resolve_left h4
            rw [if_neg (by simpa using h4)] at h
            rw [Option.bind_some, if_neg (by simp)] at h
            obtain ⟨h5, h⟩ := need_some h
            rw [wrap64 (by omega) (by omega), if_neg (by simp; omega), need_of ⟨by omega, by omega, by omega⟩, need_of (by simpa using h5)]
            rw [wrap64 (by simp only; omega) (by simp only; omega)] at h
            have e1 : (s.take ((v : Int) + ((signOf (s.drop v)).length : Int)).toNat).drop v = signOf (s.drop v) := by
              rw [show ((v : Int) + ((signOf (s.drop v)).length : Int)).toNat = v + (signOf (s.drop v)).length by omega, take_drop_pre (by omega), signOf_take]
            rw [e1]
            exact fin ⟨3, v, signOf (s.drop v), 0⟩ (v + (signOf (s.drop v)).length) (by omega) h
    · rw [if_neg (by simpa using h1)] at h ⊢
      cases h; rfl
theorem Tokens_sim {n : Nat} {s : Str} (hn : s.length < n) (hn2 : 26 < n) {r : List T_lex_Token × Int × Int} (h : lex_Tokens n s = some r) : remontoireref09_Tokens n s = some (r.1.map cT, r.2) := by
  unfold lex_Tokens at h
  unfold remontoireref09_Tokens
  by_cases h1 : 65536 < s.length
  · rw [if_pos (by simp; omega)] at h ⊢
    cases h; rfl
  · rw [if_neg (by simp; omega)] at h ⊢
    have e0 : remontoireref09_blanks n s (0 : Int) = lex_skip n s 0 := blanks_eq (v := 0) (by omega) hn (by omega)
    obtain ⟨_, e, k, hk1, hk2, rfl⟩ := skip_tot (n := n) (s := s) (v := 0) (by omega) (by omega) (by omega)
    have e1 : lex_skip n s 0 = some (k : Int) := e
    rw [e0, e1, Option.bind_some]
    rw [e1, Option.bind_some] at h
    obtain ⟨y, hy, h⟩ := bind_some h
    have e2 := Tokens_l1_sim (by omega) hn hn2 n [] k y hk2 hy
    rw [List.map_nil] at e2
    rw [e2, Option.bind_some]
    cases y with
    | inl y =>
      obtain ⟨h2, h⟩ := need_some h
      simp only [Sum.map_inl, Sum.elim_inl]
      rw [need_of (by simpa using h2)]
      cases h
      simp [cT]
    | inr y =>
      cases h; rfl
end Go.Proofs.YtolhahlnccekcaaDoor.Abs
