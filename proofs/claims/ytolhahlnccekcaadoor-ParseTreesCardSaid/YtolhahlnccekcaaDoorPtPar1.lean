/-
  The parser's models: each gives something.
-/
import Derived.Test.YtolhahlnccekcaaDoorPtTot
namespace Go.Proofs.YtolhahlnccekcaaDoor.Abs
open Go.RowKit
set_option linter.unusedVariables false
set_option linter.unusedSimpArgs false
structure PI (p : T_parse_parser) : Prop where
  lo : 0 ≤ p.at_
  hi : p.at_ < p.l_.length
  big : p.l_.length ≤ 65537
  toks : ∃ l z, p.l_ = l ++ [z] ∧ TokOk l ∧ z.Kind_ = 4
structure Gd (p p' : T_parse_parser) : Prop where
  inv : PI p'
  l : p'.l_ = p.l_
  at' : p.at_ ≤ p'.at_
  err : p.e_ ≠ 0 → p'.e_ ≠ 0 ∧ p'.at_ = p.at_
structure GA (p p' : T_parse_parser) : Prop extends Gd p p' where
  adv : p'.e_ = 0 → p.at_ < p'.at_
theorem Gd.refl {p : T_parse_parser} (h : PI p) : Gd p p := ⟨h, rfl, Int.le_refl _, fun h => ⟨h, rfl⟩⟩
theorem Gd.trans {p q r : T_parse_parser} (h : Gd p q) (k : Gd q r) : Gd p r := ⟨k.inv, k.l.trans h.l, Int.le_trans h.at' k.at', fun he => ⟨(k.err (h.err he).1).1, (k.err (h.err he).1).2.trans (h.err he).2⟩⟩
theorem Gd.e0 {p q : T_parse_parser} (h : Gd p q) (he : q.e_ = 0) : p.e_ = 0 := Classical.byContradiction fun hn => (h.err hn).1 he
theorem Gd.ga {p q r : T_parse_parser} (h : Gd p q) (k : GA q r) : GA p r := ⟨h.trans k.toGd, fun he => Int.lt_of_le_of_lt h.at' (k.adv he)⟩
theorem GA.gd {p q r : T_parse_parser} (h : GA p q) (k : Gd q r) : GA p r := ⟨h.toGd.trans k, fun he => Int.lt_of_lt_of_le (h.adv (k.e0 he)) k.at'⟩
theorem GA.ga {p q r : T_parse_parser} (h : GA p q) (k : GA q r) : GA p r := h.gd k.toGd
theorem Gd.len {p q : T_parse_parser} (h : Gd p q) : q.l_.length = p.l_.length := by rw [h.l]
section
variable {p : T_parse_parser} {n : Nat}
theorem token_tot (h : PI p) : Tot (p_parse_parser_token p) fun t => t.Kind_ ≠ 4 → p.at_ + 1 < p.l_.length := by
  unfold p_parse_parser_token
  refine Tot.bind' (Tot.idx h.lo h.hi fun x hx => .some fun hk => ?_)
  obtain ⟨l, z, h1, h2, h3⟩ := h.toks
  have h4 := h.lo
  have h5 := h.hi
  rw [h1] at hx h5 ⊢
  simp only [List.length_append, List.length_singleton] at h5 ⊢
  by_cases h6 : p.at_.toNat = l.length
  · rw [List.getElem?_append_right (by omega), h6, Nat.sub_self] at hx
    simp at hx
    subst hx
    exact absurd h3 hk
  · omega
theorem fail_tot (h : PI p) {e : Int} (he : e ≠ 0) : Tot (p_parse_parser_fail p e) fun q => Gd p q ∧ q.e_ ≠ 0 := by
  unfold p_parse_parser_fail
  refine Tot.iteb (fun h1 => ?_) fun h1 => .some ⟨.refl h, by simpa using h1⟩
  simp only [beq_iff_eq] at h1
  exact (token_tot h).bind fun t _ => .some ⟨⟨⟨h.lo, h.hi, h.big, h.toks⟩, rfl, Int.le_refl _, fun hn => absurd h1 hn⟩, he⟩
theorem node_tot (h : PI p) {k : Int} : Tot (p_parse_parser_node p k) fun r => Gd p r.2 ∧ r.1.List_ = [] := by
  unfold p_parse_parser_node
  have hp : PI { p with nodes_ := (IntKind.i64.wrap (p.nodes_ + (1 : Int))) } := ⟨h.lo, h.hi, h.big, h.toks⟩
  have hg : Gd p { p with nodes_ := (IntKind.i64.wrap (p.nodes_ + (1 : Int))) } := ⟨hp, rfl, Int.le_refl _, fun hn => ⟨hn, rfl⟩⟩
  refine Tot.iteb (fun h1 => ?_) fun h1 => ?_
  · exact (fail_tot hp (by decide)).bind fun q ⟨g, _⟩ => (token_tot g.inv).bind fun t _ => .some ⟨hg.trans g, rfl⟩
  · exact (token_tot hp).bind fun t _ => .some ⟨hg, rfl⟩
theorem Index_l1 (l : List Str) (s : Str) (hl : l.length < 1000) : ∀ (c : Nat) (v : Nat), l.length < v + c → v ≤ l.length → (∀ y ∈ l.take v, decide (s = y) = false) →
    Tot (slices_Index_L_string_string_l1 l s c v) fun r => match r with | .inl _ => (l.any fun y => decide (s = y)) = false | .inr k => 0 ≤ k ∧ (l.any fun y => decide (s = y)) = true := by
  intro c
  induction c with
  | zero => intro v h1 h2; omega
  | succ c ih =>
    intro v h1 h2 h3
    unfold slices_Index_L_string_string_l1
    refine Tot.iteb (fun h4 => ?_) (fun h4 => ?_)
    · simp only [decide_eq_true_eq] at h4
      refine Tot.bind' (Tot.idx (by omega) h4 fun x hx => ?_)
      rw [Int.toNat_natCast] at hx
      refine Tot.iteb (fun h5 => .some ⟨by omega, ?_⟩) (fun h5 => ?_)
      · exact List.any_eq_true.2 ⟨x, List.mem_of_getElem? hx, h5⟩
      · rw [wrap64 (by omega) (by omega)]
        refine ih (v + 1) (by omega) (by omega) ?_
        rw [take_step' hx]
        intro y hy
        rcases List.mem_append.1 hy with hy | hy
        · exact h3 y hy
        · rw [List.mem_singleton.1 hy]; exact h5
    · refine .some ?_
      simp only [decide_eq_false_iff_not] at h4
      rw [List.take_of_length_le (by omega)] at h3
      exact List.any_eq_false.2 fun y hy => by simp [h3 y hy]
def isWord (s : Str) : Bool := g_parse_words.any fun y => decide (s = y)
theorem Word_eq {s : Str} (hn : 13 < n) : parse_Word n s = some (isWord s) := by
  unfold parse_Word slices_Contains_L_string_string slices_Index_L_string_string
  obtain ⟨r, e, hr⟩ := Index_l1 g_parse_words s (by decide) n 0 (by have : g_parse_words.length = 13 := rfl; omega) (by omega) (by simp)
  rw [show ((0 : Nat) : Int) = 0 from rfl] at e
  rw [e, Option.bind_some]
  unfold isWord
  cases r with
  | inl _ => rw [hr]; rfl
  | inr k =>
    rw [hr.2]
    simp only [Sum.elim_inr, Option.bind_some, Option.some.injEq, decide_eq_true_eq]
    exact hr.1
theorem is_tot (h : PI p) (hn : 13 < n) {s : Str} : Tot (p_parse_parser_is n p s) fun b => b = true → p.e_ = 0 ∧ p.at_ + 1 < p.l_.length := by
  unfold p_parse_parser_is
  refine (token_tot h).bind fun t ht => ?_
  refine Tot.bind (P := fun b => b = true → p.e_ = 0 ∧ p.at_ + 1 < p.l_.length) ?_ fun b hb => .some hb
  refine Tot.iteb (fun h1 => ?_) fun h1 => .some fun h => by cases h
  simp only [beq_iff_eq] at h1
  refine Tot.iteb (fun h2 => ?_) fun h2 => .some fun h => by cases h
  refine Tot.iteb (fun h3 => .some fun _ => ⟨h1, ht ?_⟩) fun h3 => ?_
  · simp only [beq_iff_eq] at h3; omega
  refine Tot.iteb (fun h4 => ?_) fun h4 => .some fun h => by cases h
  rw [Word_eq hn, Option.bind_some]
  refine .some fun _ => ⟨h1, ht ?_⟩
  simp only [beq_iff_eq] at h4; omega
theorem step_gd (h : PI p) (he : p.e_ = 0) (hk : p.at_ + 1 < p.l_.length) : IntKind.i64.wrap (p.at_ + (1 : Int)) = p.at_ + 1 ∧ GA p { p with at_ := p.at_ + 1 } := by
  have h1 := h.lo
  have h2 := h.big
  refine ⟨wrap64 (by omega) (by omega), ⟨⟨⟨by simp only; omega, by simpa using hk, h.big, h.toks⟩, rfl, by simp only; omega, fun hn => absurd he hn⟩, fun _ => by simp only; omega⟩⟩
theorem take_tot (h : PI p) (hn : 13 < n) {s : Str} : Tot (p_parse_parser_take n p s) fun r => Gd p r.2 ∧ (r.1 = true → p.e_ = 0 ∧ GA p r.2 ∧ r.2.e_ = 0) ∧ (r.1 = false → r.2 = p) := by
  unfold p_parse_parser_take
  refine (is_tot h hn).bind fun b hb => ?_
  refine Tot.iteb (fun h1 => .some ⟨.refl h, (fun h => by cases h), fun _ => rfl⟩) fun h1 => ?_
  simp only [Bool.not_eq_false'] at h1
  obtain ⟨h2, h3⟩ := hb h1
  obtain ⟨h4, h5⟩ := step_gd h h2 h3
  rw [h4]
  exact .some ⟨h5.toGd, fun _ => ⟨h2, h5, h2⟩, fun h => by cases h⟩
theorem need_tot (h : PI p) (hn : 13 < n) {s : Str} : Tot (p_parse_parser_need n p s) fun q => GA p q := by
  unfold p_parse_parser_need
  refine (take_tot h hn).bind fun r ⟨h1, h2, h3⟩ => ?_
  refine Tot.iteb (fun h4 => ?_) fun h4 => .some (h2 (by simpa using h4)).2.1
  exact (fail_tot h1.inv (by decide)).bind fun q ⟨g, he⟩ => .some ⟨h1.trans g, fun h => absurd h he⟩
theorem name_tot (h : PI p) (hn : 13 < n) : Tot (p_parse_parser_name n p) fun r => GA p r.2 := by
  unfold p_parse_parser_name
  refine (token_tot h).bind fun t ht => ?_
  refine Tot.bind (P := fun b => b = false → p.e_ = 0 ∧ t.Kind_ = 1) ?_ fun b hb => ?_
  · refine Tot.iteb (fun h1 => .some fun h => by cases h) fun h1 => ?_
    refine Tot.iteb (fun h2 => .some fun h => by cases h) fun h2 => ?_
    rw [Word_eq hn, Option.bind_some]
    exact .some fun _ => ⟨by simpa using h1, by simpa using h2⟩
  · refine Tot.iteb (fun h1 => ?_) fun h1 => ?_
    · exact (fail_tot h (by decide)).bind fun q ⟨g, he⟩ => .some ⟨g, fun h => absurd h he⟩
    · obtain ⟨h2, h3⟩ := hb h1
      obtain ⟨h4, h5⟩ := step_gd h h2 (ht (by omega))
      rw [h4]
      exact .some h5
theorem number_tot (h : PI p) : Tot (p_parse_parser_number p) fun r => GA p r.2 := by
  unfold p_parse_parser_number
  refine (token_tot h).bind fun t ht => ?_
  refine Tot.bind (P := fun b => b = false → p.e_ = 0 ∧ t.Kind_ = 2) ?_ fun b hb => ?_
  · refine Tot.iteb (fun h1 => .some fun h => by cases h) fun h1 => .some fun h => ⟨by simpa using h1, by simpa using h⟩
  · refine Tot.iteb (fun h1 => ?_) fun h1 => ?_
    · exact (fail_tot h (by decide)).bind fun q ⟨g, he⟩ => .some ⟨g, fun h => absurd h he⟩
    · obtain ⟨h2, h3⟩ := hb h1
      obtain ⟨h4, h5⟩ := step_gd h h2 (ht (by omega))
      rw [h4]
      exact .some h5
theorem deep_tot (h : PI p) {a : Int} : Tot (p_parse_parser_deep p a) fun q => Gd p q := by
  unfold p_parse_parser_deep
  refine Tot.iteb (fun _ => ?_) fun _ => .some (.refl h)
  exact (fail_tot h (by decide)).bind fun q ⟨g, _⟩ => .some g
end
end Go.Proofs.YtolhahlnccekcaaDoor.Abs
namespace Go.Proofs.YtolhahlnccekcaaDoor.Abs
open Go.RowKit
set_option linter.unusedVariables false
set_option linter.unusedSimpArgs false
/-- what is left -/
def Lf (p : T_parse_parser) : Int := 16 * ((p.l_.length : Int) - p.at_)
theorem Gd.lf {p q : T_parse_parser} (h : Gd p q) : Lf q ≤ Lf p := by have := h.at'; unfold Lf; rw [h.len]; omega
theorem GA.lf {p q : T_parse_parser} (h : GA p q) (he : q.e_ = 0) : Lf q + 16 ≤ Lf p := by have := h.adv he; unfold Lf; rw [h.toGd.len]; omega
theorem PI.lf {p : T_parse_parser} (h : PI p) : 16 ≤ Lf p := by have := h.hi; unfold Lf; omega
section
variable {n : Nat} {p : T_parse_parser}
end
section
variable {n : Nat} {p : T_parse_parser}
end
end Go.Proofs.YtolhahlnccekcaaDoor.Abs
