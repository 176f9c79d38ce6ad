/-
  The parser's models: each gives something.
-/
import Derived.Test.YtolhahlnccekcaaDoorPwTot
namespace Go.Proofs.YtolhahlnccekcaaDoor.Abs
open Go.RowKit
set_option linter.unusedVariables false
set_option linter.unusedSimpArgs false
structure PI (p : T_parse_parser) : Prop where
  lo : 0 ≤ p.at_
  hi : p.at_ < p.l_.length
  big : p.l_.length ≤ 65537
  toks : ∃ l z, p.l_ = l ++ [z] ∧ TokOk l ∧ z.Kind_ = 4
structure Gd (p p' : T_parse_parser) : Prop where
  inv : PI p'
  l : p'.l_ = p.l_
  at' : p.at_ ≤ p'.at_
  err' : p.e_ ≠ 0 → p'.e_ = p.e_ ∧ p'.at_ = p.at_
structure GA (p p' : T_parse_parser) : Prop extends Gd p p' where
  adv : p'.e_ = 0 → p.at_ < p'.at_
theorem Gd.err {p q : T_parse_parser} (h : Gd p q) : p.e_ ≠ 0 → q.e_ ≠ 0 ∧ q.at_ = p.at_ := fun he => ⟨by rw [(h.err' he).1]; exact he, (h.err' he).2⟩
theorem Gd.refl {p : T_parse_parser} (h : PI p) : Gd p p := ⟨h, rfl, Int.le_refl _, fun h => ⟨rfl, rfl⟩⟩
theorem Gd.trans {p q r : T_parse_parser} (h : Gd p q) (k : Gd q r) : Gd p r := ⟨k.inv, k.l.trans h.l, Int.le_trans h.at' k.at', fun he => ⟨(k.err' (h.err he).1).1.trans (h.err' he).1, (k.err' (h.err he).1).2.trans (h.err' he).2⟩⟩
theorem Gd.e0 {p q : T_parse_parser} (h : Gd p q) (he : q.e_ = 0) : p.e_ = 0 := Classical.byContradiction fun hn => (h.err hn).1 he
theorem Gd.ga {p q r : T_parse_parser} (h : Gd p q) (k : GA q r) : GA p r := ⟨h.trans k.toGd, fun he => Int.lt_of_le_of_lt h.at' (k.adv he)⟩
theorem GA.gd {p q r : T_parse_parser} (h : GA p q) (k : Gd q r) : GA p r := ⟨h.toGd.trans k, fun he => Int.lt_of_lt_of_le (h.adv (k.e0 he)) k.at'⟩
theorem GA.ga {p q r : T_parse_parser} (h : GA p q) (k : GA q r) : GA p r := h.gd k.toGd
theorem Gd.len {p q : T_parse_parser} (h : Gd p q) : q.l_.length = p.l_.length := by rw [h.l]
section
variable {p : T_parse_parser} {n : Nat}
theorem token_tot (h : PI p) : Tot (p_parse_parser_token p) fun t => t.Kind_ ≠ 4 → p.at_ + 1 < p.l_.length := by
  unfold p_parse_parser_token
  refine Tot.bind' (Tot.idx h.lo h.hi fun x hx => .some fun hk => ?_)
  obtain ⟨l, z, h1, h2, h3⟩ := h.toks
  have h4 := h.lo
  have h5 := h.hi
  rw [h1] at hx h5 ⊢
  simp only [List.length_append, List.length_singleton] at h5 ⊢
  by_cases h6 : p.at_.toNat = l.length
  · rw [List.getElem?_append_right (by omega), h6, Nat.sub_self] at hx
    simp at hx
    subst hx
    exact absurd h3 hk
  · omega
theorem fail_tot (h : PI p) {e : Int} (he : e ≠ 0) : Tot (p_parse_parser_fail p e) fun q => Gd p q ∧ q.e_ ≠ 0 := by
  unfold p_parse_parser_fail
  refine Tot.iteb (fun h1 => ?_) fun h1 => .some ⟨.refl h, by simpa using h1⟩
  simp only [beq_iff_eq] at h1
  exact (token_tot h).bind fun t _ => .some ⟨⟨⟨h.lo, h.hi, h.big, h.toks⟩, rfl, Int.le_refl _, fun hn => absurd h1 hn⟩, he⟩
theorem node_tot (h : PI p) {k : Int} : Tot (p_parse_parser_node p k) fun r => Gd p r.2 ∧ r.1.List_ = [] := by
  unfold p_parse_parser_node
  have hp : PI { p with nodes_ := (IntKind.i64.wrap (p.nodes_ + (1 : Int))) } := ⟨h.lo, h.hi, h.big, h.toks⟩
  have hg : Gd p { p with nodes_ := (IntKind.i64.wrap (p.nodes_ + (1 : Int))) } := ⟨hp, rfl, Int.le_refl _, fun hn => ⟨rfl, rfl⟩⟩
  refine Tot.iteb (fun h1 => ?_) fun h1 => ?_
  · exact (fail_tot hp (by decide)).bind fun q ⟨g, _⟩ => (token_tot g.inv).bind fun t _ => .some ⟨hg.trans g, rfl⟩
  · exact (token_tot hp).bind fun t _ => .some ⟨hg, rfl⟩
theorem Index_l1 (l : List Str) (s : Str) (hl : l.length < 1000) : ∀ (c : Nat) (v : Nat), l.length < v + c → v ≤ l.length → (∀ y ∈ l.take v, decide (s = y) = false) →
    Tot (slices_Index_L_string_string_l1 l s c v) fun r => match r with | .inl _ => (l.any fun y => decide (s = y)) = false | .inr k => 0 ≤ k ∧ (l.any fun y => decide (s = y)) = true := by
  intro c
  induction c with
  | zero => intro v h1 h2; omega
  | succ c ih =>
    intro v h1 h2 h3
    unfold slices_Index_L_string_string_l1
    refine Tot.iteb (fun h4 => ?_) (fun h4 => ?_)
    · simp only [decide_eq_true_eq] at h4
      refine Tot.bind' (Tot.idx (by omega) h4 fun x hx => ?_)
      rw [Int.toNat_natCast] at hx
      refine Tot.iteb (fun h5 => .some ⟨by omega, ?_⟩) (fun h5 => ?_)
      · exact List.any_eq_true.2 ⟨x, List.mem_of_getElem? hx, h5⟩
      · rw [wrap64 (by omega) (by omega)]
        refine ih (v + 1) (by omega) (by omega) ?_
        rw [take_step' hx]
        intro y hy
        rcases List.mem_append.1 hy with hy | hy
        · exact h3 y hy
        · rw [List.mem_singleton.1 hy]; exact h5
    · refine .some ?_
      simp only [decide_eq_false_iff_not] at h4
      rw [List.take_of_length_le (by omega)] at h3
      exact List.any_eq_false.2 fun y hy => by simp [h3 y hy]
def isWord (s : Str) : Bool := g_parse_words.any fun y => decide (s = y)
theorem Word_eq {s : Str} (hn : 13 < n) : parse_Word n s = some (isWord s) := by
  unfold parse_Word slices_Contains_L_string_string slices_Index_L_string_string
  obtain ⟨r, e, hr⟩ := Index_l1 g_parse_words s (by decide) n 0 (by have : g_parse_words.length = 13 := rfl; omega) (by omega) (by simp)
  rw [show ((0 : Nat) : Int) = 0 from rfl] at e
  rw [e, Option.bind_some]
  unfold isWord
  cases r with
  | inl _ => rw [hr]; rfl
  | inr k =>
    rw [hr.2]
    simp only [Sum.elim_inr, Option.bind_some, Option.some.injEq, decide_eq_true_eq]
    exact hr.1
theorem is_tot (h : PI p) (hn : 13 < n) {s : Str} : Tot (p_parse_parser_is n p s) fun b => b = true → p.e_ = 0 ∧ p.at_ + 1 < p.l_.length := by
  unfold p_parse_parser_is
  refine (token_tot h).bind fun t ht => ?_
  refine Tot.bind (P := fun b => b = true → p.e_ = 0 ∧ p.at_ + 1 < p.l_.length) ?_ fun b hb => .some hb
  refine Tot.iteb (fun h1 => ?_) fun h1 => .some fun h => by cases h
  simp only [beq_iff_eq] at h1
  refine Tot.iteb (fun h2 => ?_) fun h2 => .some fun h => by cases h
  refine Tot.iteb (fun h3 => .some fun _ => ⟨h1, ht ?_⟩) fun h3 => ?_
  · simp only [beq_iff_eq] at h3; omega
  refine Tot.iteb (fun h4 => ?_) fun h4 => .some fun h => by cases h
  rw [Word_eq hn, Option.bind_some]
  refine .some fun _ => ⟨h1, ht ?_⟩
  simp only [beq_iff_eq] at h4; omega
theorem step_gd (h : PI p) (he : p.e_ = 0) (hk : p.at_ + 1 < p.l_.length) : IntKind.i64.wrap (p.at_ + (1 : Int)) = p.at_ + 1 ∧ GA p { p with at_ := p.at_ + 1 } := by
  have h1 := h.lo
  have h2 := h.big
  refine ⟨wrap64 (by omega) (by omega), ⟨⟨⟨by simp only; omega, by simpa using hk, h.big, h.toks⟩, rfl, by simp only; omega, fun hn => absurd he hn⟩, fun _ => by simp only; omega⟩⟩
theorem take_tot (h : PI p) (hn : 13 < n) {s : Str} : Tot (p_parse_parser_take n p s) fun r => Gd p r.2 ∧ (r.1 = true → p.e_ = 0 ∧ GA p r.2 ∧ r.2.e_ = 0) ∧ (r.1 = false → r.2 = p) := by
  unfold p_parse_parser_take
  refine (is_tot h hn).bind fun b hb => ?_
  refine Tot.iteb (fun h1 => .some ⟨.refl h, (fun h => by cases h), fun _ => rfl⟩) fun h1 => ?_
  simp only [Bool.not_eq_false'] at h1
  obtain ⟨h2, h3⟩ := hb h1
  obtain ⟨h4, h5⟩ := step_gd h h2 h3
  rw [h4]
  exact .some ⟨h5.toGd, fun _ => ⟨h2, h5, h2⟩, fun h => by cases h⟩
theorem need_tot (h : PI p) (hn : 13 < n) {s : Str} : Tot (p_parse_parser_need n p s) fun q => GA p q := by
  unfold p_parse_parser_need
  refine (take_tot h hn).bind fun r ⟨h1, h2, h3⟩ => ?_
  refine Tot.iteb (fun h4 => ?_) fun h4 => .some (h2 (by simpa using h4)).2.1
  exact (fail_tot h1.inv (by decide)).bind fun q ⟨g, he⟩ => .some ⟨h1.trans g, fun h => absurd h he⟩
theorem name_tot (h : PI p) (hn : 13 < n) : Tot (p_parse_parser_name n p) fun r => GA p r.2 := by
  unfold p_parse_parser_name
  refine (token_tot h).bind fun t ht => ?_
  refine Tot.bind (P := fun b => b = false → p.e_ = 0 ∧ t.Kind_ = 1) ?_ fun b hb => ?_
  · refine Tot.iteb (fun h1 => .some fun h => by cases h) fun h1 => ?_
    refine Tot.iteb (fun h2 => .some fun h => by cases h) fun h2 => ?_
    rw [Word_eq hn, Option.bind_some]
    exact .some fun _ => ⟨by simpa using h1, by simpa using h2⟩
  · refine Tot.iteb (fun h1 => ?_) fun h1 => ?_
    · exact (fail_tot h (by decide)).bind fun q ⟨g, he⟩ => .some ⟨g, fun h => absurd h he⟩
    · obtain ⟨h2, h3⟩ := hb h1
      obtain ⟨h4, h5⟩ := step_gd h h2 (ht (by omega))
      rw [h4]
      exact .some h5
theorem number_tot (h : PI p) : Tot (p_parse_parser_number p) fun r => GA p r.2 := by
  unfold p_parse_parser_number
  refine (token_tot h).bind fun t ht => ?_
  refine Tot.bind (P := fun b => b = false → p.e_ = 0 ∧ t.Kind_ = 2) ?_ fun b hb => ?_
  · refine Tot.iteb (fun h1 => .some fun h => by cases h) fun h1 => .some fun h => ⟨by simpa using h1, by simpa using h⟩
  · refine Tot.iteb (fun h1 => ?_) fun h1 => ?_
    · exact (fail_tot h (by decide)).bind fun q ⟨g, he⟩ => .some ⟨g, fun h => absurd h he⟩
    · obtain ⟨h2, h3⟩ := hb h1
      obtain ⟨h4, h5⟩ := step_gd h h2 (ht (by omega))
      rw [h4]
      exact .some h5
theorem size_tot (h : PI p) (hn : 13 < n) : Tot (p_parse_parser_size n p) fun r => GA p r.2 := by
  unfold p_parse_parser_size
  exact (need_tot h hn).bind fun q g1 => (number_tot g1.inv).bind fun r g2 => (need_tot g2.inv hn).bind fun s g3 => .some (g1.ga (g2.ga g3))
theorem param_l1 (hn : 13 < n) : ∀ (c : Nat) (v : Nat) (p : T_parse_parser) (x y : T_parse_Node), 3 < v + c → v ≤ 3 → PI p → Tot (p_parse_parser_param_l1 n c v p x y) fun r => match r with | .inl s => Gd p s.1 | .inr s => Gd p s.2 := by
  intro c
  induction c with
  | zero => intro v p x y h1 h2; omega
  | succ c ih =>
    intro v p x y h1 h2 h
    unfold p_parse_parser_param_l1
    refine Tot.iteb (fun h4 => ?_) fun h4 => .some (.refl h)
    simp only [decide_eq_true_eq] at h4
    refine Tot.bind' (Tot.idx (by omega) (by have : p_parse_parser_param_k1.length = 3 := rfl; omega) fun z hz => ?_)
    refine (take_tot h hn).bind fun r ⟨g1, g2, g3⟩ => ?_
    refine Tot.iteb (fun _ => .some g1) fun _ => ?_
    rw [wrap64 (by omega) (by omega)]
    refine (ih (v + 1) r.2 x y (by omega) (by omega) g1.inv).mono fun s hs => ?_
    cases s with
    | inl s => exact g1.trans hs
    | inr s => exact g1.trans hs
theorem param_tot (h : PI p) (hn : 13 < n) : Tot (p_parse_parser_param n p) fun r => GA p r.2 := by
  unfold p_parse_parser_param
  refine (node_tot h).bind fun r ⟨g1, _⟩ => (name_tot g1.inv hn).bind fun s g2 => (need_tot g2.inv hn).bind fun q g3 => ?_
  refine (param_l1 hn n 0 q _ _ (by omega) (by omega) g3.inv).bind fun y hy => ?_
  have g4 := g1.ga (g2.ga g3)
  refine Tot.elim (fun z e => ?_) fun z e => ?_
  · subst e
    exact (node_tot hy.inv).bind fun r ⟨g5, _⟩ => (size_tot g5.inv hn).bind fun s g6 => .some ((g4.gd hy).ga (g5.ga g6))
  · subst e
    exact .some (g4.gd hy)
theorem list_param_l1 (hn : 13 < n) : ∀ (c : Nat) (l : List T_parse_Node) (p : T_parse_parser), PI p → (p.l_.length : Int) - p.at_ < c → (l.length : Int) ≤ p.at_ → Tot (p_parse_parser_list__param_l1 n c l p) fun r => Gd p r.2 ∧ (r.1.length : Int) ≤ r.2.at_ + 1 := by
  intro c
  induction c with
  | zero => intro l p h h1 h2; have := h.hi; omega
  | succ c ih =>
    intro l p h h1 h2
    have k1 := h.lo
    have k2 := h.hi
    have k3 := h.big
    unfold p_parse_parser_list__param_l1
    refine Tot.iteb (fun h4 => ?_) fun h4 => .some ⟨.refl h, by simp only; omega⟩
    refine (param_tot h hn).bind fun x g1 => ?_
    refine Tot.need (by simp only [List.length_singleton]; omega) ?_
    refine (take_tot g1.inv hn).bind fun r ⟨g2, g3, _⟩ => ?_
    have m1 := g1.at'
    have m2 := g2.at'
    refine Tot.iteb (fun h5 => .some ⟨g1.toGd.trans g2, by simp only [List.length_append, List.length_singleton]; omega⟩) fun h5 => ?_
    have g4 := g3 (by simpa using h5)
    have g5 := g1.ga g4.2.1
    have m3 := g1.adv g4.1
    have m4 := g1.toGd.trans g2
    refine (ih _ r.2 g2.inv (by rw [m4.len]; omega) (by simp only [List.length_append, List.length_singleton]; omega)).mono fun s ⟨s1, s2⟩ => ⟨g5.toGd.trans s1, s2⟩
theorem list_param_tot (h : PI p) (hn : 13 < n) (hb : (p.l_.length : Int) - p.at_ < n) : Tot (p_parse_parser_list__param n p) fun r => GA p r.2 ∧ r.1.length ≤ 65538 := by
  unfold p_parse_parser_list__param
  refine (need_tot h hn).bind fun q g1 => (take_tot g1.inv hn).bind fun r ⟨g2, g3, g4⟩ => ?_
  refine Tot.iteb (fun h5 => .some ⟨g1.gd g2, by simp⟩) fun h5 => ?_
  have m1 := g1.at'
  have m2 := g2.at'
  have g5 := g1.gd g2
  have k0 := g2.inv.lo
  refine Tot.bind (P := fun y => Gd r.2 y.2 ∧ y.1.length ≤ 65538) ?_ fun y ⟨g6, m3⟩ => ?_
  · refine (list_param_l1 hn n [] r.2 g2.inv (by rw [g5.len]; omega) (by simpa using k0)).bind fun y ⟨y1, y2⟩ => .some ⟨y1, ?_⟩
    have k1 := y1.inv.hi
    have k2 := y1.inv.big
    show y.1.length ≤ _
    omega
  · exact (need_tot g6.inv hn).bind fun s g7 => .some ⟨(g5.gd g6).ga g7, m3⟩
theorem deep_tot (h : PI p) {a : Int} : Tot (p_parse_parser_deep p a) fun q => Gd p q := by
  unfold p_parse_parser_deep
  refine Tot.iteb (fun _ => ?_) fun _ => .some (.refl h)
  exact (fail_tot h (by decide)).bind fun q ⟨g, _⟩ => .some g
theorem psign_l1 (h : PI p) (hn : 13 < n) (x : List Str) (hx : x.length = 3) : ∀ (c : Nat) (v : Nat), 3 < v + c → v ≤ 3 → Tot (p_parse_parser_sign_l1 n x p c v) fun r => match r with | .inl _ => True | .inr t => p.e_ = 0 := by
  intro c
  induction c with
  | zero => intro v h1 h2; omega
  | succ c ih =>
    intro v h1 h2
    unfold p_parse_parser_sign_l1
    refine Tot.iteb (fun h4 => ?_) fun h4 => .some trivial
    simp only [decide_eq_true_eq] at h4
    refine Tot.bind' (Tot.idx (by omega) (by omega) fun z hz => ?_)
    refine Tot.bind (P := fun b => b = true → p.e_ = 0) ?_ fun b hb => ?_
    · refine Tot.iteb (fun _ => ?_) fun _ => .some fun h => by cases h
      exact (is_tot h hn).bind fun b hb => .some fun h => (hb h).1
    · refine Tot.iteb (fun h5 => .some (hb h5)) fun h5 => ?_
      rw [wrap64 (by omega) (by omega)]
      exact ih (v + 1) (by omega) (by omega)
theorem psign_tot (h : PI p) (hn : 13 < n) {a : Int} (h0 : 0 ≤ a) (h1 : a < 7) : Tot (p_parse_parser_sign n p a) fun t => t ≠ [] → p.e_ = 0 := by
  unfold p_parse_parser_sign
  refine Tot.bind' (Tot.idx h0 (by have : g_parse_levels.length = 7 := rfl; omega) fun x hx => ?_)
  have hl : x.length = 3 := by
    have : (g_parse_levels.all fun y => y.length == 3) = true := by decide
    simpa using List.all_eq_true.1 this x (List.mem_of_getElem? hx)
  refine (psign_l1 h hn x hl n 0 (by omega) (by omega)).bind fun y hy => Tot.elim (fun _ _ => .some fun h => absurd rfl h) fun z e => ?_
  subst e
  exact .some fun _ => hy
end
end Go.Proofs.YtolhahlnccekcaaDoor.Abs
namespace Go.Proofs.YtolhahlnccekcaaDoor.Abs
open Go.RowKit
set_option linter.unusedVariables false
set_option linter.unusedSimpArgs false
/-- what is left -/
def Lf (p : T_parse_parser) : Int := 16 * ((p.l_.length : Int) - p.at_)
theorem Gd.lf {p q : T_parse_parser} (h : Gd p q) : Lf q ≤ Lf p := by have := h.at'; unfold Lf; rw [h.len]; omega
theorem GA.lf {p q : T_parse_parser} (h : GA p q) (he : q.e_ = 0) : Lf q + 16 ≤ Lf p := by have := h.adv he; unfold Lf; rw [h.toGd.len]; omega
theorem PI.lf {p : T_parse_parser} (h : PI p) : 16 ≤ Lf p := by have := h.hi; unfold Lf; omega
def OkE (n : Nat) (k : Int) (f : T_parse_parser → Int → Option (T_parse_Node × T_parse_parser)) : Prop := ∀ p a, PI p → Lf p + k ≤ n → Tot (f p a) fun r => GA p r.2
def OkL (n : Nat) (f : T_parse_parser → Int → Int → Option (T_parse_Node × T_parse_parser)) : Prop := ∀ p a b, PI p → 0 ≤ a → a ≤ 7 → Lf p + 29 - a ≤ n → Tot (f p a b) fun r => GA p r.2
def OkA (n : Nat) (f : T_parse_parser → Int → Option ((List T_parse_Node) × T_parse_parser)) : Prop := ∀ p a, PI p → Lf p + 25 ≤ n → Tot (f p a) fun r => GA p r.2
section
variable {n : Nat} {p : T_parse_parser}
theorem level_l1 (hn : 13 < n) {f : T_parse_parser → Int → Int → Option (T_parse_Node × T_parse_parser)} {a1 a2 : Int} (h0 : 0 ≤ a1) (h6 : a1 < 7) {k : Int} (hf : ∀ p, PI p → Lf p ≤ k → Tot (f p (a1 + 1) a2) fun r => GA p r.2) :
    ∀ (c : Nat) (t : Str) (p : T_parse_parser) (x : T_parse_Node), PI p → Lf p ≤ k → 1 ≤ c → (t ≠ [] → Lf p + 1 ≤ c) → Tot (p_parse_parser_level_l1 f n a1 a2 c t p x) fun r => Gd p r.1 := by
  intro c
  induction c with
  | zero => intro t p x h hl h1; omega
  | succ c ih =>
    intro t p x h hl h1 h2
    unfold p_parse_parser_level_l1
    refine Tot.iteb (fun h4 => ?_) fun h4 => .some (.refl h)
    simp only [ne_eq, decide_eq_true_eq] at h4
    have h5 := h2 h4
    have h6' := h.lf
    refine (node_tot h).bind fun r ⟨g1, _⟩ => (need_tot g1.inv hn).bind fun q g2 => ?_
    have l1 := g1.lf
    have l2 := g2.toGd.lf
    rw [wrap64 (n := a1 + 1) (by omega) (by omega)]
    refine (hf q g2.inv (by omega)).bind fun s g3 => ?_
    have g4 := g1.ga (g2.ga g3)
    refine Tot.iteb (fun _ => .some g4.toGd) fun _ => ?_
    refine (psign_tot g3.inv hn h0 h6).bind fun t' ht => ?_
    have l3 := g3.toGd.lf
    refine (ih t' s.2 _ g3.inv (by omega) (by omega) fun hne => ?_).mono fun r g5 => g4.toGd.trans g5
    have l4 := g4.lf (ht hne)
    omega
theorem level_b (hn : 13 < n) {fo : T_parse_parser → Int → Option (T_parse_Node × T_parse_parser)} {fl : T_parse_parser → Int → Int → Option (T_parse_Node × T_parse_parser)} (ho : OkE n 21 fo) (hl : OkL n fl) : OkL (n + 1) (p_parse_parser_level_b fo fl n) := by
  intro p a b h h0 h7 hb
  unfold p_parse_parser_level_b
  refine Tot.iteb (fun h1 => ?_) fun h1 => ?_
  · simp only [beq_iff_eq] at h1
    exact (ho p b h (by omega)).bind fun r g => .some g
  · simp only [beq_eq_false_iff_ne, ne_eq] at h1
    rw [wrap64 (n := a + 1) (by omega) (by omega)]
    refine (hl p (a + 1) b h (by omega) (by omega) (by omega)).bind fun r g => ?_
    have l1 := g.toGd.lf
    have l2 := g.inv.lf
    refine (psign_tot g.inv hn h0 (by omega)).bind fun t ht => ?_
    refine (level_l1 hn h0 (by omega) (k := Lf r.2) (fun q hq hk => hl q (a + 1) b hq (by omega) (by omega) (by omega)) n t r.2 r.1 g.inv (Int.le_refl _) (by omega) (fun _ => by omega)).bind fun s g2 => .some (g.gd g2)
theorem expr_b {fl : T_parse_parser → Int → Int → Option (T_parse_Node × T_parse_parser)} (hl : OkL n fl) : OkE (n + 1) 30 (p_parse_parser_expr_b fl n) := by
  intro p a h hb
  unfold p_parse_parser_expr_b
  exact (hl p 0 a h (by omega) (by omega) (by omega)).bind fun r g => .some g
theorem operand_1_b {fe : T_parse_parser → Int → Option (T_parse_Node × T_parse_parser)} (he : OkE n 30 fe) : OkE (n + 1) 31 (p_parse_parser_operand_1_b fe n) := by
  intro p a h hb
  unfold p_parse_parser_operand_1_b
  exact (he p _ h (by omega)).bind fun r g => .some g
theorem list_operand_l1 (hn : 13 < n) {fo : T_parse_parser → Int → Option (T_parse_Node × T_parse_parser)} {k : Int} {a : Int} (hf : ∀ p, PI p → Lf p ≤ k → Tot (fo p a) fun r => GA p r.2) : ∀ (c : Nat) (l : List T_parse_Node) (p : T_parse_parser), PI p → (p.e_ = 0 → Lf p ≤ k) → (p.l_.length : Int) - p.at_ < c → (l.length : Int) ≤ p.at_ → Tot (p_parse_parser_list__operand_1_l1 fo n a c l p) fun r => Gd p r.2 ∧ (r.1.length : Int) ≤ r.2.at_ + 1 := by
  intro c
  induction c with
  | zero => intro l p h _ h1 h2; have := h.hi; omega
  | succ c ih =>
    intro l p h hk h1 h2
    have k1 := h.lo
    have k2 := h.hi
    have k3 := h.big
    unfold p_parse_parser_list__operand_1_l1
    refine Tot.iteb (fun h4 => ?_) fun h4 => .some ⟨.refl h, by simp only; omega⟩
    simp only [beq_iff_eq] at h4
    refine (hf p h (hk h4)).bind fun x g1 => ?_
    refine Tot.need (by simp only [List.length_singleton]; omega) ?_
    refine (take_tot g1.inv hn).bind fun r ⟨g2, g3, _⟩ => ?_
    have m1 := g1.at'
    have m2 := g2.at'
    refine Tot.iteb (fun h5 => .some ⟨g1.toGd.trans g2, by simp only [List.length_append, List.length_singleton]; omega⟩) fun h5 => ?_
    have g4 := g3 (by simpa using h5)
    have g5 := g1.ga g4.2.1
    have m3 := g1.adv g4.1
    have m4 := g1.toGd.trans g2
    have m5 := g5.toGd.lf
    have m6 := hk h4
    refine (ih _ r.2 g2.inv (fun _ => by omega) (by rw [m4.len]; omega) (by simp only [List.length_append, List.length_singleton]; omega)).mono fun s ⟨s1, s2⟩ => ⟨g5.toGd.trans s1, s2⟩
theorem list_operand_b (hn : 13 < n) {fo : T_parse_parser → Int → Option (T_parse_Node × T_parse_parser)} (ho : OkE n 31 fo) : OkA (n + 1) (p_parse_parser_list__operand_1_b fo n) := by
  intro p a h hb
  unfold p_parse_parser_list__operand_1_b
  refine (need_tot h hn).bind fun q g1 => (take_tot g1.inv hn).bind fun r ⟨g2, g3, g4⟩ => ?_
  refine Tot.iteb (fun h5 => .some (g1.gd g2)) fun h5 => ?_
  have m1 := g1.at'
  have m2 := g2.at'
  have g5 := g1.gd g2
  have k0 := g2.inv.lo
  have k1 := g5.toGd.lf
  have k2 := h.lf
  refine Tot.bind (P := fun y => Gd r.2 y.2) ?_ fun y g6 => ?_
  · refine (list_operand_l1 hn (k := (n : Int) - 31) (fun q hq hk => ho q a hq (by omega)) n [] r.2 g2.inv (fun he => ?_) ?_ (by simpa using k0)).bind fun y ⟨y1, y2⟩ => .some y1
    · have := g5.lf he
      omega
    · unfold Lf at hb k1
      rw [g5.toGd.len] at k1 ⊢
      have := h.hi
      omega
  · exact (need_tot g6.inv hn).bind fun s g7 => .some ((g5.gd g6).ga g7)
theorem operand_l1 (hn : 13 < n) {fo : T_parse_parser → Int → Option (T_parse_Node × T_parse_parser)} {k : Int} (hf : ∀ p a, PI p → Lf p ≤ k → Tot (fo p a) fun r => GA p r.2) {a1 : Int} : ∀ (c : Nat) (v : Nat) (p : T_parse_parser) (x y : T_parse_Node), 2 < v + c → v ≤ 2 → PI p → Lf p ≤ k + 16 → Tot (p_parse_parser_operand_l1 fo n a1 c v p x y) fun r => match r with | .inl s => Gd p s.1 | .inr s => GA p s.2 := by
  intro c
  induction c with
  | zero => intro v p x y h1 h2; omega
  | succ c ih =>
    intro v p x y h1 h2 h hk
    unfold p_parse_parser_operand_l1
    refine Tot.iteb (fun h4 => ?_) fun h4 => .some (.refl h)
    simp only [decide_eq_true_eq] at h4
    refine Tot.bind' (Tot.idx (by omega) (by have : p_parse_parser_operand_k1.length = 2 := rfl; omega) fun z hz => ?_)
    refine (take_tot h hn).bind fun r ⟨g1, g2, g3⟩ => ?_
    refine Tot.iteb (fun h5 => ?_) fun h5 => ?_
    · obtain ⟨_, g4, g5⟩ := g2 h5
      have l1 := g4.lf g5
      exact (hf r.2 _ g1.inv (by omega)).bind fun s g6 => .some (g4.ga g6)
    · rw [wrap64 (by omega) (by omega)]
      have l1 := g1.lf
      refine (ih (v + 1) r.2 x y (by omega) (by omega) g1.inv (by omega)).mono fun s hs => ?_
      cases s with
      | inl s => exact g1.trans hs
      | inr s => exact g1.ga hs
theorem operand_b (hn : 13 < n) {fe fo : T_parse_parser → Int → Option (T_parse_Node × T_parse_parser)} {fa : T_parse_parser → Int → Option ((List T_parse_Node) × T_parse_parser)} (he : OkE n 30 fe) (ho : OkE n 21 fo) (ha : OkA n fa) : OkE (n + 1) 21 (p_parse_parser_operand_b fe fo fa n) := by
  intro p a h hb
  unfold p_parse_parser_operand_b
  refine (deep_tot h).bind fun q g1 => (take_tot g1.inv hn).bind fun r ⟨g2, g3, _⟩ => ?_
  have m1 := g1.lf
  have m2 := g2.lf
  have m3 := h.lf
  refine Tot.iteb (fun h5 => ?_) fun h5 => ?_
  · obtain ⟨_, g4, g5⟩ := g3 h5
    have l1 := g4.lf g5
    exact (he r.2 _ g2.inv (by omega)).bind fun s g6 => (need_tot g6.inv hn).bind fun t g7 => .some (g1.ga (g4.ga (g6.ga g7)))
  · refine (node_tot g2.inv).bind fun s ⟨g4, _⟩ => ?_
    have m4 := g4.lf
    refine (operand_l1 hn (k := (n : Int) - 21) (fun q b hq hk => ho q b hq (by omega)) n 0 s.2 _ _ (by omega) (by omega) g4.inv (by omega)).bind fun y hy => ?_
    have g5 := g1.trans (g2.trans g4)
    refine Tot.elim (fun z e => ?_) fun z e => ?_
    · subst e
      have hy' : Gd s.2 z.1 := hy
      have g6 := g5.trans hy'
      refine Tot.bind (P := fun _ => True) ?_ fun b _ => ?_
      · refine Tot.iteb (fun _ => ?_) fun _ => .some trivial
        exact (token_tot hy'.inv).bind fun t _ => .some trivial
      · refine Tot.iteb (fun _ => ?_) fun _ => ?_
        · exact (number_tot hy'.inv).bind fun t g7 => .some (g6.ga g7)
        · refine (name_tot hy'.inv hn).bind fun t g7 => ?_
          have g8 := g6.ga g7
          have l8 := g8.toGd.lf
          refine Tot.bind (P := fun y => GA p y.1) ?_ fun y hy => .some hy
          refine (is_tot g7.inv hn).bind fun b hb => Tot.iteb (fun h9 => ?_) fun h9 => ?_
          · have l9 := g8.lf (hb h9).1
            exact (ha t.2 a g7.inv (by omega)).bind fun u g9 => .some (g8.ga g9)
          · refine (take_tot g7.inv hn).bind fun u ⟨g9, g10, _⟩ => Tot.iteb (fun h10 => ?_) fun h10 => .some (g8.gd g9)
            obtain ⟨_, g11, g12⟩ := g10 h10
            have l9 := g11.lf g12
            exact (he u.2 _ g9.inv (by omega)).bind fun v g13 => (need_tot g13.inv hn).bind fun w g14 => .some (g8.ga (g11.ga (g13.ga g14)))
    · subst e
      exact .some (g5.ga hy)
theorem grp_ok : ∀ n : Nat, OkA n (p_parse_parser_list__operand_1_grp n).1 ∧ OkE n 30 (p_parse_parser_list__operand_1_grp n).2.1 ∧ OkL n (p_parse_parser_list__operand_1_grp n).2.2.1 ∧ OkE n 21 (p_parse_parser_list__operand_1_grp n).2.2.2.1 ∧ OkE n 31 (p_parse_parser_list__operand_1_grp n).2.2.2.2 := by
  have small : ∀ n : Nat, n ≤ 14 → OkA n (p_parse_parser_list__operand_1_grp n).1 ∧ OkE n 30 (p_parse_parser_list__operand_1_grp n).2.1 ∧ OkL n (p_parse_parser_list__operand_1_grp n).2.2.1 ∧ OkE n 21 (p_parse_parser_list__operand_1_grp n).2.2.2.1 ∧ OkE n 31 (p_parse_parser_list__operand_1_grp n).2.2.2.2 := by
    intro n hn
    refine ⟨fun p a h hb => ?_, fun p a h hb => ?_, fun p a b h h0 h7 hb => ?_, fun p a h hb => ?_, fun p a h hb => ?_⟩ <;> (have := h.lf; omega)
  intro n
  induction n with
  | zero => exact small 0 (by omega)
  | succ n ih =>
    by_cases hn : 13 < n
    · obtain ⟨i1, i2, i3, i4, i5⟩ := ih
      exact ⟨list_operand_b hn i5, expr_b i3, level_b hn i4 i3, operand_b hn i2 i4 i1, operand_1_b i2⟩
    · exact small (n + 1) (by omega)
theorem expr_tot (h : PI p) {a : Int} (hb : Lf p + 30 ≤ n) : Tot (p_parse_parser_expr n p a) fun r => GA p r.2 := (grp_ok n).2.1 p a h hb
theorem named_tot (h : PI p) {x : T_parse_Node} {a : Int} (hb : Lf p + 30 ≤ n) : Tot (p_parse_parser_named n p x a) fun r => GA p r.2 := by
  have hn : 13 < n := by have := h.lf; omega
  unfold p_parse_parser_named
  refine (name_tot h hn).bind fun r g1 => (need_tot g1.inv hn).bind fun q g2 => ?_
  have l1 := g1.toGd.lf
  have l2 := g2.toGd.lf
  exact (expr_tot g2.inv (by omega)).bind fun s g3 => (need_tot g3.inv hn).bind fun t g4 => .some (g1.ga (g2.ga (g3.ga g4)))
theorem plain_1_tot (h : PI p) {a : Int} (hb : Lf p + 30 ≤ n) : Tot (p_parse_parser_plain_1 n p a) fun r => GA p r.2 := by
  unfold p_parse_parser_plain_1
  exact (expr_tot h hb).bind fun r g => .some g
theorem list_plain_l1 (hn : 13 < n) {a : Int} : ∀ (c : Nat) (l : List T_parse_Node) (p : T_parse_parser), PI p → Lf p + 30 ≤ n → (p.l_.length : Int) - p.at_ < c → (l.length : Int) ≤ p.at_ → Tot (p_parse_parser_list__plain_1_l1 n a c l p) fun r => Gd p r.2 ∧ (r.1.length : Int) ≤ r.2.at_ + 1 := by
  intro c
  induction c with
  | zero => intro l p h _ h1 h2; have := h.hi; omega
  | succ c ih =>
    intro l p h hk h1 h2
    have k1 := h.lo
    have k2 := h.hi
    have k3 := h.big
    unfold p_parse_parser_list__plain_1_l1
    refine Tot.iteb (fun h4 => ?_) fun h4 => .some ⟨.refl h, by simp only; omega⟩
    refine (plain_1_tot h hk).bind fun x g1 => ?_
    refine Tot.need (by simp only [List.length_singleton]; omega) ?_
    refine (take_tot g1.inv hn).bind fun r ⟨g2, g3, _⟩ => ?_
    have m1 := g1.at'
    have m2 := g2.at'
    refine Tot.iteb (fun h5 => .some ⟨g1.toGd.trans g2, by simp only [List.length_append, List.length_singleton]; omega⟩) fun h5 => ?_
    have g4 := g3 (by simpa using h5)
    have g5 := g1.ga g4.2.1
    have m3 := g1.adv g4.1
    have m4 := g1.toGd.trans g2
    have m5 := g5.toGd.lf
    refine (ih _ r.2 g2.inv (by omega) (by rw [m4.len]; omega) (by simp only [List.length_append, List.length_singleton]; omega)).mono fun s ⟨s1, s2⟩ => ⟨g5.toGd.trans s1, s2⟩
theorem list_plain_tot (h : PI p) {a : Int} (hb : Lf p + 30 ≤ n) : Tot (p_parse_parser_list__plain_1 n p a) fun r => GA p r.2 := by
  have hn : 13 < n := by have := h.lf; omega
  unfold p_parse_parser_list__plain_1
  refine (need_tot h hn).bind fun q g1 => (take_tot g1.inv hn).bind fun r ⟨g2, g3, g4⟩ => ?_
  refine Tot.iteb (fun h5 => .some (g1.gd g2)) fun h5 => ?_
  have g5 := g1.gd g2
  have k0 := g2.inv.lo
  have k1 := g5.toGd.lf
  refine Tot.bind (P := fun y => Gd r.2 y.2) ?_ fun y g6 => ?_
  · refine (list_plain_l1 hn n [] r.2 g2.inv (by omega) ?_ (by simpa using k0)).bind fun y ⟨y1, y2⟩ => .some y1
    unfold Lf at hb k1
    rw [g5.toGd.len] at k1 ⊢
    have := h.hi
    omega
  · exact (need_tot g6.inv hn).bind fun s g7 => .some ((g5.gd g6).ga g7)
theorem plain_tot (h : PI p) {x : T_parse_Node} {a : Int} (hb : Lf p + 30 ≤ n) : Tot (p_parse_parser_plain n p x a) fun r => GA p r.2 := by
  have hn : 13 < n := by have := h.lf; omega
  unfold p_parse_parser_plain
  refine (name_tot h hn).bind fun r g1 => ?_
  have l1 := g1.toGd.lf
  refine Tot.bind (P := fun y => GA p y.1) ?_ fun y hy => ?_
  case refine_2 =>
    have hy' : GA p y.1 := hy
    exact (need_tot hy'.inv hn).bind fun s g => .some (hy'.ga g)
  refine (is_tot g1.inv hn).bind fun b _ => Tot.iteb (fun _ => ?_) fun _ => ?_
  · exact (list_plain_tot g1.inv (by omega)).bind fun s g2 => .some (g1.ga g2)
  · refine (take_tot g1.inv hn).bind fun s ⟨g2, _, _⟩ => ?_
    have l2 := g2.lf
    refine Tot.iteb (fun _ => ?_) fun _ => ?_
    · refine (expr_tot g2.inv (by omega)).bind fun t g3 => (need_tot g3.inv hn).bind fun u g4 => (need_tot g4.inv hn).bind fun v g5 => ?_
      have l3 := g3.toGd.lf
      have l4 := g4.toGd.lf
      have l5 := g5.toGd.lf
      refine (expr_tot g5.inv (by omega)).bind fun w g6 => Tot.need (by simp) (.some (g1.gd (g2.trans (g3.toGd.trans (g4.toGd.trans (g5.toGd.trans g6.toGd))))))
    · refine (need_tot g2.inv hn).bind fun v g5 => ?_
      have l5 := g5.toGd.lf
      exact (expr_tot g5.inv (by omega)).bind fun w g6 => .some (g1.gd (g2.trans (g5.toGd.trans g6.toGd)))
end
def OkN (n : Nat) (k : Int) (f : T_parse_parser → T_parse_Node → Int → Option (T_parse_Node × T_parse_parser)) : Prop := ∀ p x a, PI p → Lf p + k ≤ n → Tot (f p x a) fun r => GA p r.2
section
variable {n : Nat} {p : T_parse_parser}
theorem block_l1 (hn : 13 < n) {fs : T_parse_parser → Int → Option (T_parse_Node × T_parse_parser)} {k : Int} {a : Int} (hf : ∀ p, PI p → Lf p ≤ k → Tot (fs p a) fun r => GA p r.2) : ∀ (c : Nat) (p : T_parse_parser) (x : T_parse_Node), PI p → (p.e_ = 0 → Lf p ≤ k) → (p.l_.length : Int) - p.at_ < c → 1 ≤ c → (p.e_ = 0 → (x.List_.length : Int) ≤ p.at_) → (x.List_.length : Int) ≤ 65538 → Tot (p_parse_parser_block_l1 fs n a c p x) fun r => Gd p r.1 := by
  intro c
  induction c with
  | zero => intro p x h _ h1 h2; omega
  | succ c ih =>
    intro p x h hk h1 h2 h3 h4
    have k1 := h.lo
    have k2 := h.hi
    have k3 := h.big
    unfold p_parse_parser_block_l1
    refine Tot.bind (P := fun b => b = true → p.e_ = 0) ?_ fun b hb => ?_
    · refine Tot.iteb (fun he => ?_) fun _ => .some fun h => by cases h
      exact (is_tot h hn).bind fun b hb => .some fun _ => by simpa using he
    · refine Tot.iteb (fun h5 => ?_) fun h5 => .some (.refl h)
      have he := hb h5
      refine (hf p h (hk he)).bind fun r g => ?_
      have m1 := g.at'
      have m2 := hk he
      have m3 := h3 he
      have m4 := g.toGd.lf
      have m5 := g.inv.hi
      have m6 := g.toGd.len
      refine Tot.need (by simp only [List.length_singleton]; omega) ?_
      by_cases he2 : r.2.e_ = 0
      · have m7 := g.adv he2
        refine (ih r.2 _ g.inv (fun _ => by omega) (by rw [m6]; omega) (by omega) (fun _ => by simp only [List.length_append, List.length_singleton]; omega) (by simp only [List.length_append, List.length_singleton]; omega)).mono fun s g2 => g.toGd.trans g2
      · cases c with
        | zero => omega
        | succ c =>
          unfold p_parse_parser_block_l1
          rw [if_neg (by simpa using he2), Option.bind_some, if_neg (by decide)]
          exact .some g.toGd
theorem block_b {fs : T_parse_parser → Int → Option (T_parse_Node × T_parse_parser)} (hs : OkE n 45 fs) : OkE (n + 1) 46 (p_parse_parser_block_b fs n) := by
  intro p a h hb
  have hn : 13 < n := by have := h.lf; omega
  unfold p_parse_parser_block_b
  refine (deep_tot h).bind fun q g1 => (node_tot g1.inv).bind fun r ⟨g2, e⟩ => (need_tot g2.inv hn).bind fun t g3 => ?_
  have g4 := g1.trans g2
  have g5 := g4.ga g3
  have l5 := g5.toGd.lf
  have k0 := g3.inv.lo
  refine (block_l1 hn (k := (n : Int) - 45) (fun q hq hk => hs q a hq (by omega)) n t r.1 g3.inv (fun he => ?_) ?_ (by omega) (fun _ => by rw [e]; simpa using k0) (by rw [e]; simp)).bind fun y g6 => (need_tot g6.inv hn).bind fun s g7 => .some ((g5.gd g6).ga g7)
  · have := g5.lf he
    omega
  · unfold Lf at hb l5
    rw [g5.toGd.len] at l5 ⊢
    have := h.hi
    omega
theorem choice_b {fb : T_parse_parser → Int → Option (T_parse_Node × T_parse_parser)} (hf : OkE n 46 fb) : OkN (n + 1) 47 (p_parse_parser_choice_b fb n) := by
  intro p x a h hb
  have hn : 13 < n := by have := h.lf; omega
  unfold p_parse_parser_choice_b
  refine (expr_tot h (by omega)).bind fun r g1 => ?_
  have l1 := g1.toGd.lf
  refine (hf r.2 _ g1.inv (by omega)).bind fun s g2 => Tot.need (by simp) ((take_tot g2.inv hn).bind fun t ⟨g3, _, _⟩ => ?_)
  have l2 := g2.toGd.lf
  have l3 := g3.lf
  refine Tot.iteb (fun _ => ?_) fun _ => .some ((g1.ga g2).gd g3)
  exact (hf t.2 _ g3.inv (by omega)).bind fun u g4 => Tot.need (by simp) (.some (((g1.ga g2).gd g3).ga g4))
theorem loop_b {fb : T_parse_parser → Int → Option (T_parse_Node × T_parse_parser)} (hf : OkE n 46 fb) : OkN (n + 1) 47 (p_parse_parser_loop_b fb n) := by
  intro p x a h hb
  have hn : 13 < n := by have := h.lf; omega
  unfold p_parse_parser_loop_b
  refine (name_tot h hn).bind fun r g1 => (need_tot g1.inv hn).bind fun s g2 => ?_
  have l1 := g1.toGd.lf
  have l2 := g2.toGd.lf
  refine (expr_tot g2.inv (by omega)).bind fun t g3 => (need_tot g3.inv hn).bind fun u g4 => ?_
  have l3 := g3.toGd.lf
  have l4 := g4.toGd.lf
  refine (expr_tot g4.inv (by omega)).bind fun v g5 => Tot.need (by simp) ?_
  have l5 := g5.toGd.lf
  exact (hf v.2 _ g5.inv (by omega)).bind fun w g6 => Tot.need (by simp) (.some (g1.ga (g2.ga (g3.ga (g4.ga (g5.ga g6))))))
theorem statement_b {fc fl : T_parse_parser → T_parse_Node → Int → Option (T_parse_Node × T_parse_parser)} (hc : OkN n 47 fc) (hl : OkN n 47 fl) : OkE (n + 1) 45 (p_parse_parser_statement_b fc fl n) := by
  intro p a h hb
  have hn : 13 < n := by have := h.lf; omega
  unfold p_parse_parser_statement_b
  refine (node_tot h).bind fun r ⟨g1, _⟩ => ?_
  have l1 := g1.lf
  refine Tot.bind (P := fun y => match y with | .inl y => GA p y.1 | .inr y => GA p y.2) ?_ fun y hy => ?_
  · refine (take_tot g1.inv hn).bind fun t1 ⟨a1, b1, _⟩ => Tot.iteb (fun h1 => ?_) fun h1 => ?_
    · have m1 := a1.lf
      exact (named_tot a1.inv (by omega)).bind fun u g2 => .some (g1.ga (a1.ga g2))
    have m1 := a1.lf
    refine (take_tot a1.inv hn).bind fun t2 ⟨a2, b2, _⟩ => Tot.iteb (fun h2 => ?_) fun h2 => ?_
    · have m2 := a2.lf
      exact (named_tot a2.inv (by omega)).bind fun u g2 => .some (g1.ga (a1.ga (a2.ga g2)))
    have m2 := a2.lf
    refine (take_tot a2.inv hn).bind fun t3 ⟨a3, b3, _⟩ => Tot.iteb (fun h3 => ?_) fun h3 => ?_
    · exact (name_tot a3.inv hn).bind fun u g2 => (size_tot g2.inv hn).bind fun v g3 => .some (g1.ga (a1.ga (a2.ga (a3.ga (g2.ga g3)))))
    have m3 := a3.lf
    refine (take_tot a3.inv hn).bind fun t4 ⟨a4, b4, _⟩ => Tot.iteb (fun h4 => ?_) fun h4 => ?_
    · have m4 := a4.lf
      exact (expr_tot a4.inv (by omega)).bind fun u g2 => .some (g1.ga (a1.ga (a2.ga (a3.ga (a4.ga g2)))))
    have m4 := a4.lf
    refine (take_tot a4.inv hn).bind fun t5 ⟨a5, b5, _⟩ => Tot.iteb (fun h5 => ?_) fun h5 => ?_
    · obtain ⟨_, c1, c2⟩ := b5 h5
      have m5 := c1.lf c2
      exact (hc t5.2 _ _ a5.inv (by omega)).bind fun u g2 => .some (g1.ga (a1.ga (a2.ga (a3.ga (a4.ga (a5.ga g2))))))
    have m5 := a5.lf
    refine (take_tot a5.inv hn).bind fun t6 ⟨a6, b6, _⟩ => Tot.iteb (fun h6 => ?_) fun h6 => ?_
    · obtain ⟨_, c1, c2⟩ := b6 h6
      have m6 := c1.lf c2
      exact (hl t6.2 _ _ a6.inv (by omega)).bind fun u g2 => .some (g1.ga (a1.ga (a2.ga (a3.ga (a4.ga (a5.ga (a6.ga g2)))))))
    have m6 := a6.lf
    exact (plain_tot a6.inv (by omega)).bind fun u g2 => .some (g1.ga (a1.ga (a2.ga (a3.ga (a4.ga (a5.ga (a6.ga g2)))))))
  · refine Tot.elim (fun z e => ?_) fun z e => ?_
    · subst e
      have hy' : GA p z.1 := hy
      exact (need_tot hy'.inv hn).bind fun s g => .some (hy'.ga g)
    · subst e
      exact .some hy
theorem grp2_ok : ∀ n : Nat, OkE n 46 (p_parse_parser_block_grp n).1 ∧ OkE n 45 (p_parse_parser_block_grp n).2.1 ∧ OkN n 47 (p_parse_parser_block_grp n).2.2.1 ∧ OkN n 47 (p_parse_parser_block_grp n).2.2.2 := by
  intro n
  induction n with
  | zero => refine ⟨fun p a h hb => ?_, fun p a h hb => ?_, fun p x a h hb => ?_, fun p x a h hb => ?_⟩ <;> (have := h.lf; omega)
  | succ n ih =>
    obtain ⟨i1, i2, i3, i4⟩ := ih
    exact ⟨block_b i2, statement_b i3 i4, choice_b i1, loop_b i1⟩
theorem block_tot (h : PI p) {a : Int} (hb : Lf p + 46 ≤ n) : Tot (p_parse_parser_block n p a) fun r => GA p r.2 := (grp2_ok n).1 p a h hb
theorem function_tot (h : PI p) (hb : Lf p + 46 ≤ n) : Tot (p_parse_parser_function n p) fun r => GA p r.2 := by
  have hn : 13 < n := by have := h.lf; omega
  have hr : (p.l_.length : Int) - p.at_ < n := by
    have := h.hi
    unfold Lf at hb; omega
  unfold p_parse_parser_function
  refine (node_tot h).bind fun r ⟨g1, _⟩ => (take_tot g1.inv hn).bind fun t ⟨g2, _, _⟩ => ?_
  have g3 := g1.trans g2
  have key : ∀ q : T_parse_parser, GA p q → (q.l_.length : Int) - q.at_ < n := by
    intro q g
    have := g.toGd.lf
    unfold Lf at this hb
    have := h.hi
    have := g.inv.hi
    omega
  refine Tot.iteb (fun _ => ?_) fun _ => ?_
  · refine (need_tot g2.inv hn).bind fun u g4 => (name_tot g4.inv hn).bind fun v g5 => ?_
    have g6 := g3.ga (g4.ga g5)
    refine (list_param_tot g5.inv hn (key _ g6)).bind fun w ⟨g7, hw⟩ => (take_tot g7.inv hn).bind fun x ⟨g8, _, _⟩ => ?_
    have g9 := (g6.ga g7).gd g8
    have l9 := g9.toGd.lf
    refine Tot.iteb (fun _ => ?_) fun _ => ?_
    · refine (take_tot g8.inv hn).bind fun y ⟨g10, _, _⟩ => ?_
      have l10 := g10.lf
      refine Tot.iteb (fun _ => ?_) fun _ => ?_
      · exact (block_tot g10.inv (by omega)).bind fun z g11 => Tot.need (by simp only [List.length_singleton]; omega) (.some ((g9.gd g10).ga g11))
      · refine (need_tot g10.inv hn).bind fun y' g11 => ?_
        have l11 := g11.toGd.lf
        exact (block_tot g11.inv (by omega)).bind fun z g12 => Tot.need (by simp only [List.length_singleton]; omega) (.some (((g9.gd g10).ga g11).ga g12))
    · exact (block_tot g8.inv (by omega)).bind fun z g11 => Tot.need (by simp only [List.length_singleton]; omega) (.some (g9.ga g11))
  · refine (need_tot g2.inv hn).bind fun u g4 => (name_tot g4.inv hn).bind fun v g5 => ?_
    have g6 := g3.ga (g4.ga g5)
    refine (list_param_tot g5.inv hn (key _ g6)).bind fun w ⟨g7, hw⟩ => (take_tot g7.inv hn).bind fun x ⟨g8, _, _⟩ => ?_
    have g9 := (g6.ga g7).gd g8
    have l9 := g9.toGd.lf
    refine Tot.iteb (fun _ => ?_) fun _ => ?_
    · refine (take_tot g8.inv hn).bind fun y ⟨g10, _, _⟩ => ?_
      have l10 := g10.lf
      refine Tot.iteb (fun _ => ?_) fun _ => ?_
      · exact (block_tot g10.inv (by omega)).bind fun z g11 => Tot.need (by simp only [List.length_singleton]; omega) (.some ((g9.gd g10).ga g11))
      · refine (need_tot g10.inv hn).bind fun y' g11 => ?_
        have l11 := g11.toGd.lf
        exact (block_tot g11.inv (by omega)).bind fun z g12 => Tot.need (by simp only [List.length_singleton]; omega) (.some (((g9.gd g10).ga g11).ga g12))
    · exact (block_tot g8.inv (by omega)).bind fun z g11 => Tot.need (by simp only [List.length_singleton]; omega) (.some (g9.ga g11))
theorem Parse_l1 : ∀ (c : Nat) (p : T_parse_parser) (x : T_parse_Node), PI p → Lf p + 46 ≤ n → (p.l_.length : Int) - p.at_ < c → 1 ≤ c → (p.e_ = 0 → (x.List_.length : Int) ≤ p.at_) → (x.List_.length : Int) ≤ 65538 → Tot (parse_Parse_l1 n c p x) fun r => Gd p r.1 := by
  intro c
  induction c with
  | zero => intro p x h _ h1 h2; omega
  | succ c ih =>
    intro p x h hk h1 h2 h3 h4
    have k1 := h.lo
    have k2 := h.hi
    have k3 := h.big
    unfold parse_Parse_l1
    refine Tot.bind (P := fun b => b = true → p.e_ = 0) ?_ fun b hb => ?_
    · refine Tot.iteb (fun he => ?_) fun _ => .some fun h => by cases h
      exact (token_tot h).bind fun b hb => .some fun _ => by simpa using he
    · refine Tot.iteb (fun h5 => ?_) fun h5 => .some (.refl h)
      have he := hb h5
      refine (function_tot h hk).bind fun r g => ?_
      have m1 := g.at'
      have m3 := h3 he
      have m4 := g.toGd.lf
      have m5 := g.inv.hi
      have m6 := g.toGd.len
      refine Tot.need (by simp only [List.length_singleton]; omega) ?_
      by_cases he2 : r.2.e_ = 0
      · have m7 := g.adv he2
        refine (ih r.2 _ g.inv (by omega) (by rw [m6]; omega) (by omega) (fun _ => by simp only [List.length_append, List.length_singleton]; omega) (by simp only [List.length_append, List.length_singleton]; omega)).mono fun s g2 => g.toGd.trans g2
      · cases c with
        | zero => omega
        | succ c =>
          unfold parse_Parse_l1
          rw [if_neg (by simpa using he2), Option.bind_some, if_neg (by decide)]
          exact .some g.toGd
end
theorem Parse_tot {n : Nat} {s : Str} (hn : 16 * s.length + 100 < n) : Tot (parse_Parse n s) fun _ => True := by
  unfold parse_Parse
  refine (Tokens_tot (by omega) (by omega)).bind fun x hx => ?_
  refine Tot.iteb (fun _ => .some trivial) fun h1 => ?_
  obtain ⟨l, h2, h3, h4, h5⟩ := hx (by simpa using h1)
  have hp : PI (T_parse_parser.mk x.1 0 0 0 0) := ⟨by simp only; omega, by simp only [h2, List.length_append, List.length_singleton]; omega, by simp only [h2, List.length_append, List.length_singleton]; omega, ⟨l, _, h2, h3, rfl⟩⟩
  have hl : Lf (T_parse_parser.mk x.1 0 0 0 0) ≤ 16 * s.length + 16 := by
    unfold Lf
    simp only [h2, List.length_append, List.length_singleton]; omega
  refine (node_tot hp).bind fun r ⟨g1, e⟩ => ?_
  have l1 := g1.lf
  have k0 := g1.inv.lo
  have k1 := g1.inv.hi
  have k2 := g1.inv.lf
  refine (Parse_l1 n r.2 r.1 g1.inv (by omega) (by unfold Lf at l1 hl; omega) (by omega) (fun _ => by rw [e]; simpa using k0) (by rw [e]; simp)).bind fun y _ => ?_
  exact Tot.iteb (fun _ => .some trivial) fun _ => .some trivial
end Go.Proofs.YtolhahlnccekcaaDoor.Abs
