/-
  A parse without an error is a derivation: parameters, statements.
-/
import Derived.Test.YtolhahlnccekcaaDoorPjDer2
namespace Go.Proofs.YtolhahlnccekcaaDoor.Abs
open Go.RowKit
set_option linter.unusedVariables false
set_option linter.unusedSimpArgs false
section
variable {n : Nat} {p : T_parse_parser}
theorem sparam (h : PI p) (hn : 13 < n) : Tot (p_parse_parser_param n p) fun r => GA p r.2 ∧ (r.2.e_ = 0 → DPar (rest p) r.1 (rest r.2)) := by
  have g1 := node_gd h
  have g2 := name_ga g1.inv
  have g3 := need_ga g2.inv (s := [58])
  have g4 := g1.ga (g2.ga g3)
  unfold p_parse_parser_param
  rw [node_eq h, Option.bind_some, name_eq g1.inv hn, Option.bind_some, need_eq g2.inv hn, Option.bind_some]
  have key : ∀ us, (needP (nameP (nodeP p)).2 [58]).e_ = 0 → rest (needP (nameP (nodeP p)).2 [58]) = us → ∃ u, isN (tokP p) ∧ isT u [58] ∧ (nameP (nodeP p)).1 = (tokP p).Text_ ∧ rest p = tokP p :: u :: us := by
    intro us he hr
    obtain ⟨a1, a2, a3⟩ := need_ok g2.inv he
    obtain ⟨b1, b2, b3, b4⟩ := name_ok g1.inv a1
    rw [tok_node] at b2 b3 b4
    rw [rest_node] at b4
    exact ⟨_, b2, a2, b3, by rw [b4, a3, hr]⟩
  generalize needP (nameP (nodeP p)).2 [58] = q at g3 g4 key ⊢
  obtain ⟨c, hc⟩ : ∃ d, n = d + 4 := ⟨n - 4, by omega⟩
  have hl := fun x y => param_l1_eq g3.inv hn (c := c) (x := x) (y := y)
  simp only [← hc] at hl
  rw [hl, Option.bind_some]
  have kw : ∀ (k : Int) (s : Str), (k = 1 ∧ s = [112, 117, 98] ∨ k = 2 ∧ s = [117, 51, 50] ∨ k = 3 ∧ s = [117, 54, 52]) → isB q s = true → GA p (takeP q s) ∧ ((takeP q s).e_ = 0 → DPar (rest p) ⟨3, (tokP p).At_, (nameP (nodeP p)).1, k, []⟩ (rest (takeP q s))) := by
    intro k s hk hb
    obtain ⟨t1, t2, t3⟩ := (take_gd g3.inv (s := s)).2.1 hb
    refine ⟨g4.ga t2, fun hq => ?_⟩
    obtain ⟨u, a1, a2, a3, a4⟩ := key _ t1 (take_rest g3.inv hb)
    rw [a3, a4]
    exact .word a1 a2 hk (isB_isT hb).2
  by_cases b1 : isB q [112, 117, 98] = true
  · rw [if_pos b1]; exact .some (kw 1 _ (.inl ⟨rfl, rfl⟩) b1)
  rw [if_neg b1]
  by_cases b2 : isB q [117, 51, 50] = true
  · rw [if_pos b2]; exact .some (kw 2 _ (.inr (.inl ⟨rfl, rfl⟩)) b2)
  rw [if_neg b2]
  by_cases b3 : isB q [117, 54, 52] = true
  · rw [if_pos b3]; exact .some (kw 3 _ (.inr (.inr ⟨rfl, rfl⟩)) b3)
  rw [if_neg b3]
  simp only [Sum.elim_inl]
  have g5 := node_gd g3.inv
  have g6 := size_ga g5.inv
  rw [node_eq g3.inv, Option.bind_some, size_eq g5.inv hn, Option.bind_some]
  refine .some ⟨g4.ga (g5.ga g6), fun hq => ?_⟩
  obtain ⟨c1, v, w, c2, c3, c4, c5, c6⟩ := size_ok g5.inv hq
  rw [tok_node] at c2 c6
  rw [rest_node] at c6
  obtain ⟨u, a1, a2, a3, a4⟩ := key _ (g5.e0 c1) c6
  simp only [a3, c5]
  rw [a4]
  exact .arr a1 a2 c2 c3 c4
theorem sparams_l1 (hn : 13 < n) : ∀ (c : Nat) (l : List T_parse_Node) (p : T_parse_parser), PI p → (p.l_.length : Int) - p.at_ < c → (l.length : Int) ≤ p.at_ → Tot (p_parse_parser_list__param_l1 n c l p) fun r => Gd p r.2 ∧ (r.1.length : Int) ≤ r.2.at_ + 1 ∧ ∀ us, r.2.e_ = 0 → isT (tokP r.2) [41] → rest r.2 = tokP r.2 :: us → ∃ xs, r.1 = l ++ xs ∧ DPars false (rest p) xs us := by
  intro c
  induction c with
  | zero => intro l p h h1 h2; have := h.hi; omega
  | succ c ih =>
    intro l p h h1 h2
    have k1 := h.lo
    have k2 := h.hi
    have k3 := h.big
    unfold p_parse_parser_list__param_l1
    refine Tot.iteb (fun h4 => ?_) fun h4 => .some ⟨.refl h, by simp only; omega, fun us he => by rw [show (l, p).2.e_ = p.e_ from rfl] at he; rw [he] at h4; cases h4⟩
    simp only [beq_iff_eq] at h4
    refine (sparam h hn).bind fun x ⟨g1, d1⟩ => ?_
    refine Tot.need (by simp only [List.length_singleton]; omega) ?_
    obtain ⟨g2, g3, g3'⟩ := take_gd g1.inv (s := [44])
    rw [take_eq g1.inv hn, Option.bind_some]
    have m1 := g1.at'
    have m2 := g2.at'
    refine Tot.iteb (fun h5 => .some ⟨g1.toGd.trans g2, by simp only [List.length_append, List.length_singleton]; omega, fun us he ht hr => ?_⟩) fun h5 => ?_
    · have h6 := g3' (by simpa using h5)
      simp only [h6] at he ht hr
      have d2 := d1 he
      rw [hr] at d2
      exact ⟨[x.1], rfl, .item d2 ht⟩
    · have h5' : isB x.2 [44] = true := by simpa using h5
      have g4 := g3 h5'
      have g5 := g1.ga g4.2.1
      have m3 := g1.adv g4.1
      have m4 := g1.toGd.trans g2
      refine (ih _ _ g2.inv (by rw [m4.len]; omega) (by simp only [List.length_append, List.length_singleton]; omega)).mono fun s ⟨s1, s2, s3⟩ => ⟨g5.toGd.trans s1, s2, fun us he ht hr => ?_⟩
      obtain ⟨xs, e, d3⟩ := s3 us he ht hr
      have d2 := d1 g4.1
      rw [take_rest g1.inv h5'] at d2
      exact ⟨x.1 :: xs, by rw [e]; simp, .items d2 (isB_isT h5').2 d3⟩
theorem sparams (h : PI p) (hn : 13 < n) (hb : (p.l_.length : Int) - p.at_ < n) : Tot (p_parse_parser_list__param n p) fun r => GA p r.2 ∧ (r.1.length : Int) ≤ r.2.at_ + 1 ∧ (r.2.e_ = 0 → DPars true (rest p) r.1 (rest r.2)) := by
  unfold p_parse_parser_list__param
  have g1 := need_ga h (s := [40])
  obtain ⟨g2, g3, g4⟩ := take_gd g1.inv (s := [41])
  have k0 := g1.inv.lo
  have k9 := g2.inv.lo
  rw [need_eq h hn, Option.bind_some, take_eq g1.inv hn, Option.bind_some]
  refine Tot.iteb (fun h5 => .some ⟨g1.gd g2, by simp only [List.length_nil]; omega, fun he => ?_⟩) fun h5 => ?_
  · have h5' : isB (needP p [40]) [41] = true := h5
    obtain ⟨a1, a2, a3⟩ := need_ok h (isB_isT h5').1
    rw [a3, take_rest g1.inv h5']
    exact .none a2 (isB_isT h5').2
  have h5' : isB (needP p [40]) [41] = false := h5
  rw [g4 h5']
  refine Tot.bind (P := fun y => Gd (needP p [40]) y.2 ∧ (y.1.length : Int) ≤ y.2.at_ + 1 ∧ ∀ us, y.2.e_ = 0 → isT (tokP y.2) [41] → rest y.2 = tokP y.2 :: us → DPars false (rest (needP p [40])) y.1 us) ?_ fun y ⟨g6, n6, d6⟩ => ?_
  · refine (sparams_l1 hn n [] (needP p [40]) g1.inv (by have := g1.at'; rw [g1.toGd.len]; omega) (by simpa using k0)).bind fun y ⟨y1, y2, y3⟩ => .some ⟨y1, y2, fun us he ht hr => ?_⟩
    obtain ⟨xs, e, d⟩ := y3 us he ht hr
    rw [List.nil_append] at e
    rw [show (y.1, y.2).1 = y.1 from rfl, e]
    exact d
  · have g7 := need_ga g6.inv (s := [41])
    have m7 := g7.at'
    rw [need_eq g6.inv hn, Option.bind_some]
    refine .some ⟨(g1.gd g6).ga g7, by simp only; omega, fun he => ?_⟩
    obtain ⟨a1, a2, a3⟩ := need_ok g6.inv he
    have e1 := g6.e0 a1
    obtain ⟨b1, b2, b3⟩ := need_ok h e1
    rw [b3]
    exact .args b2 (not_hdT g1.inv e1 h5') (d6 _ a1 a2 a3)
theorem splain_1 (h : PI p) {a : Int} (h0 : 0 ≤ a) (h1 : a ≤ 900) (hb : Lf p + 30 ≤ n) : Tot (p_parse_parser_plain_1 n p a) fun r => GA p r.2 ∧ (r.2.e_ = 0 → DE 64 (.lev 0) (a + 1 + 1) (rest p) [r.1] (rest r.2)) := by
  unfold p_parse_parser_plain_1
  rw [wrap64 (n := a + 2) (by omega) (by omega), show a + 2 = a + 1 + 1 by omega]
  exact (sexpr h (by omega) (by omega) hb).bind fun r g => .some g
theorem splist_l1 (hn : 13 < n) {a : Int} (h0 : 0 ≤ a) (h9 : a ≤ 900) : ∀ (c : Nat) (l : List T_parse_Node) (p : T_parse_parser), PI p → Lf p + 30 ≤ n → (p.l_.length : Int) - p.at_ < c → (l.length : Int) ≤ p.at_ → Tot (p_parse_parser_list__plain_1_l1 n a c l p) fun r => Gd p r.2 ∧ (r.1.length : Int) ≤ r.2.at_ + 1 ∧ ∀ us, r.2.e_ = 0 → isT (tokP r.2) [41] → rest r.2 = tokP r.2 :: us → ∃ xs, r.1 = l ++ xs ∧ DE 64 .items (a + 1) (rest p) xs us := by
  intro c
  induction c with
  | zero => intro l p h _ h1 h2; have := h.hi; omega
  | succ c ih =>
    intro l p h hk h1 h2
    have k1 := h.lo
    have k2 := h.hi
    have k3 := h.big
    unfold p_parse_parser_list__plain_1_l1
    refine Tot.iteb (fun h4 => ?_) fun h4 => .some ⟨.refl h, by simp only; omega, fun us he => by rw [show (l, p).2.e_ = p.e_ from rfl] at he; rw [he] at h4; cases h4⟩
    simp only [beq_iff_eq] at h4
    refine (splain_1 h h0 h9 hk).bind fun x ⟨g1, d1⟩ => ?_
    refine Tot.need (by simp only [List.length_singleton]; omega) ?_
    obtain ⟨g2, g3, g3'⟩ := take_gd g1.inv (s := [44])
    rw [take_eq g1.inv hn, Option.bind_some]
    have m1 := g1.at'
    have m2 := g2.at'
    refine Tot.iteb (fun h5 => .some ⟨g1.toGd.trans g2, by simp only [List.length_append, List.length_singleton]; omega, fun us he ht hr => ?_⟩) fun h5 => ?_
    · have h6 := g3' (by simpa using h5)
      simp only [h6] at he ht hr
      have d2 := d1 he
      rw [hr] at d2
      exact ⟨[x.1], rfl, .item d2 ht⟩
    · have h5' : isB x.2 [44] = true := by simpa using h5
      have g4 := g3 h5'
      have g5 := g1.ga g4.2.1
      have m3 := g1.adv g4.1
      have m4 := g1.toGd.trans g2
      have m5 := g5.toGd.lf
      refine (ih _ _ g2.inv (by omega) (by rw [m4.len]; omega) (by simp only [List.length_append, List.length_singleton]; omega)).mono fun s ⟨s1, s2, s3⟩ => ⟨g5.toGd.trans s1, s2, fun us he ht hr => ?_⟩
      obtain ⟨xs, e, d3⟩ := s3 us he ht hr
      have d2 := d1 g4.1
      rw [take_rest g1.inv h5'] at d2
      exact ⟨x.1 :: xs, by rw [e]; simp, .items d2 (isB_isT h5').2 d3⟩
theorem splist (h : PI p) {a : Int} (h0 : 0 ≤ a) (h9 : a ≤ 900) (hb : Lf p + 30 ≤ n) : Tot (p_parse_parser_list__plain_1 n p a) fun r => GA p r.2 ∧ (r.2.e_ = 0 → DE 64 .args (a + 1) (rest p) r.1 (rest r.2)) := by
  have hn : 13 < n := by have := h.lf; omega
  unfold p_parse_parser_list__plain_1
  have g1 := need_ga h (s := [40])
  obtain ⟨g2, g3, g4⟩ := take_gd g1.inv (s := [41])
  rw [need_eq h hn, Option.bind_some, take_eq g1.inv hn, Option.bind_some]
  refine Tot.iteb (fun h5 => .some ⟨g1.gd g2, fun he => ?_⟩) fun h5 => ?_
  · have h5' : isB (needP p [40]) [41] = true := h5
    obtain ⟨a1, a2, a3⟩ := need_ok h (isB_isT h5').1
    rw [a3, take_rest g1.inv h5']
    exact .none a2 (isB_isT h5').2
  have k0 := g1.inv.lo
  have k1 := g1.toGd.lf
  have h5' : isB (needP p [40]) [41] = false := h5
  rw [g4 h5']
  refine Tot.bind (P := fun y => Gd (needP p [40]) y.2 ∧ ∀ us, y.2.e_ = 0 → isT (tokP y.2) [41] → rest y.2 = tokP y.2 :: us → DE 64 .items (a + 1) (rest (needP p [40])) y.1 us) ?_ fun y ⟨g6, d6⟩ => ?_
  · refine (splist_l1 hn h0 h9 n [] (needP p [40]) g1.inv (by omega) ?_ (by simpa using k0)).bind fun y ⟨y1, y2, y3⟩ => .some ⟨y1, fun us he ht hr => ?_⟩
    · unfold Lf at hb k1
      rw [g1.toGd.len] at k1 ⊢
      have := h.hi
      omega
    · obtain ⟨xs, e, d⟩ := y3 us he ht hr
      rw [List.nil_append] at e
      rw [show (y.1, y.2).1 = y.1 from rfl, e]
      exact d
  · have g7 := need_ga g6.inv (s := [41])
    rw [need_eq g6.inv hn, Option.bind_some]
    refine .some ⟨(g1.gd g6).ga g7, fun he => ?_⟩
    obtain ⟨a1, a2, a3⟩ := need_ok g6.inv he
    have e1 := g6.e0 a1
    obtain ⟨b1, b2, b3⟩ := need_ok h e1
    rw [b3]
    exact .args b2 (not_hdT g1.inv e1 h5') (d6 _ a1 a2 a3)
theorem snamed (h : PI p) {x : T_parse_Node} {a : Int} (h0 : 0 ≤ a) (h9 : a ≤ 900) (hb : Lf p + 30 ≤ n) : Tot (p_parse_parser_named n p x (a + 1)) fun r => GA p r.2 ∧ (r.2.e_ = 0 → ∀ t s, (x.Kind_ = 5 ∧ s = [108, 101, 116] ∨ x.Kind_ = 6 ∧ s = [118, 97, 114]) → isT t s → x = ⟨x.Kind_, t.At_, [], 0, []⟩ → DS 64 .stmt a (t :: rest p) [r.1] (rest r.2)) := by
  have hn : 13 < n := by have := h.lf; omega
  have g1 := name_ga h
  have g2 := need_ga g1.inv (s := [61])
  have l1 := g1.toGd.lf
  have l2 := g2.toGd.lf
  unfold p_parse_parser_named
  rw [name_eq h hn, Option.bind_some, need_eq g1.inv hn, Option.bind_some]
  refine (sexpr g2.inv (by omega) (by omega) (by omega)).bind fun s ⟨g3, d3⟩ => ?_
  have g4 := need_ga g3.inv (s := [59])
  rw [need_eq g3.inv hn, Option.bind_some]
  refine .some ⟨g1.ga (g2.ga (g3.ga g4)), fun hq t s' hk ht hx => ?_⟩
  obtain ⟨a1, a2, a3⟩ := need_ok g3.inv hq
  have d4 := d3 a1
  obtain ⟨b1, b2, b3⟩ := need_ok g1.inv (g3.toGd.e0 a1)
  obtain ⟨c1, c2, c3, c4⟩ := name_ok h b1
  rw [a3] at d4
  rw [c4, b3]
  simp only [c3]
  rw [hx]
  exact .bind hk ht c2 b2 d4 a2
theorem splain (h : PI p) {x : T_parse_Node} (hx : x = ⟨8, (tokP p).At_, [], 0, []⟩) {a : Int} (h0 : 0 ≤ a) (h9 : a ≤ 900) (hb : Lf p + 30 ≤ n) : Tot (p_parse_parser_plain n p x a) fun r => GA p r.2 ∧ (r.2.e_ = 0 → DS 64 .stmt a (rest p) [r.1] (rest r.2)) := by
  have hn : 13 < n := by have := h.lf; omega
  subst hx
  have g1 := name_ga h
  have l1 := g1.toGd.lf
  unfold p_parse_parser_plain
  rw [name_eq h hn, Option.bind_some, wrap64 (n := a + 1) (by omega) (by omega), wrap64 (n := a + 2) (by omega) (by omega)]
  refine Tot.bind (P := fun y => GA p y.1 ∧ ∀ us, y.1.e_ = 0 → isT (tokP y.1) [59] → rest y.1 = tokP y.1 :: us → DS 64 .stmt a (rest p) [y.2] us) ?_ fun y ⟨g, d⟩ => ?_
  case refine_2 =>
    have g2 := need_ga g.inv (s := [59])
    rw [need_eq g.inv hn, Option.bind_some]
    refine .some ⟨g.ga g2, fun hq => ?_⟩
    obtain ⟨a1, a2, a3⟩ := need_ok g.inv hq
    exact d _ a1 a2 a3
  rw [is_eq g1.inv hn, Option.bind_some]
  refine Tot.iteb (fun h3 => ?_) fun h3 => ?_
  · refine (splist g1.inv h0 h9 (by omega)).bind fun s ⟨g2, d2⟩ => .some ⟨g1.ga g2, fun us he ht hr => ?_⟩
    obtain ⟨c1, c2, c3, c4⟩ := name_ok h (isB_isT h3).1
    have d3 := d2 he
    simp only at hr
    rw [hr] at d3
    simp only [c3]
    rw [c4]
    exact .call c2 d3 ht
  · obtain ⟨t1, t2, t3⟩ := take_gd g1.inv (s := [91])
    rw [take_eq g1.inv hn, Option.bind_some]
    have l2 := t1.lf
    refine Tot.iteb (fun h4 => ?_) fun h4 => ?_
    · have h4' : isB (nameP p).2 [91] = true := h4
      refine (sexpr t1.inv (by omega) (by omega) (by omega)).bind fun s ⟨g2, d2⟩ => ?_
      have g3 := need_ga g2.inv (s := [93])
      have g4 := need_ga g3.inv (s := [61])
      have l3 := g2.toGd.lf
      have l4 := g3.toGd.lf
      have l5 := g4.toGd.lf
      rw [need_eq g2.inv hn, Option.bind_some, need_eq g3.inv hn, Option.bind_some]
      refine (sexpr g4.inv (by omega) (by omega) (by omega)).bind fun w ⟨g5, d5⟩ => Tot.need (by simp) (.some ⟨(g1.gd t1).ga (g2.ga (g3.ga (g4.ga g5))), fun us he ht hr => ?_⟩)
      obtain ⟨c1, c2, c3, c4⟩ := name_ok h (isB_isT h4').1
      have d6 := d5 he
      obtain ⟨a1, a2, a3⟩ := need_ok g3.inv (g5.toGd.e0 he)
      obtain ⟨b1, b2, b3⟩ := need_ok g2.inv a1
      have d7 := d2 b1
      rw [b3, a3] at d7
      simp only at hr
      rw [hr] at d6
      simp only [c3]
      rw [c4, take_rest g1.inv h4']
      exact .put c2 (isB_isT h4').2 d7 b2 a2 d6 ht
    · have h4' : isB (nameP p).2 [91] = false := h4
      rw [t3 h4']
      have g4 := need_ga g1.inv (s := [61])
      have l5 := g4.toGd.lf
      rw [need_eq g1.inv hn, Option.bind_some]
      refine (sexpr g4.inv (by omega) (by omega) (by omega)).bind fun w ⟨g5, d5⟩ => .some ⟨g1.ga (g4.ga g5), fun us he ht hr => ?_⟩
      have d6 := d5 he
      obtain ⟨a1, a2, a3⟩ := need_ok g1.inv (g5.toGd.e0 he)
      obtain ⟨c1, c2, c3, c4⟩ := name_ok h a1
      simp only at hr
      rw [hr] at d6
      simp only [c3]
      rw [c4, a3]
      exact .set c2 a2 d6 ht
end
end Go.Proofs.YtolhahlnccekcaaDoor.Abs
