/-
  Expressions: sizes, accounts, and the document's are the same.
-/
import Derived.Test.YtolhahlnccekcaaDoorPtPr3
namespace Go.Proofs.YtolhahlnccekcaaDoor.Abs
open Go.RowKit
set_option linter.unusedVariables false
set_option linter.unusedSimpArgs false
mutual
def flatN : T_parse_Node → List T_remontoireref10_N
  | ⟨k, a, t, n, l⟩ => ⟨k, a, t, n, l.length⟩ :: flatL l
def flatL : List T_parse_Node → List T_remontoireref10_N
  | [] => []
  | x :: l => flatN x ++ flatL l
end
theorem flatN_eq (x : T_parse_Node) : flatN x = ⟨x.Kind_, x.At_, x.Text_, x.Num_, x.List_.length⟩ :: flatL x.List_ := by
  cases x
  rw [flatN]
theorem flatN_mk (k a : Int) (t : Str) (n : Int) (l : List T_parse_Node) : flatN ⟨k, a, t, n, l⟩ = ⟨k, a, t, n, l.length⟩ :: flatL l := by rw [flatN]
theorem flatL_nil : flatL [] = [] := by rw [flatL]
theorem flatL_cons (x : T_parse_Node) (l : List T_parse_Node) : flatL (x :: l) = flatN x ++ flatL l := by rw [flatL]
theorem flatL_app (l l' : List T_parse_Node) : flatL (l ++ l') = flatL l ++ flatL l' := by
  induction l with
  | nil => rw [flatL_nil]; rfl
  | cons x l ih => rw [List.cons_append, flatL_cons, flatL_cons, ih, List.append_assoc]
def sz (x : T_parse_Node) : Int := (flatN x).length
def szL (l : List T_parse_Node) : Int := (flatL l).length
theorem sz_eq (x : T_parse_Node) : sz x = 1 + szL x.List_ := by unfold sz szL; rw [flatN_eq, List.length_cons]; omega
theorem szL_nil : szL [] = 0 := by unfold szL; rw [flatL_nil]; rfl
theorem szL_cons (x : T_parse_Node) (l : List T_parse_Node) : szL (x :: l) = sz x + szL l := by unfold szL sz; rw [flatL_cons, List.length_append]; omega
theorem szL_app (l l' : List T_parse_Node) : szL (l ++ l') = szL l + szL l' := by unfold szL; rw [flatL_app, List.length_append]; omega
theorem szL_ge (l : List T_parse_Node) : (l.length : Int) ≤ szL l := by
  induction l with
  | nil => rw [szL_nil]; exact Int.le_refl _
  | cons x l ih => have := sz_eq x; have h2 : 0 ≤ szL x.List_ := by unfold szL; omega
                   rw [szL_cons, List.length_cons]; omega
theorem sz_pos (x : T_parse_Node) : 1 ≤ sz x := by have := sz_eq x; have h2 : 0 ≤ szL x.List_ := by unfold szL; omega
                                                   omega
def ph (p : T_parse_parser) : Int := if p.e_ = 0 then 8 * ((p.l_.length : Int) - p.at_) + 16 else 0
theorem PI.ph {p : T_parse_parser} (h : PI p) : (p.e_ = 0 → 24 ≤ ph p) ∧ (p.e_ ≠ 0 → ph p = 0) ∧ 0 ≤ ph p ∧ ph p ≤ 524312 := by
  have h1 := h.lo
  have h2 := h.hi
  have h3 := h.big
  unfold Abs.ph
  split <;> omega
theorem Gd.ph {p q : T_parse_parser} (g : Gd p q) : (p.e_ = 0 → Abs.ph q ≤ Abs.ph p) ∧ (p.e_ ≠ 0 → q.e_ ≠ 0) := by
  have h1 := g.at'
  have h2 := g.len
  have h3 := g.inv.hi
  have h4 := g.inv.lo
  refine ⟨fun he => ?_, fun he => (g.err he).1⟩
  unfold Abs.ph
  rw [if_pos he, h2]
  rw [h2] at h3
  split <;> omega
theorem GA.ph {p q : T_parse_parser} (g : GA p q) : (p.e_ = 0 → Abs.ph q + 8 ≤ Abs.ph p) ∧ (p.e_ ≠ 0 → q.e_ ≠ 0) := by
  have h1 := g.at'
  have h2 := g.toGd.len
  have h3 := g.inv.hi
  have h4 := g.inv.lo
  refine ⟨fun he => ?_, fun he => (g.err he).1⟩
  unfold Abs.ph
  rw [if_pos he, h2]
  rw [h2] at h3
  split
  · rename_i hq
    have := g.adv hq
    omega
  · omega
structure GB (S E J : Int) (p q : T_parse_parser) (s : Int) : Prop where
  ga : GA p q
  pn : PN q
  ok : p.e_ = 0 → s + S + ph q ≤ ph p
  er : p.e_ ≠ 0 → s ≤ E
  ac : q.e_ = 0 → q.nodes_ = p.nodes_ + s - J
theorem PN.of {p q : T_parse_parser} (h : PN p) (g : Gd p q) (hn : q.nodes_ = p.nodes_) : PN q := fun he => by rw [hn]; exact h (g.e0 he)
theorem PN.node {p : T_parse_parser} (h : PN p) : PN (nodeP p) := fun he => by
  obtain ⟨h1, h2, h3⟩ := node_nd h he
  have := h h1
  rw [h2]; omega
/-- the spec of a function that makes an expression's node -/
def SimE (n : Nat) (k : Int) (f : T_parse_parser → Int → Option (T_parse_Node × T_parse_parser)) (g : Nat → T_remontoireref10_P → Int → Option (T_remontoireref10_P × List T_remontoireref10_N)) : Prop :=
  ∀ p a, PI p → PN p → Lf p + k ≤ n → Tot (f p a) fun r => GB 7 1 0 p r.2 (sz r.1) ∧ ∀ m, n ≤ m → g m (conv p) a = some (conv r.2, flatN r.1)
def SimL (n : Nat) (f : T_parse_parser → Int → Int → Option (T_parse_Node × T_parse_parser)) : Prop :=
  ∀ p a b, PI p → PN p → 0 ≤ a → a ≤ 7 → Lf p + 29 - a ≤ n → Tot (f p a b) fun r => GB 7 1 0 p r.2 (sz r.1) ∧ ∀ m, n ≤ m → remontoireref10_P_level m (conv p) a b = some (conv r.2, flatN r.1)
def SimA (n : Nat) (f : T_parse_parser → Int → Option ((List T_parse_Node) × T_parse_parser)) : Prop :=
  ∀ p a, PI p → PN p → Lf p + 25 ≤ n → Tot (f p a) fun r => GB 0 0 0 p r.2 (szL r.1) ∧ ∀ m, n ≤ m → remontoireref10_P_args m (conv p) (IntKind.i64.wrap (a + 1)) = some (conv r.2, flatL r.1, (r.1.length : Int))
section
variable {n : Nat} {p : T_parse_parser}
theorem plevel_l1 (hn : 13 < n) {f : T_parse_parser → Int → Int → Option (T_parse_Node × T_parse_parser)} {a1 a2 : Int} (h0 : 0 ≤ a1) (h6 : a1 < 7) {k : Int} (hf : ∀ p, PI p → PN p → Lf p ≤ k → Tot (f p (a1 + 1) a2) fun r => GB 7 1 0 p r.2 (sz r.1) ∧ ∀ m, n ≤ m → remontoireref10_P_level m (conv p) (a1 + 1) a2 = some (conv r.2, flatN r.1)) :
    ∀ (c : Nat) (p : T_parse_parser) (x : T_parse_Node), PI p → PN p → Lf p ≤ k → 1 ≤ c → (signP p (levP a1) ≠ [] → Lf p + 1 ≤ c) → sz x + ph p ≤ 600000 →
      Tot (p_parse_parser_level_l1 f n a1 a2 c (signP p (levP a1)) p x) fun r => Gd p r.1 ∧ PN r.1 ∧ sz r.2 + ph r.1 ≤ sz x + ph p ∧ (r.1.e_ = 0 → r.1.nodes_ = p.nodes_ + sz r.2 - sz x) ∧
        ∀ (m c' : Nat) z, n ≤ m → c ≤ c' → remontoireref10_P_level_l1 (remontoireref10_P_level m) m a1 a2 c' (flatN x) z (conv p) = some (conv r.1, flatN r.2) := by
  intro c
  induction c with
  | zero => intro p x h _ hl h1; omega
  | succ c ih =>
    intro p x h hpn hl h1 h2 hB
    unfold p_parse_parser_level_l1
    refine Tot.iteb (fun h4 => ?_) fun h4 => ?_
    · simp only [ne_eq, decide_eq_true_eq] at h4
      have h5 := h2 h4
      have h6' := h.lf
      have he := signP_e h4
      have g1 := node_gd h
      have g2 := need_ga g1.inv (s := signP p (levP a1))
      have n1 := hpn.node
      have n2 := n1.of g2.toGd need_nd
      have l1 := g1.lf
      have l2 := g2.toGd.lf
      rw [node_eq h, Option.bind_some, need_eq g1.inv hn, Option.bind_some, wrap64 (n := a1 + 1) (by omega) (by omega)]
      refine (hf _ g2.inv n2 (by omega)).bind fun s ⟨g3, e3⟩ => ?_
      have g4 := g1.ga (g2.ga g3.ga)
      have p0 := h.ph
      have p1 := g1.ph
      have p2 := g2.ph
      have p1' := g1.inv.ph
      have p2' := g2.inv.ph
      have p3' := g3.ga.inv.ph
      have p3 := g3.ok
      have p3e := g3.er
      have p3a := g3.ga.ph
      -- the new node
      have hs : sz ({ (⟨19, (tokP p).At_, [], 0, []⟩ : T_parse_Node) with Text_ := signP p (levP a1), List_ := [x, s.1] } : T_parse_Node) = 1 + sz x + sz s.1 := by
        rw [sz_eq]
        simp only [szL_cons, szL_nil]; omega
      have hsum : 1 + sz x + sz s.1 + ph s.2 ≤ sz x + ph p := by omega
      have hac : s.2.e_ = 0 → s.2.nodes_ = p.nodes_ + 1 + sz s.1 := by
        intro hq
        have hq2 := g3.ga.toGd.e0 hq
        have hq1 := g2.toGd.e0 hq2
        have := (node_nd hpn hq1).2.1
        have h7 : (needP (nodeP p) (signP p (levP a1))).nodes_ = (nodeP p).nodes_ := need_nd
        have := g3.ac hq
        omega
      have hfl : flatN ({ (⟨19, (tokP p).At_, [], 0, []⟩ : T_parse_Node) with Text_ := signP p (levP a1), List_ := [x, s.1] } : T_parse_Node) = ([(⟨19, (tokP p).At_, signP p (levP a1), 0, 2⟩ : T_remontoireref10_N)] ++ flatN x) ++ flatN s.1 := by
        rw [flatN_eq]
        simp only [flatL_cons, flatL_nil, List.append_nil, List.length_cons, List.length_nil]
        rfl
      have hszx : (flatN x).length ≤ 600000 := by have : ((flatN x).length : Int) = sz x := rfl; omega
      have hszs : (flatN s.1).length ≤ 600000 := by have : ((flatN s.1).length : Int) = sz s.1 := rfl; omega
      -- the document's round
      have hr : ∀ (m c' : Nat) z, n ≤ m → remontoireref10_P_level_l1 (remontoireref10_P_level m) m a1 a2 (c' + 1) (flatN x) z (conv p) =
          if (a1 == (3 : Int)) = true then some (conv s.2, flatN ({ (⟨19, (tokP p).At_, [], 0, []⟩ : T_parse_Node) with Text_ := signP p (levP a1), List_ := [x, s.1] } : T_parse_Node))
          else remontoireref10_P_level_l1 (remontoireref10_P_level m) m a1 a2 c' (flatN ({ (⟨19, (tokP p).At_, [], 0, []⟩ : T_parse_Node) with Text_ := signP p (levP a1), List_ := [x, s.1] } : T_parse_Node)) z (conv s.2) := by
        intro m c' z hm
        rw [remontoireref10_P_level_l1]
        rw [rsign h (by omega) h0 h6, Option.bind_some, if_neg (by simpa using h4), rnode h, Option.bind_some, rneed g1.inv (by omega), Option.bind_some, wrap64 (n := a1 + 1) (by omega) (by omega), e3 m hm, Option.bind_some, need_of (by simp only [List.length_singleton]; omega), need_of (by simp only [List.length_append, List.length_singleton]; omega), hfl]
      refine Tot.iteb (fun h7 => .some ⟨g4.toGd, g3.pn, by rw [hs]; exact hsum, fun hq => by rw [hs, hac hq]; omega, fun m c' z hm hc => ?_⟩) fun h7 => ?_
      · obtain ⟨c', rfl⟩ : ∃ d, c' = d + 1 := ⟨c' - 1, by omega⟩
        rw [hr m c' z hm, if_pos h7]
      · rw [sign_eqP g3.ga.inv hn h0 h6, Option.bind_some]
        have l3 := g3.ga.toGd.lf
        refine (ih s.2 _ g3.ga.inv g3.pn (by omega) (by omega) (fun hne => ?_) (by rw [hs]; omega)).mono fun r ⟨r1, r2, r3, r4, r5⟩ => ⟨g4.toGd.trans r1, r2, by rw [hs] at r3; omega, fun hq => ?_, fun m c' z hm hc => ?_⟩
        · have l4 := g4.lf (signP_e hne)
          omega
        · have := r4 hq
          have := hac (r1.e0 hq)
          rw [hs] at *
          omega
        · obtain ⟨c', rfl⟩ : ∃ d, c' = d + 1 := ⟨c' - 1, by omega⟩
          rw [hr m c' z hm, h7, if_neg (by decide)]
          exact r5 m c' z hm (by omega)
    · simp only [ne_eq, decide_not, Bool.not_eq_false', decide_eq_true_eq] at h4
      refine .some ⟨.refl h, hpn, Int.le_refl _, fun _ => by simp only; omega, fun m c' z hm hc => ?_⟩
      obtain ⟨c', rfl⟩ : ∃ d, c' = d + 1 := ⟨c' - 1, by omega⟩
      rw [remontoireref10_P_level_l1]
      rw [rsign h (by omega) h0 h6, Option.bind_some, if_pos (by simpa using h4)]
theorem plevel_b (hn : 13 < n) {fo : T_parse_parser → Int → Option (T_parse_Node × T_parse_parser)} {fl : T_parse_parser → Int → Int → Option (T_parse_Node × T_parse_parser)} (ho : SimE n 21 fo remontoireref10_P_operand) (hl : SimL n fl) : SimL (n + 1) (p_parse_parser_level_b fo fl n) := by
  intro p a b h hpn h0 h7 hb
  unfold p_parse_parser_level_b
  refine Tot.iteb (fun h1 => ?_) fun h1 => ?_
  · have h1' := h1
    simp only [beq_iff_eq] at h1
    refine (ho p b h hpn (by omega)).bind fun r ⟨g, e⟩ => .some ⟨g, fun m hm => ?_⟩
    obtain ⟨m, rfl⟩ : ∃ d, m = d + 1 := ⟨m - 1, by omega⟩
    show remontoireref10_P_level_b (remontoireref10_P_operand m) (remontoireref10_P_level m) m (conv p) a b = _
    unfold remontoireref10_P_level_b
    rw [if_pos h1', e m (by omega)]; rfl
  · have h1' := h1
    simp only [beq_eq_false_iff_ne, ne_eq] at h1
    rw [wrap64 (n := a + 1) (by omega) (by omega)]
    refine (hl p (a + 1) b h hpn (by omega) (by omega) (by omega)).bind fun r ⟨g, e⟩ => ?_
    have l1 := g.ga.toGd.lf
    have l2 := g.ga.inv.lf
    have p0 := h.ph
    have p1 := g.ga.inv.ph
    have p2 := g.ok
    have p3 := g.er
    have p4 := g.ga.ph
    rw [sign_eqP g.ga.inv hn h0 (by omega), Option.bind_some]
    refine (plevel_l1 hn h0 (by omega) (k := Lf r.2) (fun q hq hqn hk => hl q (a + 1) b hq hqn (by omega) (by omega) (by omega)) n r.2 r.1 g.ga.inv g.pn (Int.le_refl _) (by omega) (fun _ => by omega) (by omega)).bind fun s ⟨s1, s2, s3, s4, s5⟩ => .some ⟨⟨g.ga.gd s1, s2, fun he => ?_, fun he => ?_, fun he => ?_⟩, fun m hm => ?_⟩
    · simp only; omega
    · have p5 := s1.inv.ph
      simp only; omega
    · have := s4 he
      have := g.ac (s1.e0 he)
      simp only; omega
    · obtain ⟨m, rfl⟩ : ∃ d, m = d + 1 := ⟨m - 1, by omega⟩
      show remontoireref10_P_level_b (remontoireref10_P_operand m) (remontoireref10_P_level m) m (conv p) a b = _
      unfold remontoireref10_P_level_b
      rw [h1', if_neg (by decide), wrap64 (n := a + 1) (by omega) (by omega), e m (by omega), Option.bind_some, s5 m m _ (by omega) (by omega)]; rfl
theorem pexpr_b {fl : T_parse_parser → Int → Int → Option (T_parse_Node × T_parse_parser)} (hl : SimL n fl) : SimE (n + 1) 30 (p_parse_parser_expr_b fl n) (fun m q a => remontoireref10_P_level m q 0 a) := by
  intro p a h hpn hb
  unfold p_parse_parser_expr_b
  exact (hl p 0 a h hpn (by omega) (by omega) (by omega)).bind fun r ⟨g, e⟩ => .some ⟨g, fun m hm => e m (by omega)⟩
theorem poperand_1_b {fe : T_parse_parser → Int → Option (T_parse_Node × T_parse_parser)} (he : SimE n 30 fe (fun m q a => remontoireref10_P_level m q 0 a)) : SimE (n + 1) 31 (p_parse_parser_operand_1_b fe n) (fun m q a => remontoireref10_P_level m q 0 (IntKind.i64.wrap (a + 1))) := by
  intro p a h hpn hb
  unfold p_parse_parser_operand_1_b
  exact (he p _ h hpn (by omega)).bind fun r ⟨g, e⟩ => .some ⟨g, fun m hm => e m (by omega)⟩
theorem plist_l1 (hn : 13 < n) {fo : T_parse_parser → Int → Option (T_parse_Node × T_parse_parser)} {k : Int} {a : Int} (hf : ∀ p, PI p → PN p → Lf p ≤ k → Tot (fo p a) fun r => GB 7 1 0 p r.2 (sz r.1) ∧ ∀ m, n ≤ m → remontoireref10_P_level m (conv p) 0 (IntKind.i64.wrap (a + 1)) = some (conv r.2, flatN r.1)) :
    ∀ (c : Nat) (l : List T_parse_Node) (p : T_parse_parser), PI p → PN p → (p.e_ = 0 → Lf p ≤ k) → (p.l_.length : Int) - p.at_ < c → szL l + ph p ≤ 600000 →
      Tot (p_parse_parser_list__operand_1_l1 fo n a c l p) fun r => Gd p r.2 ∧ PN r.2 ∧ szL r.1 + ph r.2 ≤ szL l + ph p ∧ (r.2.e_ = 0 → r.2.nodes_ = p.nodes_ + szL r.1 - szL l) ∧
        ∀ (m c' : Nat), n ≤ m → c ≤ c' → remontoireref10_P_args_l1 (remontoireref10_P_level m) m (IntKind.i64.wrap (a + 1)) c' (flatL l) (l.length : Int) (conv p) = some (flatL r.1, (r.1.length : Int), conv r.2) := by
  intro c
  induction c with
  | zero => intro l p h _ _ h1 h2; have := h.hi; omega
  | succ c ih =>
    intro l p h hpn hk h1 hB
    have k1 := h.lo
    have k2 := h.hi
    have k3 := h.big
    have hll := szL_ge l
    have p0 := h.ph
    unfold p_parse_parser_list__operand_1_l1
    refine Tot.iteb (fun h4 => ?_) fun h4 => .some ⟨.refl h, hpn, Int.le_refl _, fun _ => by simp only; omega, fun m c' hm hc => ?_⟩
    · have h4' := h4
      simp only [beq_iff_eq] at h4
      refine (hf p h hpn (hk h4)).bind fun x ⟨g1, e1⟩ => ?_
      have p1 := g1.ok h4
      have p1' := g1.ga.inv.ph
      have hx := sz_pos x.1
      refine Tot.need (by simp only [List.length_singleton]; omega) ?_
      obtain ⟨g2, g3, g3'⟩ := take_gd g1.ga.inv (s := [44])
      rw [take_eq g1.ga.inv hn, Option.bind_some]
      have p2 := g2.ph
      have p2' := g2.inv.ph
      have n2 : PN (takeP x.2 [44]) := g1.pn.of g2 take_nd
      have hnn : (takeP x.2 [44]).nodes_ = x.2.nodes_ := take_nd
      have hsz : szL (l ++ [x.1]) = szL l + sz x.1 := by rw [szL_app, szL_cons, szL_nil]; omega
      have hfl : flatL (l ++ [x.1]) = flatL l ++ flatN x.1 := by rw [flatL_app, flatL_cons, flatL_nil, List.append_nil]
      have hszl : (flatL l).length ≤ 600000 := by have : ((flatL l).length : Int) = szL l := rfl; omega
      have hszs : (flatN x.1).length ≤ 600000 := by have : ((flatN x.1).length : Int) = sz x.1 := rfl; omega
      have hac : (takeP x.2 [44]).e_ = 0 → (takeP x.2 [44]).nodes_ = p.nodes_ + szL (l ++ [x.1]) - szL l := fun hq => by
        have := g1.ac (g2.e0 hq)
        omega
      have hbb : szL (l ++ [x.1]) + ph (takeP x.2 [44]) ≤ szL l + ph p := by
        by_cases hq : x.2.e_ = 0
        · have := p2.1 hq; omega
        · have := p2'.2.1 (p2.2 hq); omega
      have hr : ∀ (m c' : Nat), n ≤ m → remontoireref10_P_args_l1 (remontoireref10_P_level m) m (IntKind.i64.wrap (a + 1)) (c' + 1) (flatL l) (l.length : Int) (conv p) =
          if (!(isB x.2 [44])) = true then some (flatL (l ++ [x.1]), ((l ++ [x.1]).length : Int), conv (takeP x.2 [44])) else remontoireref10_P_args_l1 (remontoireref10_P_level m) m (IntKind.i64.wrap (a + 1)) c' (flatL (l ++ [x.1])) ((l ++ [x.1]).length : Int) (conv (takeP x.2 [44])) := by
        intro m c' hm
        have hw : IntKind.i64.wrap ((l.length : Int) + 1) = ((l ++ [x.1]).length : Int) := by
          rw [wrap64 (by omega) (by omega), List.length_append, List.length_singleton]; omega
        rw [remontoireref10_P_args_l1]
        rw [if_pos (show ((conv p).E_ == 0) = true from h4'), e1 m hm, Option.bind_some, need_of (by simp only; omega), rtake g1.ga.inv (by omega), Option.bind_some, hw, hfl]
      refine Tot.iteb (fun h5 => .some ⟨g1.ga.toGd.trans g2, n2, hbb, hac, fun m c' hm hc => ?_⟩) fun h5 => ?_
      · obtain ⟨c', rfl⟩ : ∃ d, c' = d + 1 := ⟨c' - 1, by omega⟩
        rw [hr m c' hm, if_pos h5]
      · have h5' : isB x.2 [44] = true := by simpa using h5
        have g4 := g3 h5'
        have g5 := g1.ga.ga g4.2.1
        have m1 := g1.ga.at'
        have m2 := g2.at'
        have m3 := g1.ga.adv g4.1
        have m4 := g1.ga.toGd.trans g2
        have m5 := g5.toGd.lf
        have m6 := hk h4
        refine (ih _ _ g2.inv n2 (fun _ => by omega) (by rw [m4.len]; omega) (by omega)).mono fun s ⟨s1, s2, s3, s4, s5⟩ => ⟨g5.toGd.trans s1, s2, by omega, fun hq => ?_, fun m c' hm hc => ?_⟩
        · have := s4 hq
          have := hac (s1.e0 hq)
          omega
        · obtain ⟨c', rfl⟩ : ∃ d, c' = d + 1 := ⟨c' - 1, by omega⟩
          rw [hr m c' hm, if_neg (by rw [h5']; decide)]
          exact s5 m c' hm (by omega)
    · obtain ⟨c', rfl⟩ : ∃ d, c' = d + 1 := ⟨c' - 1, by have := h.hi; omega⟩
      rw [remontoireref10_P_args_l1]
      rw [if_neg (show ¬ ((conv p).E_ == 0) = true by rw [show (conv p).E_ = p.e_ from rfl, h4]; decide)]
theorem plist_b (hn : 13 < n) {fo : T_parse_parser → Int → Option (T_parse_Node × T_parse_parser)} (ho : SimE n 31 fo (fun m q a => remontoireref10_P_level m q 0 (IntKind.i64.wrap (a + 1)))) : SimA (n + 1) (p_parse_parser_list__operand_1_b fo n) := by
  intro p a h hpn hb
  unfold p_parse_parser_list__operand_1_b
  have g1 := need_ga h (s := [40])
  obtain ⟨g2, g3, g4⟩ := take_gd g1.inv (s := [41])
  have n1 : PN (needP p [40]) := hpn.of g1.toGd need_nd
  have n2 : PN (takeP (needP p [40]) [41]) := n1.of g2 take_nd
  have q0 := h.ph
  have q1 := g1.ph
  have q2 := g2.ph
  have q1' := g1.inv.ph
  have q2' := g2.inv.ph
  have hd1 : (needP p [40]).nodes_ = p.nodes_ := need_nd
  have hd2 : (takeP (needP p [40]) [41]).nodes_ = (needP p [40]).nodes_ := take_nd
  have g5 := g1.gd g2
  rw [need_eq h hn, Option.bind_some, take_eq g1.inv hn, Option.bind_some]
  have hr : ∀ m, n + 1 ≤ m → ∃ d, m = d + 1 ∧ n ≤ d ∧ remontoireref10_P_args m (conv p) (IntKind.i64.wrap (a + 1)) = remontoireref10_P_args_b (remontoireref10_P_level d) d (conv p) (IntKind.i64.wrap (a + 1)) := fun m hm => ⟨m - 1, by omega, by omega, by
    obtain ⟨d, rfl⟩ : ∃ d, m = d + 1 := ⟨m - 1, by omega⟩
    rfl⟩
  refine Tot.iteb (fun h5 => .some ⟨⟨g5, n2, fun _ => by simp only [szL_nil]; omega, fun _ => by simp only [szL_nil]; omega, fun _ => by simp only [szL_nil]; omega⟩, fun m hm => ?_⟩) fun h5 => ?_
  · obtain ⟨d, rfl, hd, e⟩ := hr m hm
    rw [e]
    unfold remontoireref10_P_args_b
    rw [rneed h (by omega), Option.bind_some, rtake g1.inv (by omega), Option.bind_some, if_pos h5, flatL_nil]; rfl
  · have h5' : isB (needP p [40]) [41] = false := h5
    have hx3 := g4 h5'
    have k0 := g2.inv.lo
    have k1 := g5.toGd.lf
    have k2 := h.lf
    refine Tot.bind (P := fun y => Gd (takeP (needP p [40]) [41]) y.2 ∧ PN y.2 ∧ szL y.1 + ph y.2 ≤ ph (takeP (needP p [40]) [41]) ∧ (y.2.e_ = 0 → y.2.nodes_ = (takeP (needP p [40]) [41]).nodes_ + szL y.1) ∧ ∀ (m c' : Nat), n ≤ m → n ≤ c' → remontoireref10_P_args_l1 (remontoireref10_P_level m) m (IntKind.i64.wrap (a + 1)) c' [] 0 (conv (takeP (needP p [40]) [41])) = some (flatL y.1, (y.1.length : Int), conv y.2)) ?_ fun y ⟨g6, s2, s3, s4, s5⟩ => ?_
    · refine (plist_l1 hn (k := (n : Int) - 31) (fun q hq hqn hk => ho q a hq hqn (by omega)) n [] (takeP (needP p [40]) [41]) g2.inv n2 (fun he => ?_) ?_ (by rw [szL_nil]; omega)).bind fun y ⟨y1, y2, y3, y4, y5⟩ => .some ⟨y1, y2, by rw [szL_nil] at y3; simp only; omega, fun hq => by have := y4 hq; rw [szL_nil] at this; simp only; omega, fun m c' hm hc => by have := y5 m c' hm hc; rw [flatL_nil] at this; exact this⟩
      · have := g5.lf he
        omega
      · unfold Lf at hb k1
        rw [g5.toGd.len] at k1 ⊢
        have := h.hi
        omega
    · have g7 := need_ga g6.inv (s := [41])
      have n7 : PN (needP y.2 [41]) := s2.of g7.toGd need_nd
      have hd7 : (needP y.2 [41]).nodes_ = y.2.nodes_ := need_nd
      have q6 := g6.ph
      have q6' := g6.inv.ph
      have q7 := g7.ph
      have q7' := g7.inv.ph
      rw [need_eq g6.inv hn, Option.bind_some]
      refine .some ⟨⟨(g5.gd g6).ga g7, n7, fun he => ?_, fun he => ?_, fun he => ?_⟩, fun m hm => ?_⟩
      · simp only; omega
      · simp only; omega
      · have := s4 (g7.toGd.e0 he)
        simp only; omega
      · obtain ⟨d, rfl, hd, e⟩ := hr m hm
        rw [e]
        unfold remontoireref10_P_args_b
        rw [rneed h (by omega), Option.bind_some, rtake g1.inv (by omega), Option.bind_some, h5', if_neg (by simp)]
        have := s5 d d hd hd
        rw [hx3] at this
        rw [this, Option.bind_some, Option.bind_some, rneed g6.inv (by omega)]; rfl
end
def tailR (rec_remontoireref10_P_level : T_remontoireref10_P → Int → Int → Option (T_remontoireref10_P × (List T_remontoireref10_N))) (rec_remontoireref10_P_operand : T_remontoireref10_P → Int → Option (T_remontoireref10_P × (List T_remontoireref10_N))) (rec_remontoireref10_P_args : T_remontoireref10_P → Int → Option (T_remontoireref10_P × (List T_remontoireref10_N) × Int)) (n : Nat) (a0 : T_remontoireref10_P) (a1 : Int) : Option (T_remontoireref10_P × (List T_remontoireref10_N)) :=
  (remontoireref10_P_take n a0 ([40] : Str)).bind fun x70 =>
  if x70.2 = true then
    (rec_remontoireref10_P_level x70.1 (0 : Int) (IntKind.i64.wrap (a1 + (1 : Int)))).bind fun x74 =>
    (remontoireref10_P_need n x74.1 ([41] : Str)).bind fun x77 =>
    some (x77, x74.2)
  else
    (remontoireref10_P_node a0 (15 : Int)).bind fun x79 =>
    ((remontoireref10_P_is n x79.1 ([126] : Str)).bind fun x83 =>
      if x83 = true then
        some true
      else
        (remontoireref10_P_is n x79.1 ([45] : Str)).bind fun x86 =>
        some x86).bind fun y82 =>
    if y82 = true then
      (idxL x79.1.L_ x79.1.At_).bind fun x92 =>
      (rec_remontoireref10_P_operand ({ x79.1 with At_ := (IntKind.i64.wrap (x79.1.At_ + (1 : Int))) } : T_remontoireref10_P) (IntKind.i64.wrap (a1 + (1 : Int)))).bind fun x97 =>
      need ([({ x79.2 with Kind_ := (18 : Int), Text_ := x92.Text_, Kids_ := (1 : Int) } : T_remontoireref10_N)].length + x97.2.length ≤ 1073741824) <|
      some (x97.1, ([({ x79.2 with Kind_ := (18 : Int), Text_ := x92.Text_, Kids_ := (1 : Int) } : T_remontoireref10_N)] ++ x97.2))
    else
      (if (x79.1.E_ == (0 : Int)) = true then
          (idxL x79.1.L_ x79.1.At_).bind fun x104 =>
          some (x104.Kind_ == (2 : Int))
        else
          some false).bind fun y102 =>
      if y102 = true then
        (remontoireref10_P_number x79.1).bind fun x113 =>
        some (x113.1, [({ x79.2 with Kind_ := (14 : Int), Num_ := x113.2 } : T_remontoireref10_N)])
      else
        (remontoireref10_P_name n x79.1).bind fun x115 =>
        (remontoireref10_P_is n x115.1 ([40] : Str)).bind fun x117 =>
        if x117 = true then
          (rec_remontoireref10_P_args x115.1 (IntKind.i64.wrap (a1 + (1 : Int)))).bind fun x120 =>
          need ([({ x79.2 with Kind_ := (17 : Int), Text_ := x115.2, Kids_ := x120.2.2 } : T_remontoireref10_N)].length + x120.2.1.length ≤ 1073741824) <|
          some (x120.1, ([({ x79.2 with Kind_ := (17 : Int), Text_ := x115.2, Kids_ := x120.2.2 } : T_remontoireref10_N)] ++ x120.2.1))
        else
          (remontoireref10_P_take n x115.1 ([91] : Str)).bind fun x125 =>
          if (!x125.2) = true then
            some (x115.1, [({ x79.2 with Text_ := x115.2 } : T_remontoireref10_N)])
          else
            (rec_remontoireref10_P_level x125.1 (0 : Int) (IntKind.i64.wrap (a1 + (1 : Int)))).bind fun x128 =>
            (remontoireref10_P_need n x128.1 ([93] : Str)).bind fun x130 =>
            need ([({ x79.2 with Kind_ := (16 : Int), Text_ := x115.2, Kids_ := (1 : Int) } : T_remontoireref10_N)].length + x128.2.length ≤ 1073741824) <|
            some (x130, ([({ x79.2 with Kind_ := (16 : Int), Text_ := x115.2, Kids_ := (1 : Int) } : T_remontoireref10_N)] ++ x128.2))
theorem tailR_eq (fl fo fa) (n : Nat) (q : T_remontoireref10_P) (a : Int) : remontoireref10_P_operand_b fl fo fa n q a = if (decide ((64 : Int) < a)) = true then (remontoireref10_P_fail q (111 : Int)).bind fun x4 => tailR fl fo fa n x4 a else tailR fl fo fa n q a := rfl
section
variable {n : Nat} {p : T_parse_parser}
theorem takeP_f {s : Str} (h : isB p s = false) : takeP p s = p := by unfold takeP; rw [h]; rfl
theorem isB_text {s : Str} (h : isB p s = true) : (tokP p).Text_ = s ∧ p.e_ = 0 := by
  unfold isB at h
  simp only [Bool.and_eq_true, beq_iff_eq, decide_eq_true_eq] at h
  exact ⟨h.2.1, h.1⟩
theorem operand_l1_eq (h : PI p) (hn : 13 < n) {fo : T_parse_parser → Int → Option (T_parse_Node × T_parse_parser)} {a : Int} {c : Nat} {x y : T_parse_Node} : p_parse_parser_operand_l1 fo n a (c + 3) 0 p x y =
    if isB p [126] = true then (fo (takeP p [126]) (IntKind.i64.wrap (a + 1))).bind fun r => some (.inr ({ x with Kind_ := 18, Text_ := [126], List_ := [r.1] }, r.2))
    else if isB p [45] = true then (fo (takeP p [45]) (IntKind.i64.wrap (a + 1))).bind fun r => some (.inr ({ x with Kind_ := 18, Text_ := [45], List_ := [r.1] }, r.2))
    else some (.inl (p, x, y)) := by
  have w1 : IntKind.i64.wrap ((0 : Int) + 1) = 1 := by decide
  have w2 : IntKind.i64.wrap ((1 : Int) + 1) = 2 := by decide
  have i0 : idxL p_parse_parser_operand_k1 0 = some [126] := rfl
  have i1 : idxL p_parse_parser_operand_k1 1 = some [45] := rfl
  unfold p_parse_parser_operand_l1
  rw [if_pos (by decide), i0, Option.bind_some, take_eq h hn, Option.bind_some, w1]
  by_cases h1 : isB p [126] = true
  · rw [if_pos h1, if_pos h1]
  · rw [if_neg h1, if_neg h1, takeP_f (by simpa using h1)]
    unfold p_parse_parser_operand_l1
    rw [if_pos (by decide), i1, Option.bind_some, take_eq h hn, Option.bind_some, w2]
    by_cases h2 : isB p [45] = true
    · rw [if_pos h2, if_pos h2]
    · rw [if_neg h2, if_neg h2, takeP_f (by simpa using h2)]
      unfold p_parse_parser_operand_l1
      rw [if_neg (by decide)]
theorem poperand_b (hn : 13 < n) {fe fo : T_parse_parser → Int → Option (T_parse_Node × T_parse_parser)} {fa : T_parse_parser → Int → Option ((List T_parse_Node) × T_parse_parser)} (he : SimE n 30 fe (fun m q a => remontoireref10_P_level m q 0 a)) (ho : SimE n 21 fo remontoireref10_P_operand) (ha : SimA n fa) : SimE (n + 1) 21 (p_parse_parser_operand_b fe fo fa n) remontoireref10_P_operand := by
  intro p a h hpn hb
  have hr : ∀ m, n + 1 ≤ m → ∃ d, m = d + 1 ∧ n ≤ d ∧ remontoireref10_P_operand m (conv p) a = tailR (remontoireref10_P_level d) (remontoireref10_P_operand d) (remontoireref10_P_args d) d (conv (deepP p a)) a := fun m hm => ⟨m - 1, by omega, by omega, by
    obtain ⟨d, rfl⟩ : ∃ d, m = d + 1 := ⟨m - 1, by omega⟩
    show remontoireref10_P_operand_b _ _ _ d (conv p) a = _
    rw [tailR_eq]
    unfold deepP
    by_cases h64 : 64 < a
    · rw [if_pos (by simpa using h64), rfail h, if_pos h64]; rfl
    · rw [if_neg (by simpa using h64), if_neg h64]; rfl⟩
  have g0 := deep_gd h (a := a)
  have n0 : PN (deepP p a) := hpn.of g0 deep_nd
  have d0 : (deepP p a).nodes_ = p.nodes_ := deep_nd
  have q0 := h.ph
  have q0d := g0.ph
  have l0 := g0.lf
  unfold p_parse_parser_operand_b
  rw [deep_eq h, Option.bind_some]
  generalize deepP p a = q at g0 n0 d0 q0d l0 hr ⊢
  have qi := g0.inv
  have q1 := qi.ph
  obtain ⟨g1, g2, g3⟩ := take_gd qi (s := [40])
  rw [take_eq qi hn, Option.bind_some]
  refine Tot.iteb (fun h5 => ?_) fun h5 => ?_
  · -- in brackets
    have h5' : isB q [40] = true := h5
    obtain ⟨c1, c2, c3⟩ := g2 h5'
    have l1 := c2.lf c3
    have n1 : PN (takeP q [40]) := n0.of g1 take_nd
    have d1 : (takeP q [40]).nodes_ = q.nodes_ := take_nd
    have q2 := c2.ph
    have q2' := g1.inv.ph
    refine (he _ _ g1.inv n1 (by omega)).bind fun r ⟨g4, e4⟩ => ?_
    have q3 := g4.ok c3
    have q3' := g4.ga.inv.ph
    have g5 := need_ga g4.ga.inv (s := [41])
    have n5 : PN (needP r.2 [41]) := g4.pn.of g5.toGd need_nd
    have d5 : (needP r.2 [41]).nodes_ = r.2.nodes_ := need_nd
    have q5 := g5.ph
    have q5' := g5.inv.ph
    rw [need_eq g4.ga.inv hn, Option.bind_some]
    refine .some ⟨⟨(g0.ga c2).ga (g4.ga.ga g5), n5, fun hp => ?_, fun hp => ?_, fun hq => ?_⟩, fun m hm => ?_⟩
    · simp only; omega
    · exact absurd c1 (g0.ph.2 hp)
    · have := g4.ac (g5.toGd.e0 hq)
      simp only; omega
    · obtain ⟨d, rfl, hd, e⟩ := hr m hm
      rw [e]
      unfold tailR
      have e4' : remontoireref10_P_level d (conv (takeP q [40])) 0 (IntKind.i64.wrap (a + 1)) = some (conv r.2, flatN r.1) := e4 d hd
      rw [rtake qi (by omega), Option.bind_some, if_pos h5']
      simp only
      rw [e4', Option.bind_some, rneed g4.ga.inv (by omega)]; rfl
  · have h5' : isB q [40] = false := h5
    rw [show (isB q [40], takeP q [40]).2 = q from takeP_f h5', node_eq qi, Option.bind_some]
    have g4 := node_gd qi
    have n4 := n0.node
    have l4 := g4.lf
    have q4 := g4.ph
    have q4' := g4.inv.ph
    have d4 : (nodeP q).e_ = 0 → q.e_ = 0 ∧ (nodeP q).nodes_ = q.nodes_ + 1 ∧ q.nodes_ < 16384 := fun he => node_nd n0 he
    have g04 := g0.trans g4
    generalize hx : nodeP q = r at g4 n4 l4 q4 q4' d4 g04 ⊢
    have ri := g4.inv
    have hnode : remontoireref10_P_node (conv q) 15 = some (conv r, ⟨15, (tokP q).At_, [], 0, 0⟩) := by rw [rnode qi, hx]
    obtain ⟨nn, hnn⟩ : ∃ d, n = d + 3 := ⟨n - 3, by omega⟩
    have hl1 := fun x y => operand_l1_eq ri hn (fo := fo) (a := a) (c := nn) (x := x) (y := y)
    simp only [← hnn] at hl1
    rw [hl1]
    -- one of two signs
    have un : ∀ (s : Str), isB r s = true → (s = [126] ∨ (s = [45] ∧ isB r [126] = false)) → Tot ((fo (takeP r s) (IntKind.i64.wrap (a + 1))).bind fun x => (some (.inr ({ (⟨15, (tokP q).At_, [], 0, []⟩ : T_parse_Node) with Kind_ := 18, Text_ := s, List_ := [x.1] }, x.2)) : Option ((T_parse_parser × T_parse_Node × T_parse_Node) ⊕ (T_parse_Node × T_parse_parser)))) fun y => match y with
        | .inl _ => False
        | .inr y => GB 7 1 0 p y.2 (sz y.1) ∧ ∀ m, n + 1 ≤ m → remontoireref10_P_operand m (conv p) a = some (conv y.2, flatN y.1) := by
      intro s hs hs2
      obtain ⟨t1, t2, t3⟩ := (take_gd ri (s := s)).2.1 hs
      have lt := t2.lf t3
      have nt : PN (takeP r s) := n4.of t2.toGd take_nd
      have dt : (takeP r s).nodes_ = r.nodes_ := take_nd
      have qt := t2.ph
      have qt' := t2.inv.ph
      refine (ho _ _ t2.inv nt (by omega)).bind fun x ⟨g6, e6⟩ => .some ?_
      have q6 := g6.ok t3
      have q6' := g6.ga.inv.ph
      have hq0 : q.e_ = 0 := g4.e0 t1
      have hp0 : p.e_ = 0 := g0.e0 hq0
      have hsz : sz ({ (⟨15, (tokP q).At_, [], 0, []⟩ : T_parse_Node) with Kind_ := 18, Text_ := s, List_ := [x.1] } : T_parse_Node) = 1 + sz x.1 := by
        rw [sz_eq]; simp only [szL_cons, szL_nil]; omega
      refine ⟨⟨(g04.ga t2).ga g6.ga, g6.pn, fun _ => ?_, fun hp => absurd hp0 hp, fun hq => ?_⟩, fun m hm => ?_⟩
      · rw [hsz]; simp only; omega
      · have h7 := g6.ac hq
        have h8 := (d4 t1).2.1
        rw [hsz]; simp only; omega
      · obtain ⟨d, rfl, hd, e⟩ := hr m hm
        rw [e]
        unfold tailR
        have hy : (if (isB r [126]) = true then some true else (remontoireref10_P_is d (conv r) ([45] : Str)).bind fun x22 => some x22) = some true := by
          rcases hs2 with rfl | ⟨rfl, h9⟩
          · rw [if_pos hs]
          · rw [if_neg (by simp [h9]), ris ri (by omega), hs]; rfl
        have hcv : ({ conv r with At_ := (IntKind.i64.wrap ((conv r).At_ + (1 : Int))) } : T_remontoireref10_P) = conv (takeP r s) := by
          unfold takeP; rw [if_pos hs]; rfl
        have hszx : (flatN x.1).length ≤ 600000 := by have : ((flatN x.1).length : Int) = sz x.1 := rfl; omega
        rw [rtake qi (by omega), Option.bind_some, h5', if_neg (by simp), hnode, Option.bind_some]
        simp only
        rw [ris ri (by omega), Option.bind_some, hy, Option.bind_some, if_pos rfl, rtok ri, Option.bind_some, hcv, e6 d hd, Option.bind_some, need_of (by simp only [List.length_singleton]; omega), flatN_mk]
        simp only [flatL_cons, flatL_nil, List.append_nil, List.length_singleton, cT, (isB_text hs).1]
        rfl
    by_cases h126 : isB r [126] = true
    · rw [if_pos h126]
      exact (un [126] h126 (.inl rfl)).bind fun y hy => Tot.elim (fun z e => by subst e; exact hy.elim) (fun z e => by subst e; exact .some hy)
    by_cases h45 : isB r [45] = true
    · rw [if_neg h126, if_pos h45]
      exact (un [45] h45 (.inr ⟨rfl, by simpa using h126⟩)).bind fun y hy => Tot.elim (fun z e => by subst e; exact hy.elim) (fun z e => by subst e; exact .some hy)
    rw [if_neg h126, if_neg h45, Option.bind_some]
    simp only [Sum.elim_inl]
    clear un
    have hisn : (if (r.e_ == (0 : Int)) = true then (p_parse_parser_token r).bind fun x72 => some (x72.Kind_ == (2 : Int)) else some false) = some (!(numB r)) := by
      rw [token_eq ri, Option.bind_some]
      unfold numB
      cases h : r.e_ == (0 : Int)
      · have : (r.e_ != 0) = true := by simpa using h
        simp [this]
      · have : (r.e_ != 0) = false := by simpa using h
        rw [if_pos rfl, this, Bool.false_or]
        cases h2 : (tokP r).Kind_ == (2 : Int) <;> simp [bne, h2]
    rw [hisn, Option.bind_some]
    -- the document's, till here
    have hr2 : ∀ d, n ≤ d → tailR (remontoireref10_P_level d) (remontoireref10_P_operand d) (remontoireref10_P_args d) d (conv q) a = (if (!(numB r)) = true then
          (remontoireref10_P_number (conv r)).bind fun x113 => some (x113.1, [({ (⟨15, (tokP q).At_, [], 0, 0⟩ : T_remontoireref10_N) with Kind_ := (14 : Int), Num_ := x113.2 } : T_remontoireref10_N)])
        else
          (remontoireref10_P_name d (conv r)).bind fun x115 =>
          (remontoireref10_P_is d x115.1 ([40] : Str)).bind fun x117 =>
          if x117 = true then
            (remontoireref10_P_args d x115.1 (IntKind.i64.wrap (a + (1 : Int)))).bind fun x120 =>
            need ([({ (⟨15, (tokP q).At_, [], 0, 0⟩ : T_remontoireref10_N) with Kind_ := (17 : Int), Text_ := x115.2, Kids_ := x120.2.2 } : T_remontoireref10_N)].length + x120.2.1.length ≤ 1073741824) <|
            some (x120.1, ([({ (⟨15, (tokP q).At_, [], 0, 0⟩ : T_remontoireref10_N) with Kind_ := (17 : Int), Text_ := x115.2, Kids_ := x120.2.2 } : T_remontoireref10_N)] ++ x120.2.1))
          else
            (remontoireref10_P_take d x115.1 ([91] : Str)).bind fun x125 =>
            if (!x125.2) = true then
              some (x115.1, [({ (⟨15, (tokP q).At_, [], 0, 0⟩ : T_remontoireref10_N) with Text_ := x115.2 } : T_remontoireref10_N)])
            else
              (remontoireref10_P_level d x125.1 (0 : Int) (IntKind.i64.wrap (a + (1 : Int)))).bind fun x128 =>
              (remontoireref10_P_need d x128.1 ([93] : Str)).bind fun x130 =>
              need ([({ (⟨15, (tokP q).At_, [], 0, 0⟩ : T_remontoireref10_N) with Kind_ := (16 : Int), Text_ := x115.2, Kids_ := (1 : Int) } : T_remontoireref10_N)].length + x128.2.length ≤ 1073741824) <|
              some (x130, ([({ (⟨15, (tokP q).At_, [], 0, 0⟩ : T_remontoireref10_N) with Kind_ := (16 : Int), Text_ := x115.2, Kids_ := (1 : Int) } : T_remontoireref10_N)] ++ x128.2))) := by
      intro d hd
      unfold tailR
      have hy : (if (isB r [126]) = true then some true else (remontoireref10_P_is d (conv r) ([45] : Str)).bind fun x22 => some x22) = some false := by
        rw [if_neg h126, ris ri (by omega), Option.bind_some]
        simpa using h45
      have hisr : (if ((conv r).E_ == (0 : Int)) = true then (idxL (conv r).L_ (conv r).At_).bind fun x104 => some (x104.Kind_ == (2 : Int)) else some false) = some (!(numB r)) := by
        rw [← hisn, rtok ri, token_eq ri]; rfl
      rw [rtake qi (by omega), Option.bind_some, h5', if_neg (by simp), hnode, Option.bind_some]
      simp only
      rw [ris ri (by omega), Option.bind_some, hy, Option.bind_some, if_neg (by decide), hisr, Option.bind_some]
    refine Tot.iteb (fun h6 => ?_) fun h6 => ?_
    · -- a number
      have gn := num_ga ri
      have nn' : PN (numP r).2 := n4.of gn.toGd num_nd
      have dn : (numP r).2.nodes_ = r.nodes_ := num_nd
      have qn := gn.ph
      have qn' := gn.inv.ph
      rw [number_eq' ri, Option.bind_some]
      have hs1 : ∀ (k : Int) (t : Str) (u : Int), sz (⟨k, (tokP q).At_, t, u, []⟩ : T_parse_Node) = 1 := fun k t u => by rw [sz_eq]; simp only [szL_nil]; rfl
      refine .some ⟨⟨g04.ga gn, nn', fun hp => ?_, fun hp => ?_, fun hq => ?_⟩, fun m hm => ?_⟩
      · rw [show sz (({ ({ (⟨15, (tokP q).At_, [], 0, []⟩ : T_parse_Node) with Kind_ := (14 : Int), Num_ := (numP r).1 } : T_parse_Node) with Num_ := (numP r).1 } : T_parse_Node)) = 1 from hs1 _ _ _]
        show 1 + (7 : Int) + ph (numP r).2 ≤ ph p
        omega
      · exact Int.le_of_eq (hs1 _ _ _)
      · have := (d4 (gn.toGd.e0 hq)).2.1
        rw [show sz (({ (⟨15, (tokP q).At_, [], 0, []⟩ : T_parse_Node) with Kind_ := (14 : Int), Num_ := (numP r).1 } : T_parse_Node)) = 1 from hs1 _ _ _]
        show (numP r).2.nodes_ = _
        omega
      · obtain ⟨d, rfl, hd, e⟩ := hr m hm
        rw [e, hr2 d hd, if_pos h6, rnumber ri, Option.bind_some, flatN_mk]
        simp only [flatL_nil]; rfl
    · -- a name
      have gn := name_ga ri
      have nn' : PN (nameP r).2 := n4.of gn.toGd name_nd
      have dn : (nameP r).2.nodes_ = r.nodes_ := name_nd
      have qn := gn.ph
      have qn' := gn.inv.ph
      have ln := gn.toGd.lf
      have g6 := g04.ga gn
      rw [name_eq ri hn, Option.bind_some, is_eq gn.inv hn, Option.bind_some]
      have hr3 : ∀ d, n ≤ d → remontoireref10_P_name d (conv r) = some (conv (nameP r).2, (nameP r).1) := fun d hd => rname ri (by omega)
      generalize hu : nameP r = u at gn nn' dn qn qn' ln g6 hr3 ⊢
      by_cases h7 : isB u.2 [40] = true
      · rw [if_pos h7]
        have he0 := (isB_text h7).2
        have lu := gn.lf he0
        refine Tot.bind (P := fun y => GB 7 1 0 p y.1 (sz y.2) ∧ ∀ m, n + 1 ≤ m → remontoireref10_P_operand m (conv p) a = some (conv y.1, flatN y.2)) ((ha u.2 a gn.inv nn' (by omega)).bind fun x ⟨g8, e8⟩ => .some ?_) fun y hy => .some hy
        have q8 := g8.ok he0
        have q8' := g8.ga.inv.ph
        have hr0 : r.e_ = 0 := gn.toGd.e0 he0
        have hq0 : q.e_ = 0 := g4.e0 hr0
        have hp0 : p.e_ = 0 := g0.e0 hq0
        have hsz : sz ({ (⟨15, (tokP q).At_, [], 0, []⟩ : T_parse_Node) with Kind_ := 17, Text_ := u.1, List_ := x.1 } : T_parse_Node) = 1 + szL x.1 := sz_eq _
        refine ⟨⟨g6.ga g8.ga, g8.pn, fun _ => ?_, fun hp => absurd hp0 hp, fun hq => ?_⟩, fun m hm => ?_⟩
        · rw [hsz]; simp only; omega
        · have h9 := g8.ac hq
          have h10 := (d4 hr0).2.1
          rw [hsz]; simp only; omega
        · obtain ⟨d, rfl, hd, e⟩ := hr m hm
          have hszx : (flatL x.1).length ≤ 600000 := by have : ((flatL x.1).length : Int) = szL x.1 := rfl; omega
          rw [e, hr2 d hd, h6, if_neg (by decide), hr3 d hd, Option.bind_some]
          simp only
          rw [ris gn.inv (by omega), Option.bind_some, if_pos h7, e8 d hd, Option.bind_some, need_of (by simp only [List.length_singleton]; omega), flatN_mk]
          rfl
      · rw [if_neg h7]
        obtain ⟨t1, t2, t3⟩ := take_gd gn.inv (s := [91])
        rw [take_eq gn.inv hn, Option.bind_some]
        by_cases h8 : isB u.2 [91] = true
        · rw [if_pos h8]
          obtain ⟨c1, c2, c3⟩ := t2 h8
          have lu := gn.lf c1
          have lt := c2.lf c3
          have nt : PN (takeP u.2 [91]) := nn'.of t1 take_nd
          have dt : (takeP u.2 [91]).nodes_ = u.2.nodes_ := take_nd
          have qt := c2.ph
          have qt' := t1.inv.ph
          refine Tot.bind (P := fun y => GB 7 1 0 p y.1 (sz y.2) ∧ ∀ m, n + 1 ≤ m → remontoireref10_P_operand m (conv p) a = some (conv y.1, flatN y.2)) ((he _ _ t1.inv nt (by omega)).bind fun x ⟨g8, e8⟩ => ?_) fun y hy => .some hy
          have q8 := g8.ok c3
          have q8' := g8.ga.inv.ph
          have g9 := need_ga g8.ga.inv (s := [93])
          have n9 : PN (needP x.2 [93]) := g8.pn.of g9.toGd need_nd
          have d9 : (needP x.2 [93]).nodes_ = x.2.nodes_ := need_nd
          have q9 := g9.ph
          have q9' := g9.inv.ph
          have hr0 : r.e_ = 0 := gn.toGd.e0 c1
          have hq0 : q.e_ = 0 := g4.e0 hr0
          have hp0 : p.e_ = 0 := g0.e0 hq0
          rw [need_eq g8.ga.inv hn, Option.bind_some]
          have hsz : sz ({ (⟨15, (tokP q).At_, [], 0, []⟩ : T_parse_Node) with Kind_ := 16, Text_ := u.1, List_ := [x.1] } : T_parse_Node) = 1 + sz x.1 := by
            rw [sz_eq]; simp only [szL_cons, szL_nil]; omega
          refine .some ⟨⟨g6.ga (c2.ga (g8.ga.ga g9)), n9, fun _ => ?_, fun hp => absurd hp0 hp, fun hq => ?_⟩, fun m hm => ?_⟩
          · rw [hsz]; simp only; omega
          · have h9 := g8.ac (g9.toGd.e0 hq)
            have h10 := (d4 hr0).2.1
            rw [hsz]; simp only; omega
          · obtain ⟨d, rfl, hd, e⟩ := hr m hm
            have e8' : remontoireref10_P_level d (conv (takeP u.2 [91])) 0 (IntKind.i64.wrap (a + 1)) = some (conv x.2, flatN x.1) := e8 d hd
            have hszx : (flatN x.1).length ≤ 600000 := by have : ((flatN x.1).length : Int) = sz x.1 := rfl; omega
            rw [e, hr2 d hd, h6, if_neg (by decide), hr3 d hd, Option.bind_some]
            simp only
            rw [ris gn.inv (by omega), Option.bind_some, if_neg h7, rtake gn.inv (by omega), Option.bind_some]
            simp only
            rw [h8, if_neg (by decide), e8', Option.bind_some]
            simp only
            rw [rneed g8.ga.inv (by omega), Option.bind_some, need_of (by simp only [List.length_singleton]; omega), flatN_mk]
            simp only [flatL_cons, flatL_nil, List.append_nil, List.length_singleton]
            rfl
        · rw [if_neg h8, show (isB u.2 [91], takeP u.2 [91]).2 = u.2 from takeP_f (by simpa using h8), Option.bind_some]
          have hs1 : sz ({ (⟨15, (tokP q).At_, [], 0, []⟩ : T_parse_Node) with Text_ := u.1 } : T_parse_Node) = 1 := by rw [sz_eq]; simp only [szL_nil]; rfl
          refine .some ⟨⟨g6, nn', fun hp => ?_, fun hp => ?_, fun hq => ?_⟩, fun m hm => ?_⟩
          · rw [hs1]; simp only; omega
          · exact Int.le_of_eq hs1
          · have h10 := (d4 (gn.toGd.e0 hq)).2.1
            rw [hs1]; simp only; omega
          · obtain ⟨d, rfl, hd, e⟩ := hr m hm
            rw [e, hr2 d hd, h6, if_neg (by decide), hr3 d hd, Option.bind_some]
            simp only
            rw [ris gn.inv (by omega), Option.bind_some, if_neg h7, rtake gn.inv (by omega), Option.bind_some]
            simp only
            rw [if_pos (by simpa using h8), flatN_mk]
            simp only [flatL_nil]; rfl
theorem pgrp_ok : ∀ n : Nat, SimA n (p_parse_parser_list__operand_1_grp n).1 ∧ SimE n 30 (p_parse_parser_list__operand_1_grp n).2.1 (fun m q a => remontoireref10_P_level m q 0 a) ∧ SimL n (p_parse_parser_list__operand_1_grp n).2.2.1 ∧ SimE n 21 (p_parse_parser_list__operand_1_grp n).2.2.2.1 remontoireref10_P_operand ∧ SimE n 31 (p_parse_parser_list__operand_1_grp n).2.2.2.2 (fun m q a => remontoireref10_P_level m q 0 (IntKind.i64.wrap (a + 1))) := by
  have small : ∀ n : Nat, n ≤ 14 → SimA n (p_parse_parser_list__operand_1_grp n).1 ∧ SimE n 30 (p_parse_parser_list__operand_1_grp n).2.1 (fun m q a => remontoireref10_P_level m q 0 a) ∧ SimL n (p_parse_parser_list__operand_1_grp n).2.2.1 ∧ SimE n 21 (p_parse_parser_list__operand_1_grp n).2.2.2.1 remontoireref10_P_operand ∧ SimE n 31 (p_parse_parser_list__operand_1_grp n).2.2.2.2 (fun m q a => remontoireref10_P_level m q 0 (IntKind.i64.wrap (a + 1))) := by
    intro n hn
    refine ⟨fun p a h _ hb => ?_, fun p a h _ hb => ?_, fun p a b h _ h0 h7 hb => ?_, fun p a h _ hb => ?_, fun p a h _ hb => ?_⟩ <;> (have := h.lf; omega)
  intro n
  induction n with
  | zero => exact small 0 (by omega)
  | succ n ih =>
    by_cases hn : 13 < n
    · obtain ⟨i1, i2, i3, i4, i5⟩ := ih
      exact ⟨plist_b hn i5, pexpr_b i3, plevel_b hn i4 i3, poperand_b hn i2 i4 i1, poperand_1_b i2⟩
    · exact small (n + 1) (by omega)
theorem pexpr (h : PI p) (hpn : PN p) {a : Int} (hb : Lf p + 30 ≤ n) : Tot (p_parse_parser_expr n p a) fun r => GB 7 1 0 p r.2 (sz r.1) ∧ ∀ m, n ≤ m + 1 → remontoireref10_P_level m (conv p) 0 a = some (conv r.2, flatN r.1) := by
  cases n with
  | zero => have := h.lf; omega
  | succ n =>
    show Tot (p_parse_parser_expr_b (p_parse_parser_list__operand_1_grp n).2.2.1 n p a) _
    unfold p_parse_parser_expr_b
    exact ((pgrp_ok n).2.2.1 p 0 a h hpn (by omega) (by omega) (by omega)).bind fun r ⟨g, e⟩ => .some ⟨g, fun m hm => e m (by omega)⟩
end
end Go.Proofs.YtolhahlnccekcaaDoor.Abs
