/-
  Parameters and plain statements: sizes, accounts, and the document's are the same.
-/
import Derived.Test.YtolhahlnccekcaaDoorPtPr4
namespace Go.Proofs.YtolhahlnccekcaaDoor.Abs
open Go.RowKit
set_option linter.unusedVariables false
set_option linter.unusedSimpArgs false
section
variable {n : Nat} {p : T_parse_parser}
theorem param_l1_eq (h : PI p) (hn : 13 < n) {c : Nat} {x y : T_parse_Node} : p_parse_parser_param_l1 n (c + 4) 0 p x y =
    some (if isB p [112, 117, 98] = true then .inr ({ y with Num_ := 1 }, takeP p [112, 117, 98]) else if isB p [117, 51, 50] = true then .inr ({ y with Num_ := 2 }, takeP p [117, 51, 50]) else if isB p [117, 54, 52] = true then .inr ({ y with Num_ := 3 }, takeP p [117, 54, 52]) else .inl (p, x, y)) := by
  have i0 : idxL p_parse_parser_param_k1 0 = some [112, 117, 98] := rfl
  have i1 : idxL p_parse_parser_param_k1 1 = some [117, 51, 50] := rfl
  have i2 : idxL p_parse_parser_param_k1 2 = some [117, 54, 52] := rfl
  have w0 : IntKind.i64.wrap ((0 : Int) + 1) = 1 := by decide
  have w1 : IntKind.i64.wrap ((1 : Int) + 1) = 2 := by decide
  have w2 : IntKind.i64.wrap ((2 : Int) + 1) = 3 := by decide
  have u0 : IntKind.u32.wrap (IntKind.i64.wrap ((1 : Int) + 0)) = 1 := by decide
  have u1 : IntKind.u32.wrap 2 = 2 := by decide
  have u2 : IntKind.u32.wrap (IntKind.i64.wrap ((1 : Int) + 2)) = 3 := by decide
  unfold p_parse_parser_param_l1
  rw [if_pos (by decide), i0, Option.bind_some, take_eq h hn, Option.bind_some, w0, u0]
  by_cases h0 : isB p [112, 117, 98] = true
  · rw [if_pos h0, if_pos h0]
  rw [if_neg h0, if_neg h0, takeP_f (by simpa using h0)]
  unfold p_parse_parser_param_l1
  rw [if_pos (by decide), i1, Option.bind_some, take_eq h hn, Option.bind_some, w1, u1]
  by_cases h1 : isB p [117, 51, 50] = true
  · rw [if_pos h1, if_pos h1]
  rw [if_neg h1, if_neg h1, takeP_f (by simpa using h1)]
  unfold p_parse_parser_param_l1
  rw [if_pos (by decide), i2, Option.bind_some, take_eq h hn, Option.bind_some, w2, u2]
  by_cases h2 : isB p [117, 54, 52] = true
  · rw [if_pos h2, if_pos h2]
  rw [if_neg h2, if_neg h2, takeP_f (by simpa using h2)]
  unfold p_parse_parser_param_l1
  rw [if_neg (by decide)]
theorem rparam_l1_eq (h : PI p) (hn : 13 < n) {c : Nat} {x : T_remontoireref10_P} {y : T_remontoireref10_N} : remontoireref10_P_param_l1 n (conv p) (c + 4) 0 x y =
    some (if isB p [112, 117, 98] = true then .inr (conv (takeP p [112, 117, 98]), [{ y with Num_ := 1 }]) else if isB p [117, 51, 50] = true then .inr (conv (takeP p [117, 51, 50]), [{ y with Num_ := 2 }]) else if isB p [117, 54, 52] = true then .inr (conv (takeP p [117, 54, 52]), [{ y with Num_ := 3 }]) else .inl (x, y)) := by
  have i0 : idxL remontoireref10_P_param_k1 0 = some [112, 117, 98] := rfl
  have i1 : idxL remontoireref10_P_param_k1 1 = some [117, 51, 50] := rfl
  have i2 : idxL remontoireref10_P_param_k1 2 = some [117, 54, 52] := rfl
  have w0 : IntKind.i64.wrap ((0 : Int) + 1) = 1 := by decide
  have w1 : IntKind.i64.wrap ((1 : Int) + 1) = 2 := by decide
  have w2 : IntKind.i64.wrap ((2 : Int) + 1) = 3 := by decide
  have v1 : IntKind.u32.wrap 1 = 1 := by decide
  have v2 : IntKind.u32.wrap 2 = 2 := by decide
  have v3 : IntKind.u32.wrap 3 = 3 := by decide
  unfold remontoireref10_P_param_l1
  rw [if_pos (by decide), i0, Option.bind_some, rtake h hn, Option.bind_some, w0, v1]
  by_cases h0 : isB p [112, 117, 98] = true
  · rw [if_pos h0, if_pos h0]
  rw [if_neg h0, if_neg h0]
  unfold remontoireref10_P_param_l1
  rw [if_pos (by decide), i1, Option.bind_some, rtake h hn, Option.bind_some, w1, v2]
  by_cases h1 : isB p [117, 51, 50] = true
  · rw [if_pos h1, if_pos h1]
  rw [if_neg h1, if_neg h1]
  unfold remontoireref10_P_param_l1
  rw [if_pos (by decide), i2, Option.bind_some, rtake h hn, Option.bind_some, w2, v3]
  by_cases h2 : isB p [117, 54, 52] = true
  · rw [if_pos h2, if_pos h2]
  rw [if_neg h2, if_neg h2]
  unfold remontoireref10_P_param_l1
  rw [if_neg (by decide)]
theorem pparam (h : PI p) (hpn : PN p) (hn : 13 < n) : Tot (p_parse_parser_param n p) fun r => GB 0 2 0 p r.2 (sz r.1) ∧ ∀ m, n ≤ m → remontoireref10_P_param m (conv p) = some (conv r.2, flatN r.1) := by
  have g1 := node_gd h
  have g2 := name_ga g1.inv
  have g3 := need_ga g2.inv (s := [58])
  have n1 := hpn.node
  have n2 : PN (nameP (nodeP p)).2 := n1.of g2.toGd name_nd
  have n3 : PN (needP (nameP (nodeP p)).2 [58]) := n2.of g3.toGd need_nd
  have d2 : (nameP (nodeP p)).2.nodes_ = (nodeP p).nodes_ := name_nd
  have d3 : (needP (nameP (nodeP p)).2 [58]).nodes_ = (nameP (nodeP p)).2.nodes_ := need_nd
  have d1 : (nodeP p).e_ = 0 → p.e_ = 0 ∧ (nodeP p).nodes_ = p.nodes_ + 1 ∧ p.nodes_ < 16384 := node_nd hpn
  have q0 := h.ph
  have q1 := g1.ph
  have q1' := g1.inv.ph
  have q2 := g2.ph
  have q2' := g2.inv.ph
  have q3 := g3.ph
  have q3' := g3.inv.ph
  have g4 := g1.ga (g2.ga g3)
  have q4 := g4.ph
  have hr : ∀ m, n ≤ m → remontoireref10_P_param m (conv p) = ((remontoireref10_P_param_l1 m (conv (needP (nameP (nodeP p)).2 [58])) m (0 : Int) (T_remontoireref10_P.mk [] (0 : Int) (0 : Int) (0 : Int) (0 : Int)) (⟨3, (tokP p).At_, (nameP (nodeP p)).1, 0, 0⟩ : T_remontoireref10_N)).bind fun y15 =>
      y15.elim (fun y15a =>
        (remontoireref10_P_node (conv (needP (nameP (nodeP p)).2 [58])) (14 : Int)).bind fun x39 =>
        (remontoireref10_P_size m x39.1).bind fun x42 =>
        some (x42.1, [({ y15a.2 with Num_ := (4 : Int), Kids_ := (1 : Int) } : T_remontoireref10_N), ({ x39.2 with Num_ := x42.2 } : T_remontoireref10_N)])) (fun y15a =>
        some y15a)) := by
    intro m hm
    unfold remontoireref10_P_param
    rw [rnode h, Option.bind_some, rname g1.inv (by omega), Option.bind_some, rneed g2.inv (by omega), Option.bind_some]
  unfold p_parse_parser_param
  rw [node_eq h, Option.bind_some, name_eq g1.inv hn, Option.bind_some, need_eq g2.inv hn, Option.bind_some]
  generalize needP (nameP (nodeP p)).2 [58] = q at g3 n3 d3 q3 q3' g4 q4 hr ⊢
  obtain ⟨c, hc⟩ : ∃ d, n = d + 4 := ⟨n - 4, by omega⟩
  have hl := fun x y => param_l1_eq g3.inv hn (c := c) (x := x) (y := y)
  simp only [← hc] at hl
  have hrl : ∀ m, n ≤ m → ∀ x y, remontoireref10_P_param_l1 m (conv q) m 0 x y = _ := fun m hm x y => by
    obtain ⟨c', hc'⟩ : ∃ d, m = d + 4 := ⟨m - 4, by omega⟩
    have := rparam_l1_eq g3.inv (show 13 < m by omega) (c := c') (x := x) (y := y)
    simp only [← hc'] at this
    exact this
  rw [hl, Option.bind_some]
  -- one of three words
  have kw : ∀ (s : Str) (k : Int), isB q s = true → (∀ m, n ≤ m → remontoireref10_P_param m (conv p) = some (conv (takeP q s), [⟨3, (tokP p).At_, (nameP (nodeP p)).1, k, 0⟩])) →
      GB 0 2 0 p (takeP q s) (sz ⟨3, (tokP p).At_, (nameP (nodeP p)).1, k, []⟩) ∧ ∀ m, n ≤ m → remontoireref10_P_param m (conv p) = some (conv (takeP q s), flatN ⟨3, (tokP p).At_, (nameP (nodeP p)).1, k, []⟩) := by
    intro s k hs hm
    obtain ⟨t1, t2, t3⟩ := (take_gd g3.inv (s := s)).2.1 hs
    have qt := t2.ph
    have dt : (takeP q s).nodes_ = q.nodes_ := take_nd
    have hsz : sz ⟨3, (tokP p).At_, (nameP (nodeP p)).1, k, []⟩ = 1 := by rw [sz_eq]; simp only [szL_nil]; rfl
    have he1 := g2.toGd.e0 (g3.toGd.e0 t1)
    have hp0 := g1.e0 he1
    refine ⟨⟨g4.ga t2, n3.of t2.toGd take_nd, fun _ => by rw [hsz]; omega, fun hp => absurd hp0 hp, fun hq => ?_⟩, fun m h2 => ?_⟩
    · have := (d1 he1).2.1
      rw [hsz]; omega
    · rw [hm m h2, flatN_mk, flatL_nil]; rfl
  by_cases h0 : isB q [112, 117, 98] = true
  · rw [if_pos h0]
    refine .some (kw _ _ h0 fun m hm => ?_)
    rw [hr m hm, hrl m hm, if_pos h0]; rfl
  by_cases h1 : isB q [117, 51, 50] = true
  · rw [if_neg h0, if_pos h1]
    refine .some (kw _ _ h1 fun m hm => ?_)
    rw [hr m hm, hrl m hm, if_neg h0, if_pos h1]; rfl
  by_cases h2 : isB q [117, 54, 52] = true
  · rw [if_neg h0, if_neg h1, if_pos h2]
    refine .some (kw _ _ h2 fun m hm => ?_)
    rw [hr m hm, hrl m hm, if_neg h0, if_neg h1, if_pos h2]; rfl
  rw [if_neg h0, if_neg h1, if_neg h2]
  simp only [Sum.elim_inl]
  have g5 := node_gd g3.inv
  have n5 := n3.node
  have d5 : (nodeP q).e_ = 0 → q.e_ = 0 ∧ (nodeP q).nodes_ = q.nodes_ + 1 ∧ q.nodes_ < 16384 := node_nd n3
  have g6 := size_ga g5.inv
  have n6 : PN (sizeP (nodeP q)).2 := n5.of g6.toGd size_nd
  have d6 : (sizeP (nodeP q)).2.nodes_ = (nodeP q).nodes_ := size_nd
  have q5 := g5.ph
  have q5' := g5.inv.ph
  have q6 := g6.ph
  have q6' := g6.inv.ph
  rw [node_eq g3.inv, Option.bind_some, size_eq g5.inv hn, Option.bind_some]
  have hsz : sz (⟨3, (tokP p).At_, (nameP (nodeP p)).1, 4, [⟨14, (tokP q).At_, [], (sizeP (nodeP q)).1, []⟩]⟩ : T_parse_Node) = 2 := by
    rw [sz_eq]
    simp only [szL_cons, szL_nil]
    rw [sz_eq]
    simp only [szL_nil]; rfl
  refine .some ⟨⟨g4.ga (g5.ga g6), n6, fun _ => ?_, fun hp => ?_, fun hq => ?_⟩, fun m hm => ?_⟩
  · show sz (⟨3, (tokP p).At_, (nameP (nodeP p)).1, 4, [⟨14, (tokP q).At_, [], (sizeP (nodeP q)).1, []⟩]⟩ : T_parse_Node) + 0 + ph (sizeP (nodeP q)).2 ≤ ph p
    rw [hsz]; omega
  · exact Int.le_of_eq hsz
  · show (sizeP (nodeP q)).2.nodes_ = p.nodes_ + sz (⟨3, (tokP p).At_, (nameP (nodeP p)).1, 4, [⟨14, (tokP q).At_, [], (sizeP (nodeP q)).1, []⟩]⟩ : T_parse_Node) - 0
    have h5 := g6.toGd.e0 hq
    have h6 := d5 h5
    have h7 := d1 (g2.toGd.e0 (g3.toGd.e0 h6.1))
    rw [hsz]; omega
  · rw [hr m hm, hrl m hm, if_neg h0, if_neg h1, if_neg h2, Option.bind_some]
    simp only [Sum.elim_inl]
    rw [rnode g3.inv, Option.bind_some, rsize g5.inv (by omega), Option.bind_some]
    show _ = some (conv (sizeP (nodeP q)).2, flatN (⟨3, (tokP p).At_, (nameP (nodeP p)).1, 4, [⟨14, (tokP q).At_, [], (sizeP (nodeP q)).1, []⟩]⟩ : T_parse_Node))
    rw [flatN_mk, flatL_cons, flatL_nil, flatN_mk, flatL_nil]; rfl
theorem pparams_l1 (hn : 13 < n) :
    ∀ (c : Nat) (l : List T_parse_Node) (p : T_parse_parser), PI p → PN p → (p.l_.length : Int) - p.at_ < c → szL l + ph p ≤ 600000 →
      Tot (p_parse_parser_list__param_l1 n c l p) fun r => Gd p r.2 ∧ PN r.2 ∧ szL r.1 + ph r.2 ≤ szL l + ph p ∧ (r.2.e_ = 0 → r.2.nodes_ = p.nodes_ + szL r.1 - szL l) ∧
        ∀ (m c' : Nat), n ≤ m → c ≤ c' → remontoireref10_P_params_l1 m c' (flatL l) (l.length : Int) (conv p) = some (flatL r.1, (r.1.length : Int), conv r.2) := by
  intro c
  induction c with
  | zero => intro l p h _ h1 h2; have := h.hi; omega
  | succ c ih =>
    intro l p h hpn h1 hB
    have k1 := h.lo
    have k2 := h.hi
    have k3 := h.big
    have hll := szL_ge l
    have p0 := h.ph
    unfold p_parse_parser_list__param_l1
    refine Tot.iteb (fun h4 => ?_) fun h4 => .some ⟨.refl h, hpn, Int.le_refl _, fun _ => by simp only; omega, fun m c' hm hc => ?_⟩
    · have h4' := h4
      simp only [beq_iff_eq] at h4
      refine (pparam h hpn hn).bind fun x ⟨g1, e1⟩ => ?_
      have p1 := g1.ok h4
      have p1' := g1.ga.inv.ph
      have hx := sz_pos x.1
      refine Tot.need (by simp only [List.length_singleton]; omega) ?_
      obtain ⟨g2, g3, g3'⟩ := take_gd g1.ga.inv (s := [44])
      rw [take_eq g1.ga.inv hn, Option.bind_some]
      have p2 := g2.ph
      have p2' := g2.inv.ph
      have n2 : PN (takeP x.2 [44]) := g1.pn.of g2 take_nd
      have hnn : (takeP x.2 [44]).nodes_ = x.2.nodes_ := take_nd
      have hsz : szL (l ++ [x.1]) = szL l + sz x.1 := by rw [szL_app, szL_cons, szL_nil]; omega
      have hfl : flatL (l ++ [x.1]) = flatL l ++ flatN x.1 := by rw [flatL_app, flatL_cons, flatL_nil, List.append_nil]
      have hszl : (flatL l).length ≤ 600000 := by have : ((flatL l).length : Int) = szL l := rfl; omega
      have hszs : (flatN x.1).length ≤ 600000 := by have : ((flatN x.1).length : Int) = sz x.1 := rfl; omega
      have hac : (takeP x.2 [44]).e_ = 0 → (takeP x.2 [44]).nodes_ = p.nodes_ + szL (l ++ [x.1]) - szL l := fun hq => by
        have := g1.ac (g2.e0 hq)
        omega
      have hbb : szL (l ++ [x.1]) + ph (takeP x.2 [44]) ≤ szL l + ph p := by
        by_cases hq : x.2.e_ = 0
        · have := p2.1 hq; omega
        · have := p2'.2.1 (p2.2 hq); omega
      have hr : ∀ (m c' : Nat), n ≤ m → remontoireref10_P_params_l1 m (c' + 1) (flatL l) (l.length : Int) (conv p) =
          if (!(isB x.2 [44])) = true then some (flatL (l ++ [x.1]), ((l ++ [x.1]).length : Int), conv (takeP x.2 [44])) else remontoireref10_P_params_l1 m c' (flatL (l ++ [x.1])) ((l ++ [x.1]).length : Int) (conv (takeP x.2 [44])) := by
        intro m c' hm
        have hw : IntKind.i64.wrap ((l.length : Int) + 1) = ((l ++ [x.1]).length : Int) := by
          rw [wrap64 (by omega) (by omega), List.length_append, List.length_singleton]; omega
        rw [remontoireref10_P_params_l1]
        rw [if_pos (show ((conv p).E_ == 0) = true from h4'), e1 m hm, Option.bind_some, need_of (by simp only; omega), rtake g1.ga.inv (by omega), Option.bind_some, hw, hfl]
      refine Tot.iteb (fun h5 => .some ⟨g1.ga.toGd.trans g2, n2, hbb, hac, fun m c' hm hc => ?_⟩) fun h5 => ?_
      · obtain ⟨c', rfl⟩ : ∃ d, c' = d + 1 := ⟨c' - 1, by omega⟩
        rw [hr m c' hm, if_pos h5]
      · have h5' : isB x.2 [44] = true := by simpa using h5
        have g4 := g3 h5'
        have g5 := g1.ga.ga g4.2.1
        have m1 := g1.ga.at'
        have m2 := g2.at'
        have m3 := g1.ga.adv g4.1
        have m4 := g1.ga.toGd.trans g2
        have m5 := g5.toGd.lf
        refine (ih _ _ g2.inv n2 (by rw [m4.len]; omega) (by omega)).mono fun s ⟨s1, s2, s3, s4, s5⟩ => ⟨g5.toGd.trans s1, s2, by omega, fun hq => ?_, fun m c' hm hc => ?_⟩
        · have := s4 hq
          have := hac (s1.e0 hq)
          omega
        · obtain ⟨c', rfl⟩ : ∃ d, c' = d + 1 := ⟨c' - 1, by omega⟩
          rw [hr m c' hm, if_neg (by rw [h5']; decide)]
          exact s5 m c' hm (by omega)
    · obtain ⟨c', rfl⟩ : ∃ d, c' = d + 1 := ⟨c' - 1, by have := h.hi; omega⟩
      rw [remontoireref10_P_params_l1]
      rw [if_neg (show ¬ ((conv p).E_ == 0) = true by rw [show (conv p).E_ = p.e_ from rfl, h4]; decide)]
theorem pparams (h : PI p) (hpn : PN p) (hn : 13 < n) (hb : (p.l_.length : Int) - p.at_ < n) : Tot (p_parse_parser_list__param n p) fun r => GB 0 0 0 p r.2 (szL r.1) ∧ ∀ m, n ≤ m → remontoireref10_P_params m (conv p) = some (conv r.2, flatL r.1, (r.1.length : Int)) := by
  unfold p_parse_parser_list__param
  have g1 := need_ga h (s := [40])
  obtain ⟨g2, g3, g4⟩ := take_gd g1.inv (s := [41])
  have n1 : PN (needP p [40]) := hpn.of g1.toGd need_nd
  have n2 : PN (takeP (needP p [40]) [41]) := n1.of g2 take_nd
  have q0 := h.ph
  have q1 := g1.ph
  have q2 := g2.ph
  have q1' := g1.inv.ph
  have q2' := g2.inv.ph
  have hd1 : (needP p [40]).nodes_ = p.nodes_ := need_nd
  have hd2 : (takeP (needP p [40]) [41]).nodes_ = (needP p [40]).nodes_ := take_nd
  have g5 := g1.gd g2
  rw [need_eq h hn, Option.bind_some, take_eq g1.inv hn, Option.bind_some]
  refine Tot.iteb (fun h5 => .some ⟨⟨g5, n2, fun _ => by simp only [szL_nil]; omega, fun _ => by simp only [szL_nil]; omega, fun _ => by simp only [szL_nil]; omega⟩, fun m hm => ?_⟩) fun h5 => ?_
  · unfold remontoireref10_P_params
    rw [rneed h (by omega), Option.bind_some, rtake g1.inv (by omega), Option.bind_some, if_pos h5, flatL_nil]; rfl
  · have h5' : isB (needP p [40]) [41] = false := h5
    have hx3 := g4 h5'
    have k0 := g2.inv.lo
    refine Tot.bind (P := fun y => Gd (takeP (needP p [40]) [41]) y.2 ∧ PN y.2 ∧ szL y.1 + ph y.2 ≤ ph (takeP (needP p [40]) [41]) ∧ (y.2.e_ = 0 → y.2.nodes_ = (takeP (needP p [40]) [41]).nodes_ + szL y.1) ∧ ∀ (m c' : Nat), n ≤ m → n ≤ c' → remontoireref10_P_params_l1 m c' [] 0 (conv (takeP (needP p [40]) [41])) = some (flatL y.1, (y.1.length : Int), conv y.2)) ?_ fun y ⟨g6, s2, s3, s4, s5⟩ => ?_
    · refine (pparams_l1 hn n [] (takeP (needP p [40]) [41]) g2.inv n2 ?_ (by rw [szL_nil]; omega)).bind fun y ⟨y1, y2, y3, y4, y5⟩ => .some ⟨y1, y2, by rw [szL_nil] at y3; simp only; omega, fun hq => by have := y4 hq; rw [szL_nil] at this; simp only; omega, fun m c' hm hc => by have := y5 m c' hm hc; rw [flatL_nil] at this; exact this⟩
      have m1 := g5.toGd.at'
      rw [g5.toGd.len]
      omega
    · have g7 := need_ga g6.inv (s := [41])
      have n7 : PN (needP y.2 [41]) := s2.of g7.toGd need_nd
      have hd7 : (needP y.2 [41]).nodes_ = y.2.nodes_ := need_nd
      have q6 := g6.ph
      have q6' := g6.inv.ph
      have q7 := g7.ph
      have q7' := g7.inv.ph
      rw [need_eq g6.inv hn, Option.bind_some]
      refine .some ⟨⟨(g5.gd g6).ga g7, n7, fun he => ?_, fun he => ?_, fun he => ?_⟩, fun m hm => ?_⟩
      · simp only; omega
      · simp only; omega
      · have := s4 (g7.toGd.e0 he)
        simp only; omega
      · unfold remontoireref10_P_params
        rw [rneed h (by omega), Option.bind_some, rtake g1.inv (by omega), Option.bind_some, h5', if_neg (by simp)]
        have := s5 m m hm hm
        rw [hx3] at this
        rw [this, Option.bind_some, Option.bind_some, rneed g6.inv (by omega)]; rfl
theorem pplain_1 (h : PI p) (hpn : PN p) {a : Int} (hb : Lf p + 30 ≤ n) : Tot (p_parse_parser_plain_1 n p a) fun r => GB 7 1 0 p r.2 (sz r.1) ∧ ∀ m, n ≤ m + 1 → remontoireref10_P_level m (conv p) 0 (IntKind.i64.wrap (a + 2)) = some (conv r.2, flatN r.1) := by
  unfold p_parse_parser_plain_1
  exact (pexpr h hpn hb).bind fun r hr => .some hr
theorem pplist_l1 (hn : 14 < n) {a : Int} :
    ∀ (c : Nat) (l : List T_parse_Node) (p : T_parse_parser), PI p → PN p → Lf p + 30 ≤ n → (p.l_.length : Int) - p.at_ < c → szL l + ph p ≤ 600000 →
      Tot (p_parse_parser_list__plain_1_l1 n a c l p) fun r => Gd p r.2 ∧ PN r.2 ∧ szL r.1 + ph r.2 ≤ szL l + ph p ∧ (r.2.e_ = 0 → r.2.nodes_ = p.nodes_ + szL r.1 - szL l) ∧
        ∀ (m c' : Nat), n ≤ m + 1 → (p.l_.length : Int) - p.at_ < c' → remontoireref10_P_args_l1 (remontoireref10_P_level m) m (IntKind.i64.wrap (a + 2)) c' (flatL l) (l.length : Int) (conv p) = some (flatL r.1, (r.1.length : Int), conv r.2) := by
  intro c
  induction c with
  | zero => intro l p h _ _ h1 h2; have := h.hi; omega
  | succ c ih =>
    intro l p h hpn hk h1 hB
    have k1 := h.lo
    have k2 := h.hi
    have k3 := h.big
    have hll := szL_ge l
    have p0 := h.ph
    unfold p_parse_parser_list__plain_1_l1
    refine Tot.iteb (fun h4 => ?_) fun h4 => .some ⟨.refl h, hpn, Int.le_refl _, fun _ => by simp only; omega, fun m c' hm hc => ?_⟩
    · have h4' := h4
      simp only [beq_iff_eq] at h4
      refine (pplain_1 h hpn hk).bind fun x ⟨g1, e1⟩ => ?_
      have p1 := g1.ok h4
      have p1' := g1.ga.inv.ph
      have hx := sz_pos x.1
      refine Tot.need (by simp only [List.length_singleton]; omega) ?_
      obtain ⟨g2, g3, g3'⟩ := take_gd g1.ga.inv (s := [44])
      rw [take_eq g1.ga.inv (by omega), Option.bind_some]
      have p2 := g2.ph
      have p2' := g2.inv.ph
      have n2 : PN (takeP x.2 [44]) := g1.pn.of g2 take_nd
      have hnn : (takeP x.2 [44]).nodes_ = x.2.nodes_ := take_nd
      have hsz : szL (l ++ [x.1]) = szL l + sz x.1 := by rw [szL_app, szL_cons, szL_nil]; omega
      have hfl : flatL (l ++ [x.1]) = flatL l ++ flatN x.1 := by rw [flatL_app, flatL_cons, flatL_nil, List.append_nil]
      have hszl : (flatL l).length ≤ 600000 := by have : ((flatL l).length : Int) = szL l := rfl; omega
      have hszs : (flatN x.1).length ≤ 600000 := by have : ((flatN x.1).length : Int) = sz x.1 := rfl; omega
      have hac : (takeP x.2 [44]).e_ = 0 → (takeP x.2 [44]).nodes_ = p.nodes_ + szL (l ++ [x.1]) - szL l := fun hq => by
        have := g1.ac (g2.e0 hq)
        omega
      have hbb : szL (l ++ [x.1]) + ph (takeP x.2 [44]) ≤ szL l + ph p := by
        by_cases hq : x.2.e_ = 0
        · have := p2.1 hq; omega
        · have := p2'.2.1 (p2.2 hq); omega
      have hr : ∀ (m c' : Nat), n ≤ m + 1 → remontoireref10_P_args_l1 (remontoireref10_P_level m) m (IntKind.i64.wrap (a + 2)) (c' + 1) (flatL l) (l.length : Int) (conv p) =
          if (!(isB x.2 [44])) = true then some (flatL (l ++ [x.1]), ((l ++ [x.1]).length : Int), conv (takeP x.2 [44])) else remontoireref10_P_args_l1 (remontoireref10_P_level m) m (IntKind.i64.wrap (a + 2)) c' (flatL (l ++ [x.1])) ((l ++ [x.1]).length : Int) (conv (takeP x.2 [44])) := by
        intro m c' hm
        have hw : IntKind.i64.wrap ((l.length : Int) + 1) = ((l ++ [x.1]).length : Int) := by
          rw [wrap64 (by omega) (by omega), List.length_append, List.length_singleton]; omega
        rw [remontoireref10_P_args_l1]
        rw [if_pos (show ((conv p).E_ == 0) = true from h4'), e1 m hm, Option.bind_some, need_of (by simp only; omega), rtake g1.ga.inv (by omega), Option.bind_some, hw, hfl]
      refine Tot.iteb (fun h5 => .some ⟨g1.ga.toGd.trans g2, n2, hbb, hac, fun m c' hm hc => ?_⟩) fun h5 => ?_
      · obtain ⟨c', rfl⟩ : ∃ d, c' = d + 1 := ⟨c' - 1, by omega⟩
        rw [hr m c' hm, if_pos h5]
      · have h5' : isB x.2 [44] = true := by simpa using h5
        have g4 := g3 h5'
        have g5 := g1.ga.ga g4.2.1
        have m1 := g1.ga.at'
        have m2 := g2.at'
        have m3 := g1.ga.adv g4.1
        have m4 := g1.ga.toGd.trans g2
        have m5 := g5.toGd.lf
        refine (ih _ _ g2.inv n2 (by omega) (by rw [m4.len]; omega) (by omega)).mono fun s ⟨s1, s2, s3, s4, s5⟩ => ⟨g5.toGd.trans s1, s2, by omega, fun hq => ?_, fun m c' hm hc => ?_⟩
        · have := s4 hq
          have := hac (s1.e0 hq)
          omega
        · obtain ⟨c', rfl⟩ : ∃ d, c' = d + 1 := ⟨c' - 1, by omega⟩
          rw [hr m c' hm, if_neg (by rw [h5']; decide)]
          exact s5 m c' hm (by rw [m4.len]; omega)
    · obtain ⟨c', rfl⟩ : ∃ d, c' = d + 1 := ⟨c' - 1, by have := h.hi; omega⟩
      rw [remontoireref10_P_args_l1]
      rw [if_neg (show ¬ ((conv p).E_ == 0) = true by rw [show (conv p).E_ = p.e_ from rfl, h4]; decide)]
theorem pplist (h : PI p) (hpn : PN p) {a : Int} (hb : Lf p + 30 ≤ n) : Tot (p_parse_parser_list__plain_1 n p a) fun r => GB 0 0 0 p r.2 (szL r.1) ∧ ∀ m, n ≤ m → remontoireref10_P_args m (conv p) (IntKind.i64.wrap (a + 2)) = some (conv r.2, flatL r.1, (r.1.length : Int)) := by
  have hn : 14 < n := by have := h.lf; omega
  unfold p_parse_parser_list__plain_1
  have g1 := need_ga h (s := [40])
  obtain ⟨g2, g3, g4⟩ := take_gd g1.inv (s := [41])
  have n1 : PN (needP p [40]) := hpn.of g1.toGd need_nd
  have n2 : PN (takeP (needP p [40]) [41]) := n1.of g2 take_nd
  have q0 := h.ph
  have q1 := g1.ph
  have q2 := g2.ph
  have q1' := g1.inv.ph
  have q2' := g2.inv.ph
  have hd1 : (needP p [40]).nodes_ = p.nodes_ := need_nd
  have hd2 : (takeP (needP p [40]) [41]).nodes_ = (needP p [40]).nodes_ := take_nd
  have g5 := g1.gd g2
  rw [need_eq h (by omega), Option.bind_some, take_eq g1.inv (by omega), Option.bind_some]
  have hr : ∀ m, n ≤ m → ∃ d, m = d + 1 ∧ n ≤ d + 1 ∧ remontoireref10_P_args m (conv p) (IntKind.i64.wrap (a + 2)) = remontoireref10_P_args_b (remontoireref10_P_level d) d (conv p) (IntKind.i64.wrap (a + 2)) := fun m hm => ⟨m - 1, by omega, by omega, by
    obtain ⟨d, rfl⟩ : ∃ d, m = d + 1 := ⟨m - 1, by omega⟩
    rfl⟩
  refine Tot.iteb (fun h5 => .some ⟨⟨g5, n2, fun _ => by simp only [szL_nil]; omega, fun _ => by simp only [szL_nil]; omega, fun _ => by simp only [szL_nil]; omega⟩, fun m hm => ?_⟩) fun h5 => ?_
  · obtain ⟨d, rfl, hd, e⟩ := hr m hm
    rw [e]
    unfold remontoireref10_P_args_b
    rw [rneed h (by omega), Option.bind_some, rtake g1.inv (by omega), Option.bind_some, if_pos h5, flatL_nil]; rfl
  · have h5' : isB (needP p [40]) [41] = false := h5
    have hx3 := g4 h5'
    have k0 := g2.inv.lo
    have k1 := g5.toGd.lf
    have k2 := h.lf
    refine Tot.bind (P := fun y => Gd (takeP (needP p [40]) [41]) y.2 ∧ PN y.2 ∧ szL y.1 + ph y.2 ≤ ph (takeP (needP p [40]) [41]) ∧ (y.2.e_ = 0 → y.2.nodes_ = (takeP (needP p [40]) [41]).nodes_ + szL y.1) ∧ ∀ (m c' : Nat), n ≤ m + 1 → n ≤ c' + 1 → remontoireref10_P_args_l1 (remontoireref10_P_level m) m (IntKind.i64.wrap (a + 2)) c' [] 0 (conv (takeP (needP p [40]) [41])) = some (flatL y.1, (y.1.length : Int), conv y.2)) ?_ fun y ⟨g6, s2, s3, s4, s5⟩ => ?_
    · refine (pplist_l1 hn n [] (takeP (needP p [40]) [41]) g2.inv n2 (by omega) ?_ (by rw [szL_nil]; omega)).bind fun y ⟨y1, y2, y3, y4, y5⟩ => .some ⟨y1, y2, by rw [szL_nil] at y3; simp only; omega, fun hq => by have := y4 hq; rw [szL_nil] at this; simp only; omega, fun m c' hm hc => by have := y5 m c' hm (by unfold Lf at hb k1; rw [g5.toGd.len] at k1 ⊢; have := h.hi; omega); rw [flatL_nil] at this; exact this⟩
      unfold Lf at hb k1
      rw [g5.toGd.len] at k1 ⊢
      have := h.hi
      omega
    · have g7 := need_ga g6.inv (s := [41])
      have n7 : PN (needP y.2 [41]) := s2.of g7.toGd need_nd
      have hd7 : (needP y.2 [41]).nodes_ = y.2.nodes_ := need_nd
      have q6 := g6.ph
      have q6' := g6.inv.ph
      have q7 := g7.ph
      have q7' := g7.inv.ph
      rw [need_eq g6.inv (by omega), Option.bind_some]
      refine .some ⟨⟨(g5.gd g6).ga g7, n7, fun he => ?_, fun he => ?_, fun he => ?_⟩, fun m hm => ?_⟩
      · simp only; omega
      · simp only; omega
      · have := s4 (g7.toGd.e0 he)
        simp only; omega
      · obtain ⟨d, rfl, hd, e⟩ := hr m hm
        rw [e]
        unfold remontoireref10_P_args_b
        rw [rneed h (by omega), Option.bind_some, rtake g1.inv (by omega), Option.bind_some, h5', if_neg (by simp)]
        have := s5 d d hd hd
        rw [hx3] at this
        rw [this, Option.bind_some, Option.bind_some, rneed g6.inv (by omega)]; rfl
end
end Go.Proofs.YtolhahlnccekcaaDoor.Abs
