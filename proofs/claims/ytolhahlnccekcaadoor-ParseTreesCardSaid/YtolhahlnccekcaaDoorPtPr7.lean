/-
  Blocks, statements, choices, loops: sizes, accounts, and the document's are the same.
-/
import Derived.Test.YtolhahlnccekcaaDoorPtPr6
namespace Go.Proofs.YtolhahlnccekcaaDoor.Abs
open Go.RowKit
set_option linter.unusedVariables false
set_option linter.unusedSimpArgs false
theorem bl21 (f : T_remontoireref10_P → Int → Option (T_remontoireref10_P × List T_remontoireref10_N)) (n : Nat) (a : Int) : ∀ c v p x, remontoireref10_P_block_l2 f n a c v p x = remontoireref10_P_block_l1 f n a c v p x := by
  intro c
  induction c with
  | zero => intros; rfl
  | succ c ih =>
    intro v p x
    unfold remontoireref10_P_block_l2 remontoireref10_P_block_l1
    simp only [ih]
def SimS (n : Nat) (k : Int) (f : T_parse_parser → Int → Option (T_parse_Node × T_parse_parser)) (g : Nat → T_remontoireref10_P → Int → Option (T_remontoireref10_P × List T_remontoireref10_N)) : Prop :=
  ∀ p a, PI p → PN p → Lf p + k ≤ n → Tot (f p a) fun r => GB 7 2 0 p r.2 (sz r.1) ∧ ∀ m, n ≤ m → g m (conv p) a = some (conv r.2, flatN r.1)
def SimW (n : Nat) (kd S : Int) (f : T_parse_parser → T_parse_Node → Int → Option (T_parse_Node × T_parse_parser)) : Prop :=
  ∀ p x a, PI p → PN p → Lf p + 47 ≤ n → Tot (f p x a) fun r => GB S 5 1 p r.2 (sz r.1) ∧ ∀ m t k, n ≤ m → (kd = 11 → t = x.Text_) → remontoireref10_P_within m (conv p) ⟨kd, x.At_, t, x.Num_, k⟩ a = some (conv r.2, flatN r.1)
section
variable {n : Nat} {p : T_parse_parser}
theorem pblock_l1 (hn : 13 < n) {fs : T_parse_parser → Int → Option (T_parse_Node × T_parse_parser)} {k : Int} {a : Int} (hf : ∀ p, PI p → PN p → Lf p ≤ k → Tot (fs p a) fun r => GB 7 2 0 p r.2 (sz r.1) ∧ ∀ m, n ≤ m → remontoireref10_P_statement m (conv p) a = some (conv r.2, flatN r.1)) :
    ∀ (c : Nat) (p : T_parse_parser) (x : T_parse_Node), PI p → PN p → (p.e_ = 0 → Lf p ≤ k) → (p.e_ = 0 → (p.l_.length : Int) - p.at_ < c) → 1 ≤ c → szL x.List_ + ph p ≤ 600000 →
      Tot (p_parse_parser_block_l1 fs n a c p x) fun r => Gd p r.1 ∧ PN r.1 ∧ szL r.2.List_ + ph r.1 ≤ szL x.List_ + ph p ∧ (r.1.e_ = 0 → r.1.nodes_ = p.nodes_ + szL r.2.List_ - szL x.List_) ∧ r.2 = { x with List_ := r.2.List_ } ∧
        ∀ (m c' : Nat) (k0 a0 : Int) (t0 : Str) (n0 : Int), n ≤ m → c ≤ c' → remontoireref10_P_block_l1 (remontoireref10_P_statement m) m a c' (flatL x.List_) (conv p) ⟨k0, a0, t0, n0, (x.List_.length : Int)⟩ = some (flatL r.2.List_, conv r.1, ⟨k0, a0, t0, n0, (r.2.List_.length : Int)⟩) := by
  intro c
  induction c with
  | zero => intro p x h _ _ _ h1; omega
  | succ c ih =>
    intro p x h hpn hk h1 h2 hB
    have k1 := h.lo
    have k2 := h.hi
    have k3 := h.big
    have p0 := h.ph
    have hll := szL_ge x.List_
    have hcond : (if (p.e_ == (0 : Int)) = true then (p_parse_parser_is n p ([125] : Str)).bind fun x19 => some (!x19) else some false) = some (p.e_ == 0 && !(isB p [125])) := by
      rw [is_eq h hn]
      cases p.e_ == (0 : Int) <;> rfl
    have hcondr : ∀ m, n ≤ m → (if ((conv p).E_ == (0 : Int)) = true then (remontoireref10_P_is m (conv p) ([125] : Str)).bind fun x22 => some (!x22) else some false) = some (p.e_ == 0 && !(isB p [125])) := by
      intro m hm
      rw [ris h (by omega), show (conv p).E_ = p.e_ from rfl]
      cases p.e_ == (0 : Int) <;> rfl
    unfold p_parse_parser_block_l1
    rw [hcond, Option.bind_some]
    refine Tot.iteb (fun h5 => ?_) fun h5 => ?_
    · have he : p.e_ = 0 := by
        simp only [Bool.and_eq_true, beq_iff_eq] at h5; exact h5.1
      refine (hf p h hpn (hk he)).bind fun r ⟨g, e⟩ => ?_
      have m1 := g.ga.at'
      have m2 := hk he
      have m3 := h1 he
      have m4 := g.ga.toGd.lf
      have m5 := g.ga.inv.hi
      have m6 := g.ga.toGd.len
      have p1 := g.ok he
      have p1' := g.ga.inv.ph
      have hpos := sz_pos r.1
      have hsz : szL (x.List_ ++ [r.1]) = szL x.List_ + sz r.1 := by rw [szL_app, szL_1]
      have hfl : flatL (x.List_ ++ [r.1]) = flatL x.List_ ++ flatN r.1 := by rw [flatL_app, flatL_1]
      have f1 := flenL x.List_
      have f2 := flen r.1
      refine Tot.need (by simp only [List.length_singleton]; omega) ?_
      refine (ih r.2 { x with List_ := x.List_ ++ [r.1] } g.ga.inv g.pn (fun _ => by omega) (fun he2 => by have := g.ga.adv he2; rw [m6]; omega) (by omega) (by simp only [hsz]; omega)).mono fun s ⟨s1, s2, s3, s4, s5, s6⟩ => ⟨g.ga.toGd.trans s1, s2, by simp only [hsz] at s3; omega, fun hq => ?_, s5, fun m c' k0 a0 t0 n0 hm hc => ?_⟩
      · have h7 := s4 hq
        have h8 := g.ac (s1.e0 hq)
        simp only [hsz] at h7
        omega
      · obtain ⟨c', rfl⟩ : ∃ d, c' = d + 1 := ⟨c' - 1, by omega⟩
        have hw : IntKind.i64.wrap ((x.List_.length : Int) + 1) = ((x.List_ ++ [r.1]).length : Int) := by
          rw [wrap64 (by omega) (by omega), List.length_append, List.length_singleton]; omega
        have h9 := s6 m c' k0 a0 t0 n0 hm (by omega)
        simp only [hfl] at h9
        unfold remontoireref10_P_block_l1
        rw [hcondr m hm, Option.bind_some, if_pos h5, e m hm, Option.bind_some, need_of (by simp only; omega)]
        simp only [hw]
        exact h9
    · refine .some ⟨.refl h, hpn, Int.le_refl _, fun _ => by simp only; omega, by cases x; rfl, fun m c' k0 a0 t0 n0 hm hc => ?_⟩
      obtain ⟨c', rfl⟩ : ∃ d, c' = d + 1 := ⟨c' - 1, by omega⟩
      unfold remontoireref10_P_block_l1
      rw [hcondr m hm, Option.bind_some, h5, if_neg (by decide)]
theorem pblock_b {fs : T_parse_parser → Int → Option (T_parse_Node × T_parse_parser)} (hs : SimS n 45 fs remontoireref10_P_statement) : SimS (n + 1) 46 (p_parse_parser_block_b fs n) remontoireref10_P_block := by
  intro p a h hpn hb
  have hn : 13 < n := by have := h.lf; omega
  have g1 := deep_gd h (a := a)
  have n1 : PN (deepP p a) := hpn.of g1 deep_nd
  have d1 : (deepP p a).nodes_ = p.nodes_ := deep_nd
  have g2 := node_gd g1.inv
  have n2 := n1.node
  have d2 : (nodeP (deepP p a)).e_ = 0 → _ := node_nd n1
  have g3 := need_ga g2.inv (s := [123])
  have n3 : PN (needP (nodeP (deepP p a)) [123]) := n2.of g3.toGd need_nd
  have d3 : (needP (nodeP (deepP p a)) [123]).nodes_ = (nodeP (deepP p a)).nodes_ := need_nd
  have g4 := g1.trans g2
  have g5 := g4.ga g3
  have q0 := h.ph
  have q1 := g1.ph
  have q1' := g1.inv.ph
  have q2 := g2.ph
  have q2' := g2.inv.ph
  have q3 := g3.ph
  have q3' := g3.inv.ph
  have q5 := g5.ph
  have l5 := g5.toGd.lf
  have hr : ∀ m, n + 1 ≤ m → ∃ d, m = d + 1 ∧ n ≤ d ∧ remontoireref10_P_block m (conv p) a = ((remontoireref10_P_block_l1 (remontoireref10_P_statement d) d a d [] (conv (needP (nodeP (deepP p a)) [123])) ⟨4, (tokP (deepP p a)).At_, [], 0, 0⟩).bind fun y15 =>
      (remontoireref10_P_need d y15.2.1 ([125] : Str)).bind fun x37 =>
      need ([y15.2.2].length + y15.1.length ≤ 1073741824) <|
      some (x37, ([y15.2.2] ++ y15.1))) := fun m hm => ⟨m - 1, by omega, by omega, by
    obtain ⟨d, rfl⟩ : ∃ d, m = d + 1 := ⟨m - 1, by omega⟩
    show remontoireref10_P_block_b (remontoireref10_P_statement d) d (conv p) a = _
    unfold remontoireref10_P_block_b
    simp only [bl21]
    by_cases h64 : 64 < a
    · have hd : failP p 111 = deepP p a := by unfold deepP; rw [if_pos h64]
      rw [if_pos (by simpa using h64), rfail h, Option.bind_some, hd, rnode g1.inv, Option.bind_some, rneed g2.inv (by omega), Option.bind_some]; rfl
    · have hd : p = deepP p a := by unfold deepP; rw [if_neg h64]
      rw [if_neg (by simpa using h64)]
      have e1 : remontoireref10_P_node (conv p) 4 = some (conv (nodeP (deepP p a)), ⟨4, (tokP (deepP p a)).At_, [], 0, 0⟩) := by rw [← hd]; exact rnode h
      rw [e1, Option.bind_some, rneed g2.inv (by omega), Option.bind_some]; rfl⟩
  unfold p_parse_parser_block_b
  rw [deep_eq h, Option.bind_some, node_eq g1.inv, Option.bind_some, need_eq g2.inv hn, Option.bind_some]
  refine (pblock_l1 hn (k := (n : Int) - 45) (fun q hq hqn hk => hs q a hq hqn (by omega)) n _ ⟨4, (tokP (deepP p a)).At_, [], 0, []⟩ g3.inv n3 (fun he => ?_) (fun he => ?_) (by omega) (by simp only [szL_nil]; omega)).bind fun y ⟨g6, n6, s3, s4, s5, s6⟩ => ?_
  · have := g5.lf he
    omega
  · unfold Lf at hb l5
    rw [g5.toGd.len] at l5 ⊢
    have := h.hi
    omega
  · simp only [szL_nil] at s3 s4
    have g7 := need_ga g6.inv (s := [125])
    have n7 : PN (needP y.1 [125]) := n6.of g7.toGd need_nd
    have d7 : (needP y.1 [125]).nodes_ = y.1.nodes_ := need_nd
    have q6 := g6.ph
    have q6' := g6.inv.ph
    have q7 := g7.ph
    have q7' := g7.inv.ph
    have f1 := flenL y.2.List_
    have f2 := szL_ge y.2.List_
    rw [need_eq g6.inv hn, Option.bind_some]
    have hsz : sz y.2 = 1 + szL y.2.List_ := sz_eq _
    refine .some ⟨⟨(g5.gd g6).ga g7, n7, fun _ => ?_, fun hp => ?_, fun hq => ?_⟩, fun m hm => ?_⟩
    · simp only; omega
    · simp only; omega
    · have h6 := s4 (g7.toGd.e0 hq)
      have h7 := d2 (g3.toGd.e0 (g6.e0 (g7.toGd.e0 hq)))
      simp only; omega
    · obtain ⟨d, rfl, hd, e⟩ := hr m hm
      have e6 := s6 d d 4 (tokP (deepP p a)).At_ [] 0 hd hd
      rw [e]
      simp only [flatL_nil, List.length_nil] at e6
      rw [show ((0 : Nat) : Int) = 0 from rfl] at e6
      rw [e6, Option.bind_some]
      simp only
      rw [rneed g6.inv (by omega), Option.bind_some, need_of (by simp only [List.length_singleton]; omega), s5, flatN_mk]; rfl
set_option maxHeartbeats 4000000 in
theorem pchoice_b {fb : T_parse_parser → Int → Option (T_parse_Node × T_parse_parser)} (hf : SimS n 46 fb remontoireref10_P_block) : SimW (n + 1) 11 0 (p_parse_parser_choice_b fb n) := by
  intro p x a h hpn hb
  have hn : 13 < n := by have := h.lf; omega
  have q0 := h.ph
  unfold p_parse_parser_choice_b
  refine (pexpr h hpn (by omega)).bind fun r ⟨g1, e1⟩ => ?_
  have l1 := g1.ga.toGd.lf
  have q1 := g1.ok
  have q1e := g1.er
  have q1g := g1.ga.ph
  have q1' := g1.ga.inv.ph
  refine (hf r.2 _ g1.ga.inv g1.pn (by omega)).bind fun s ⟨g2, e2⟩ => Tot.need (by simp) ?_
  have q2 := g2.ok
  have q2e := g2.er
  have q2g := g2.ga.ph
  have q2' := g2.ga.inv.ph
  have f1 := flen r.1
  have f2 := flen s.1
  obtain ⟨g3, t2, t3⟩ := take_gd g2.ga.inv (s := [101, 108, 115, 101])
  have n3 : PN (takeP s.2 [101, 108, 115, 101]) := g2.pn.of g3 take_nd
  have d3 : (takeP s.2 [101, 108, 115, 101]).nodes_ = s.2.nodes_ := take_nd
  have q3 := g3.ph
  have q3' := g3.inv.ph
  have l2 := g2.ga.toGd.lf
  have l3 := g3.lf
  rw [take_eq g2.ga.inv hn, Option.bind_some]
  have hr : ∀ m t k, n + 1 ≤ m → (11 = (11 : Int) → t = x.Text_) → ∃ d, m = d + 1 ∧ n ≤ d ∧ t = x.Text_ ∧ remontoireref10_P_within m (conv p) ⟨11, x.At_, t, x.Num_, k⟩ a =
      (if (!(isB s.2 [101, 108, 115, 101])) = true then
        need ([({ (⟨11, x.At_, t, x.Num_, k⟩ : T_remontoireref10_N) with Kids_ := (2 : Int) } : T_remontoireref10_N)].length + (flatN r.1).length ≤ 1073741824) <|
        need (([({ (⟨11, x.At_, t, x.Num_, k⟩ : T_remontoireref10_N) with Kids_ := (2 : Int) } : T_remontoireref10_N)] ++ flatN r.1).length + (flatN s.1).length ≤ 1073741824) <|
        some (conv (takeP s.2 [101, 108, 115, 101]), (([({ (⟨11, x.At_, t, x.Num_, k⟩ : T_remontoireref10_N) with Kids_ := (2 : Int) } : T_remontoireref10_N)] ++ flatN r.1) ++ flatN s.1))
      else
        (remontoireref10_P_block d (conv (takeP s.2 [101, 108, 115, 101])) (IntKind.i64.wrap (a + (1 : Int)))).bind fun x35 =>
        need ([({ (⟨11, x.At_, t, x.Num_, k⟩ : T_remontoireref10_N) with Kids_ := (3 : Int) } : T_remontoireref10_N)].length + (flatN r.1).length ≤ 1073741824) <|
        need (([({ (⟨11, x.At_, t, x.Num_, k⟩ : T_remontoireref10_N) with Kids_ := (3 : Int) } : T_remontoireref10_N)] ++ flatN r.1).length + (flatN s.1).length ≤ 1073741824) <|
        need ((([({ (⟨11, x.At_, t, x.Num_, k⟩ : T_remontoireref10_N) with Kids_ := (3 : Int) } : T_remontoireref10_N)] ++ flatN r.1) ++ flatN s.1).length + x35.2.length ≤ 1073741824) <|
        some (x35.1, ((([({ (⟨11, x.At_, t, x.Num_, k⟩ : T_remontoireref10_N) with Kids_ := (3 : Int) } : T_remontoireref10_N)] ++ flatN r.1) ++ flatN s.1) ++ x35.2))) := fun m t k hm ht => by
    obtain ⟨d, rfl⟩ : ∃ d, m = d + 1 := ⟨m - 1, by omega⟩
    refine ⟨d, rfl, by omega, ht rfl, ?_⟩
    have e0 : remontoireref10_P_within (d + 1) (conv p) ⟨11, x.At_, t, x.Num_, k⟩ a = remontoireref10_P_within_b (remontoireref10_P_block d) d (conv p) ⟨11, x.At_, t, x.Num_, k⟩ a := rfl
    rw [e0]
    unfold remontoireref10_P_within_b
    rw [if_neg (by simp), e1 d (by omega), Option.bind_some]
    simp only
    rw [e2 d (by omega), Option.bind_some]
    simp only
    rw [rtake g2.ga.inv (by omega), Option.bind_some]
  by_cases h5 : isB s.2 [101, 108, 115, 101] = true
  · rw [if_pos h5]
    obtain ⟨c1, c2, c3⟩ := t2 h5
    refine (hf _ _ g3.inv n3 (by omega)).bind fun u ⟨g4, e4⟩ => Tot.need (by simp) (.some ?_)
    have q4 := g4.ok c3
    have q4' := g4.ga.inv.ph
    have f3 := flen u.1
    have hr0 := g2.ga.toGd.e0 c1
    have hp0 := g1.ga.toGd.e0 hr0
    have hsz : sz ({ x with Kind_ := 11, List_ := [r.1, s.1, u.1] } : T_parse_Node) = 1 + (sz r.1 + sz s.1 + sz u.1) := by rw [sz_eq]; simp only [szL_3]
    refine ⟨⟨((g1.ga.ga g2.ga).gd g3).ga g4.ga, g4.pn, fun _ => ?_, fun hp => absurd hp0 hp, fun hq => ?_⟩, fun m t k hm ht => ?_⟩
    · show sz ({ x with Kind_ := 11, List_ := [r.1, s.1, u.1] } : T_parse_Node) + 0 + ph u.2 ≤ ph p
      rw [hsz]; omega
    · have h7 := g4.ac hq
      have h8 := g2.ac c1
      have h9 := g1.ac hr0
      show u.2.nodes_ = p.nodes_ + sz ({ x with Kind_ := 11, List_ := [r.1, s.1, u.1] } : T_parse_Node) - 1
      rw [hsz]; omega
    · obtain ⟨d, rfl, hd, rfl, e⟩ := hr m t k hm ht
      rw [e]
      simp only [h5, Bool.not_true, Bool.false_eq_true, if_false]
      rw [e4 d hd, Option.bind_some, need_of (by simp only [List.length_singleton]; omega), need_of (by simp only [List.length_append, List.length_singleton]; omega), need_of (by simp only [List.length_append, List.length_singleton]; omega)]
      show _ = some (conv u.2, flatN ⟨11, x.At_, x.Text_, x.Num_, [r.1, s.1, u.1]⟩)
      rw [flatN_mk, flatL_3]
      simp only [List.append_assoc]; rfl
  · rw [if_neg h5]
    have h5' : isB s.2 [101, 108, 115, 101] = false := by simpa using h5
    have hsz : sz ({ x with Kind_ := 11, List_ := [r.1, s.1] } : T_parse_Node) = 1 + (sz r.1 + sz s.1) := by rw [sz_eq]; simp only [szL_2]
    refine .some ⟨⟨(g1.ga.ga g2.ga).gd g3, n3, fun _ => ?_, fun hp => ?_, fun hq => ?_⟩, fun m t k hm ht => ?_⟩
    · show sz ({ x with Kind_ := 11, List_ := [r.1, s.1] } : T_parse_Node) + 0 + ph (takeP s.2 [101, 108, 115, 101]) ≤ ph p
      rw [hsz]; omega
    · show sz ({ x with Kind_ := 11, List_ := [r.1, s.1] } : T_parse_Node) ≤ 5
      rw [hsz]; omega
    · have h8 := g2.ac (g3.e0 hq)
      have h9 := g1.ac (g2.ga.toGd.e0 (g3.e0 hq))
      show (takeP s.2 [101, 108, 115, 101]).nodes_ = p.nodes_ + sz ({ x with Kind_ := 11, List_ := [r.1, s.1] } : T_parse_Node) - 1
      rw [hsz]; omega
    · obtain ⟨d, rfl, hd, rfl, e⟩ := hr m t k hm ht
      rw [e]
      simp only [h5', Bool.not_false, if_true]
      rw [need_of (by simp only [List.length_singleton]; omega), need_of (by simp only [List.length_append, List.length_singleton]; omega)]
      show _ = some (conv (takeP s.2 [101, 108, 115, 101]), flatN ⟨11, x.At_, x.Text_, x.Num_, [r.1, s.1]⟩)
      rw [flatN_mk, flatL_2]
      simp only [List.append_assoc]; rfl
set_option maxHeartbeats 4000000 in
theorem ploop_b {fb : T_parse_parser → Int → Option (T_parse_Node × T_parse_parser)} (hf : SimS n 46 fb remontoireref10_P_block) : SimW (n + 1) 12 7 (p_parse_parser_loop_b fb n) := by
  intro p x a h hpn hb
  have hn : 13 < n := by have := h.lf; omega
  have q0 := h.ph
  have g1 := name_ga h
  have n1 : PN (nameP p).2 := hpn.of g1.toGd name_nd
  have d1 : (nameP p).2.nodes_ = p.nodes_ := name_nd
  have g2 := need_ga g1.inv (s := [105, 110])
  have n2 : PN (needP (nameP p).2 [105, 110]) := n1.of g2.toGd need_nd
  have d2 : (needP (nameP p).2 [105, 110]).nodes_ = (nameP p).2.nodes_ := need_nd
  have q1 := g1.ph
  have q1' := g1.inv.ph
  have q2 := g2.ph
  have q2' := g2.inv.ph
  have l1 := g1.toGd.lf
  have l2 := g2.toGd.lf
  unfold p_parse_parser_loop_b
  rw [name_eq h hn, Option.bind_some, need_eq g1.inv hn, Option.bind_some]
  refine (pexpr g2.inv n2 (by omega)).bind fun r ⟨g3, e3⟩ => ?_
  have l3 := g3.ga.toGd.lf
  have q3 := g3.ok
  have q3e := g3.er
  have q3g := g3.ga.ph
  have q3' := g3.ga.inv.ph
  have g4 := need_ga g3.ga.inv (s := [46, 46])
  have n4 : PN (needP r.2 [46, 46]) := g3.pn.of g4.toGd need_nd
  have d4 : (needP r.2 [46, 46]).nodes_ = r.2.nodes_ := need_nd
  have q4 := g4.ph
  have q4' := g4.inv.ph
  have l4 := g4.toGd.lf
  rw [need_eq g3.ga.inv hn, Option.bind_some]
  refine (pexpr g4.inv n4 (by omega)).bind fun s ⟨g5, e5⟩ => Tot.need (by simp) ?_
  have l5 := g5.ga.toGd.lf
  have q5 := g5.ok
  have q5e := g5.er
  have q5g := g5.ga.ph
  have q5' := g5.ga.inv.ph
  refine (hf s.2 _ g5.ga.inv g5.pn (by omega)).bind fun u ⟨g6, e6⟩ => Tot.need (by simp) (.some ?_)
  have q6 := g6.ok
  have q6e := g6.er
  have q6g := g6.ga.ph
  have q6' := g6.ga.inv.ph
  have f1 := flen r.1
  have f2 := flen s.1
  have f3 := flen u.1
  have hsz : sz ({ x with Kind_ := 12, Text_ := (nameP p).1, List_ := [r.1, s.1, u.1] } : T_parse_Node) = 1 + (sz r.1 + sz s.1 + sz u.1) := by rw [sz_eq]; simp only [szL_3]
  refine ⟨⟨g1.ga (g2.ga (g3.ga.ga (g4.ga (g5.ga.ga g6.ga)))), g6.pn, fun _ => ?_, fun hp => ?_, fun hq => ?_⟩, fun m t k hm ht => ?_⟩
  · show sz ({ x with Kind_ := 12, Text_ := (nameP p).1, List_ := [r.1, s.1, u.1] } : T_parse_Node) + 7 + ph u.2 ≤ ph p
    rw [hsz]; omega
  · show sz ({ x with Kind_ := 12, Text_ := (nameP p).1, List_ := [r.1, s.1, u.1] } : T_parse_Node) ≤ 5
    rw [hsz]; omega
  · have h7 := g6.ac hq
    have h8 := g5.ac (g6.ga.toGd.e0 hq)
    have h9 := g3.ac (g4.toGd.e0 (g5.ga.toGd.e0 (g6.ga.toGd.e0 hq)))
    show u.2.nodes_ = p.nodes_ + sz ({ x with Kind_ := 12, Text_ := (nameP p).1, List_ := [r.1, s.1, u.1] } : T_parse_Node) - 1
    rw [hsz]; omega
  · obtain ⟨d, rfl⟩ : ∃ d, m = d + 1 := ⟨m - 1, by omega⟩
    have e0 : remontoireref10_P_within (d + 1) (conv p) ⟨12, x.At_, t, x.Num_, k⟩ a = remontoireref10_P_within_b (remontoireref10_P_block d) d (conv p) ⟨12, x.At_, t, x.Num_, k⟩ a := rfl
    rw [e0]
    unfold remontoireref10_P_within_b
    rw [if_pos (by simp), rname h (by omega), Option.bind_some]
    simp only
    rw [rneed g1.inv (by omega), Option.bind_some, e3 d (by omega), Option.bind_some]
    simp only
    rw [rneed g3.ga.inv (by omega), Option.bind_some, e5 d (by omega), Option.bind_some]
    simp only
    rw [e6 d (by omega), Option.bind_some, need_of (by simp only [List.length_singleton]; omega), need_of (by simp only [List.length_append, List.length_singleton]; omega), need_of (by simp only [List.length_append, List.length_singleton]; omega)]
    show _ = some (conv u.2, flatN ⟨12, x.At_, (nameP p).1, x.Num_, [r.1, s.1, u.1]⟩)
    rw [flatN_mk, flatL_3]
    simp only [List.append_assoc]; rfl
end
end Go.Proofs.YtolhahlnccekcaaDoor.Abs
