/-
  Functions, and the whole: the document's are the same.
-/
import Derived.Test.YtolhahlnccekcaaDoorPtPr9
namespace Go.Proofs.YtolhahlnccekcaaDoor.Abs
open Go.RowKit
set_option linter.unusedVariables false
set_option linter.unusedSimpArgs false
def tailP' (n : Nat) (q : T_parse_parser) (x : T_parse_Node) (n0 n2 n4 : Int) : Option (T_parse_Node × T_parse_parser) :=
  (p_parse_parser_need n q ([102, 110] : Str)).bind fun x8 =>
  (p_parse_parser_name n x8).bind fun x10 =>
  (p_parse_parser_list__param n x10.2).bind fun x12 =>
  (p_parse_parser_take n x12.2 ([45, 62] : Str)).bind fun x14 =>
  if x14.1 = true then
    (p_parse_parser_take n x14.2 ([117, 51, 50] : Str)).bind fun x17 =>
    if x17.1 = true then
      (p_parse_parser_block n x17.2 (1 : Int)).bind fun x20 =>
      need (x12.1.length + [x20.1].length ≤ 1073741824) <|
      some ({ x with Text_ := x10.1, Num_ := n2, List_ := x12.1 ++ [x20.1] }, x20.2)
    else
      (p_parse_parser_need n x17.2 ([117, 54, 52] : Str)).bind fun x25 =>
      (p_parse_parser_block n x25 (1 : Int)).bind fun x27 =>
      need (x12.1.length + [x27.1].length ≤ 1073741824) <|
      some ({ x with Text_ := x10.1, Num_ := n4, List_ := x12.1 ++ [x27.1] }, x27.2)
  else
    (p_parse_parser_block n x14.2 (1 : Int)).bind fun x32 =>
    need (x12.1.length + [x32.1].length ≤ 1073741824) <|
    some ({ x with Text_ := x10.1, Num_ := n0, List_ := x12.1 ++ [x32.1] }, x32.2)
section
variable {n : Nat} {p : T_parse_parser}
theorem function_def (n : Nat) (p : T_parse_parser) : p_parse_parser_function n p = ((p_parse_parser_node p (2 : Int)).bind fun x2 => (p_parse_parser_take n x2.2 ([101, 120, 112, 111, 114, 116] : Str)).bind fun x5 =>
    if x5.1 = true then tailP' n x5.2 x2.1 1 (orK .u32 (1 : Int) (2 : Int)) (orK .u32 (1 : Int) (4 : Int)) else tailP' n x5.2 x2.1 x2.1.Num_ (orK .u32 x2.1.Num_ (2 : Int)) (orK .u32 x2.1.Num_ (4 : Int))) := rfl
theorem rfunction_def (h : PI p) (hn : 13 < n) : remontoireref10_P_function n (conv p) = if isB (nodeP p) [101, 120, 112, 111, 114, 116] = true then tailD n (conv (takeP (nodeP p) [101, 120, 112, 111, 114, 116])) (tokP p).At_ 1 3 5 else tailD n (conv (takeP (nodeP p) [101, 120, 112, 111, 114, 116])) (tokP p).At_ 0 2 4 := by
  have w1 : IntKind.u32.wrap ((1 : Int) + 2) = 3 := by decide
  have w2 : IntKind.u32.wrap ((1 : Int) + 4) = 5 := by decide
  have w3 : IntKind.u32.wrap ((0 : Int) + 2) = 2 := by decide
  have w4 : IntKind.u32.wrap ((0 : Int) + 4) = 4 := by decide
  unfold remontoireref10_P_function
  rw [rnode h, Option.bind_some]
  simp only
  rw [rtake (node_gd h).inv hn, Option.bind_some]
  simp only [w1, w2, w3, w4]
  rfl
theorem pfunction (h : PI p) (hpn : PN p) (hb : Lf p + 46 ≤ n) : Tot (p_parse_parser_function n p) fun r => GB 0 3 0 p r.2 (sz r.1) ∧ ∀ m, n ≤ m → remontoireref10_P_function m (conv p) = some (conv r.2, flatN r.1) := by
  have hn : 13 < n := by have := h.lf; omega
  have g1 := node_gd h
  have n1 := hpn.node
  have d1 : (nodeP p).e_ = 0 → p.e_ = 0 ∧ (nodeP p).nodes_ = p.nodes_ + 1 ∧ p.nodes_ < 16384 := node_nd hpn
  obtain ⟨g2, t2, t3⟩ := take_gd g1.inv (s := [101, 120, 112, 111, 114, 116])
  have n2 : PN (takeP (nodeP p) [101, 120, 112, 111, 114, 116]) := n1.of g2 take_nd
  have d2 : (takeP (nodeP p) [101, 120, 112, 111, 114, 116]).nodes_ = (nodeP p).nodes_ := take_nd
  have g12 := g1.trans g2
  have q0 := h.ph
  have q1 := g12.ph
  have q1' := g12.inv.ph
  have l1 := g12.lf
  rw [function_def, node_eq h, Option.bind_some]
  simp only
  rw [take_eq g1.inv hn, Option.bind_some]
  simp only
  have fin : ∀ n0 n2 n4, Tot (tailP n (takeP (nodeP p) [101, 120, 112, 111, 114, 116]) (tokP p).At_ n0 n2 n4) fun r => GB 0 3 0 p r.2 (sz r.1) ∧ ∀ m, n ≤ m → tailD m (conv (takeP (nodeP p) [101, 120, 112, 111, 114, 116])) (tokP p).At_ n0 n2 n4 = some (conv r.2, flatN r.1) := by
    intro a0 a2 a4
    refine (ptail g12.inv n2 (by omega) _ _ _ _).mono fun r ⟨g, e⟩ => ⟨⟨g12.ga g.ga, g.pn, fun hp => ?_, fun hp => ?_, fun hq => ?_⟩, e⟩
    · have r1 := g.ok
      have r2 := g.er
      have r3 := g.ga.ph
      have r4 := g.ga.inv.ph
      by_cases he : (takeP (nodeP p) [101, 120, 112, 111, 114, 116]).e_ = 0
      · have := r1 he; have := q1.1 hp; omega
      · have := r2 he; have := r4.2.1 (r3.2 he); have := q0.1 hp; omega
    · exact g.er (q1.2 hp)
    · have := g.ac hq
      have := (d1 (g2.e0 (g.ga.toGd.e0 hq))).2.1
      omega
  by_cases hA : isB (nodeP p) [101, 120, 112, 111, 114, 116] = true
  · rw [if_pos hA]
    refine (fin 1 3 5).mono fun r ⟨g, e⟩ => ⟨g, fun m hm => ?_⟩
    rw [rfunction_def h (by omega), if_pos hA]; exact e m hm
  · rw [if_neg hA]
    refine (fin 0 2 4).mono fun r ⟨g, e⟩ => ⟨g, fun m hm => ?_⟩
    rw [rfunction_def h (by omega), if_neg hA]; exact e m hm
theorem pParse_l1 : ∀ (c : Nat) (p : T_parse_parser) (x : T_parse_Node), PI p → PN p → Lf p + 46 ≤ n → (p.e_ = 0 → (p.l_.length : Int) - p.at_ < c) → 1 ≤ c → szL x.List_ + ph p ≤ 600000 →
      Tot (parse_Parse_l1 n c p x) fun r => Gd p r.1 ∧ PN r.1 ∧ szL r.2.List_ + ph r.1 ≤ szL x.List_ + ph p ∧ (r.1.e_ = 0 → r.1.nodes_ = p.nodes_ + szL r.2.List_ - szL x.List_) ∧ r.2 = { x with List_ := r.2.List_ } ∧
        ∀ (m c' : Nat) (k0 a0 : Int) (t0 : Str) (n0 : Int), n ≤ m → c ≤ c' → remontoireref10_Parse_l1 m c' (flatL x.List_) (conv p) ⟨k0, a0, t0, n0, (x.List_.length : Int)⟩ = some (flatL r.2.List_, conv r.1, ⟨k0, a0, t0, n0, (r.2.List_.length : Int)⟩) := by
  intro c
  induction c with
  | zero => intro p x h _ _ _ h1; omega
  | succ c ih =>
    intro p x h hpn hk h1 h2 hB
    have k1 := h.lo
    have k2 := h.hi
    have k3 := h.big
    have p0 := h.ph
    have hll := szL_ge x.List_
    have hcond : (if (p.e_ == (0 : Int)) = true then (p_parse_parser_token p).bind fun x19 => some (x19.Kind_ != (4 : Int)) else some false) = some (p.e_ == 0 && (tokP p).Kind_ != 4) := by
      rw [token_eq h]
      cases p.e_ == (0 : Int) <;> rfl
    have hcondr : (if ((conv p).E_ == (0 : Int)) = true then (idxL (conv p).L_ (conv p).At_).bind fun x23 => some (x23.Kind_ != (4 : Int)) else some false) = some (p.e_ == 0 && (tokP p).Kind_ != 4) := by
      rw [rtok h, show (conv p).E_ = p.e_ from rfl]
      cases p.e_ == (0 : Int) <;> rfl
    unfold parse_Parse_l1
    rw [hcond, Option.bind_some]
    refine Tot.iteb (fun h5 => ?_) fun h5 => ?_
    · have he : p.e_ = 0 := by
        simp only [Bool.and_eq_true, beq_iff_eq] at h5; exact h5.1
      refine (pfunction h hpn hk).bind fun r ⟨g, e⟩ => ?_
      have m1 := g.ga.at'
      have m3 := h1 he
      have m4 := g.ga.toGd.lf
      have m5 := g.ga.inv.hi
      have m6 := g.ga.toGd.len
      have p1 := g.ok he
      have p1' := g.ga.inv.ph
      have hpos := sz_pos r.1
      have hsz : szL (x.List_ ++ [r.1]) = szL x.List_ + sz r.1 := by rw [szL_app, szL_1]
      have hfl : flatL (x.List_ ++ [r.1]) = flatL x.List_ ++ flatN r.1 := by rw [flatL_app, flatL_1]
      have f1 := flenL x.List_
      have f2 := flen r.1
      refine Tot.need (by simp only [List.length_singleton]; omega) ?_
      refine (ih r.2 { x with List_ := x.List_ ++ [r.1] } g.ga.inv g.pn (by omega) (fun he2 => by have := g.ga.adv he2; rw [m6]; omega) (by omega) (by simp only [hsz]; omega)).mono fun s ⟨s1, s2, s3, s4, s5, s6⟩ => ⟨g.ga.toGd.trans s1, s2, by simp only [hsz] at s3; omega, fun hq => ?_, s5, fun m c' k0 a0 t0 n0 hm hc => ?_⟩
      · have h7 := s4 hq
        have h8 := g.ac (s1.e0 hq)
        simp only [hsz] at h7
        omega
      · obtain ⟨c', rfl⟩ : ∃ d, c' = d + 1 := ⟨c' - 1, by omega⟩
        have hw : IntKind.i64.wrap ((x.List_.length : Int) + 1) = ((x.List_ ++ [r.1]).length : Int) := by
          rw [wrap64 (by omega) (by omega), List.length_append, List.length_singleton]; omega
        have h9 := s6 m c' k0 a0 t0 n0 hm (by omega)
        simp only [hfl] at h9
        unfold remontoireref10_Parse_l1
        rw [hcondr, Option.bind_some, if_pos h5, e m hm, Option.bind_some, need_of (by simp only; omega)]
        simp only [hw]
        exact h9
    · refine .some ⟨.refl h, hpn, Int.le_refl _, fun _ => by simp only; omega, by cases x; rfl, fun m c' k0 a0 t0 n0 hm hc => ?_⟩
      obtain ⟨c', rfl⟩ : ∃ d, c' = d + 1 := ⟨c' - 1, by omega⟩
      unfold remontoireref10_Parse_l1
      rw [hcondr, Option.bind_some, h5, if_neg (by decide)]
end
theorem pParse {n : Nat} {s : Str} (hn : 16 * s.length + 200 < n) : Tot (parse_Parse n s) fun r => (r.2.1 = 0 → r.2.2 = 0 ∧ sz r.1 ≤ 16384 ∧ remontoireref10_Parse n s = some (flatN r.1, 0, 0)) ∧ (r.2.1 ≠ 0 → r.1 = ⟨0, 0, [], 0, []⟩ ∧ remontoireref10_Parse n s = some ([], r.2.1, r.2.2)) := by
  unfold parse_Parse remontoireref10_Parse
  obtain ⟨x, ex, hx⟩ := Tokens_tot (n := n) (s := s) (by omega) (by omega)
  rw [ex, Option.bind_some, Tokens_sim (by omega) (by omega) ex, Option.bind_some]
  refine Tot.iteb (fun h1 => ?_) fun h1 => ?_
  · rw [if_pos h1]
    refine .some ⟨fun h => ?_, fun _ => ⟨rfl, rfl⟩⟩
    rw [show x.2.1 = 0 from h] at h1
    cases h1
  · rw [if_neg (by rw [h1]; decide)]
    obtain ⟨l, h2, h3, h4, h5⟩ := hx (by simpa using h1)
    have hp : PI (T_parse_parser.mk x.1 0 0 0 0) := ⟨by simp only; omega, by simp only [h2, List.length_append, List.length_singleton]; omega, by simp only [h2, List.length_append, List.length_singleton]; omega, ⟨l, _, h2, h3, rfl⟩⟩
    have hpn : PN (T_parse_parser.mk x.1 0 0 0 0) := fun _ => by simp only; omega
    have hnd : nodeP (T_parse_parser.mk x.1 0 0 0 0) = T_parse_parser.mk x.1 0 1 0 0 := by
      unfold nodeP cntP
      rw [show IntKind.i64.wrap ((0 : Int) + 1) = 1 by decide]
      rfl
    have g1 := node_gd hp
    have n1 := hpn.node
    have hl : Lf (nodeP (T_parse_parser.mk x.1 0 0 0 0)) ≤ 16 * s.length + 16 := by
      rw [hnd]
      unfold Lf
      simp only [h2, List.length_append, List.length_singleton]; omega
    have k1 := g1.inv.hi
    have p1 := g1.inv.ph
    rw [node_eq hp, Option.bind_some]
    have htk := rtok hp
    rw [show idxL (x.1.map cT, x.2).1 (0 : Int) = some (cT (tokP (T_parse_parser.mk x.1 0 0 0 0))) from htk, Option.bind_some]
    have hlen : (nodeP (T_parse_parser.mk x.1 0 0 0 0)).e_ = 0 → ((nodeP (T_parse_parser.mk x.1 0 0 0 0)).l_.length : Int) - (nodeP (T_parse_parser.mk x.1 0 0 0 0)).at_ < n := fun _ => by
      unfold Lf at hl; omega
    refine (pParse_l1 n (nodeP (T_parse_parser.mk x.1 0 0 0 0)) ⟨1, (tokP (T_parse_parser.mk x.1 0 0 0 0)).At_, [], 0, []⟩ g1.inv n1 (by omega) hlen (by omega) (by simp only [szL_nil]; omega)).bind fun y ⟨g6, n6, s3, s4, s5, s6⟩ => ?_
    have e6 := s6 n n 1 (tokP (T_parse_parser.mk x.1 0 0 0 0)).At_ [] 0 (by omega) (by omega)
    simp only [flatL_nil, List.length_nil] at e6
    rw [hnd] at e6
    have e7 : remontoireref10_Parse_l1 n n [] (T_remontoireref10_P.mk (x.1.map cT, x.2).1 (0 : Int) (1 : Int) (0 : Int) (0 : Int)) (T_remontoireref10_N.mk (1 : Int) (cT (tokP (T_parse_parser.mk x.1 0 0 0 0))).At_ [] (0 : Int) (0 : Int)) = some (flatL y.2.List_, conv y.1, ⟨1, (tokP (T_parse_parser.mk x.1 0 0 0 0)).At_, [], 0, (y.2.List_.length : Int)⟩) := e6
    rw [e7, Option.bind_some]
    simp only
    rw [show (conv y.1).E_ = y.1.e_ from rfl, show (conv y.1).Where_ = y.1.where_ from rfl]
    simp only [szL_nil] at s3 s4
    have q6 := g6.inv.ph
    have f1 := flenL y.2.List_
    refine Tot.iteb (fun h6 => ?_) fun h6 => ?_
    · rw [if_pos h6]
      refine .some ⟨fun h => ?_, fun _ => ⟨rfl, rfl⟩⟩
      rw [show y.1.e_ = 0 from h] at h6
      cases h6
    · rw [if_neg (by rw [h6]; decide)]
      have he : y.1.e_ = 0 := by simpa using h6
      refine .some ⟨fun _ => ⟨rfl, ?_, ?_⟩, fun h => absurd rfl h⟩
      · have h7 := s4 he
        have h8 := (n6 he).2
        rw [hnd] at h7
        have h9 : y.1.nodes_ = 1 + szL y.2.List_ - 0 := h7
        show sz y.2 ≤ 16384
        rw [sz_eq]; omega
      · rw [need_of (by simp only [List.length_singleton]; omega)]
        show some ([_] ++ flatL y.2.List_, 0, 0) = some (flatN y.2, 0, 0)
        rw [s5, flatN_mk]; rfl
end Go.Proofs.YtolhahlnccekcaaDoor.Abs
