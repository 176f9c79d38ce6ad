/-
  Statements, functions, the whole: the document's are the same.
-/
import Derived.Test.YtolhahlnccekcaaDoorPtPr7
namespace Go.Proofs.YtolhahlnccekcaaDoor.Abs
open Go.RowKit
set_option linter.unusedVariables false
set_option linter.unusedSimpArgs false
section
variable {n : Nat} {p : T_parse_parser}
/-- the word that a statement begins with is found: no other is taken -/
theorem rst_done (h : PI p) (hn : 13 < n) : ∀ (c v : Nat) (y : T_remontoireref10_N), y.Kind_ ≠ 0 → 6 < v + c → v ≤ 6 → remontoireref10_P_statement_l1 n c v (conv p) y = some (conv p, y) := by
  intro c
  induction c with
  | zero => intro v y _ h1 h2; omega
  | succ c ih =>
    intro v y hy h1 h2
    unfold remontoireref10_P_statement_l1
    by_cases h4 : v < 6
    · obtain ⟨z, hz, _⟩ : Tot (idxL remontoireref10_P_statement_k1 v) fun _ => True := Tot.idx (by omega) (by have : remontoireref10_P_statement_k1.length = 6 := rfl; omega) fun _ _ => trivial
      rw [if_pos (by simp; omega), hz, Option.bind_some, rtake h hn, Option.bind_some]
      have hk : (y.Kind_ == 0) = false := by simpa using hy
      have hc : (if (isB p z) = true then some (y.Kind_ == (0 : Int)) else some false) = some false := by rw [hk]; split <;> rfl
      simp only
      rw [hc, Option.bind_some, if_neg (by decide), Option.bind_some, wrap64 (by omega) (by omega)]
      exact ih (v + 1) y hy (by omega) (by omega)
    · rw [if_neg (by simp; omega)]
theorem rst_step (h : PI p) (hn : 13 < n) {c v : Nat} {y : T_remontoireref10_N} (hy : y.Kind_ = 0) {z : Str} {k : Int} (hz : idxL remontoireref10_P_statement_k1 v = some z) (hk : idxL remontoireref10_P_statement_k2 v = some k) (hk0 : k ≠ 0) (hv : v < 6) (hc : 6 < v + (c + 1)) :
    remontoireref10_P_statement_l1 n (c + 1) v (conv p) y = if isB p z = true then some (conv (takeP p z), { y with Kind_ := k }) else remontoireref10_P_statement_l1 n c ((v + 1 : Nat) : Int) (conv p) y := by
  rw [remontoireref10_P_statement_l1]
  rw [if_pos (by simp; omega), hz, Option.bind_some, rtake h hn, Option.bind_some]
  simp only
  rw [wrap64 (n := (v : Int) + 1) (by omega) (by omega)]
  by_cases h5 : isB p z = true
  · rw [if_pos h5, if_pos h5, hy, Option.bind_some, if_pos (by decide), hk, Option.bind_some, Option.bind_some]
    exact rst_done (take_gd h).1.inv hn c (v + 1) _ hk0 (by omega) (by omega)
  · rw [if_neg h5, if_neg h5, Option.bind_some, if_neg (by decide), Option.bind_some]
    rfl
theorem rst_eq (h : PI p) (hn : 13 < n) {c : Nat} {y : T_remontoireref10_N} (hy : y.Kind_ = 0) : remontoireref10_P_statement_l1 n (c + 7) 0 (conv p) y =
    if isB p [108, 101, 116] = true then some (conv (takeP p [108, 101, 116]), { y with Kind_ := 5 })
    else if isB p [118, 97, 114] = true then some (conv (takeP p [118, 97, 114]), { y with Kind_ := 6 })
    else if isB p [97, 114, 114] = true then some (conv (takeP p [97, 114, 114]), { y with Kind_ := 7 })
    else if isB p [114, 101, 116, 117, 114, 110] = true then some (conv (takeP p [114, 101, 116, 117, 114, 110]), { y with Kind_ := 13 })
    else if isB p [105, 102] = true then some (conv (takeP p [105, 102]), { y with Kind_ := 11 })
    else if isB p [102, 111, 114] = true then some (conv (takeP p [102, 111, 114]), { y with Kind_ := 12 })
    else some (conv p, y) := by
  have e : remontoireref10_P_statement_l1 n (c + 7) 0 (conv p) y = remontoireref10_P_statement_l1 n (c + 6 + 1) ((0 : Nat) : Int) (conv p) y := rfl
  rw [e, rst_step h hn hy (v := 0) rfl rfl (by decide) (by omega) (by omega), rst_step h hn hy (v := 1) (c := c + 5) rfl rfl (by decide) (by omega) (by omega), rst_step h hn hy (v := 2) (c := c + 4) rfl rfl (by decide) (by omega) (by omega), rst_step h hn hy (v := 3) (c := c + 3) rfl rfl (by decide) (by omega) (by omega), rst_step h hn hy (v := 4) (c := c + 2) rfl rfl (by decide) (by omega) (by omega), rst_step h hn hy (v := 5) (c := c + 1) rfl rfl (by decide) (by omega) (by omega)]
  have e6 : remontoireref10_P_statement_l1 n (c + 1) ((5 + 1 : Nat) : Int) (conv p) y = some (conv p, y) := by
    rw [remontoireref10_P_statement_l1]
    rw [if_neg (by decide)]
  rw [e6]
theorem pstatement_b {fc fl : T_parse_parser → T_parse_Node → Int → Option (T_parse_Node × T_parse_parser)} (hc : SimW n 11 0 fc) (hl : SimW n 12 7 fl) : SimS (n + 1) 45 (p_parse_parser_statement_b fc fl n) remontoireref10_P_statement := by
  intro p a h hpn hb
  have hn : 13 < n := by have := h.lf; omega
  have g1 := node_gd h
  have n1 := hpn.node
  have d1 : (nodeP p).e_ = 0 → p.e_ = 0 ∧ (nodeP p).nodes_ = p.nodes_ + 1 ∧ p.nodes_ < 16384 := node_nd hpn
  have q0 := h.ph
  have q1 := g1.ph
  have q1' := g1.inv.ph
  have l1 := g1.lf
  have hr : ∀ m, n + 1 ≤ m → ∃ d, m = d + 1 ∧ n ≤ d ∧ ∀ y, remontoireref10_P_statement_l1 d d 0 (conv (nodeP p)) ⟨0, (tokP p).At_, [], 0, 0⟩ = some y → remontoireref10_P_statement m (conv p) a = (
      (if (y.2.Kind_ == (5 : Int)) = true then some true else some (y.2.Kind_ == (6 : Int))).bind fun y81 =>
      if y81 = true then
        (remontoireref10_P_name d y.1).bind fun x87 =>
        (remontoireref10_P_need d x87.1 ([61] : Str)).bind fun x89 =>
        (remontoireref10_P_one d x89 ({ y.2 with Text_ := x87.2 } : T_remontoireref10_N) (IntKind.i64.wrap (a + (1 : Int)))).bind fun x90 =>
        some (x90.1, x90.2)
      else
        if (y.2.Kind_ == (7 : Int)) = true then
          (remontoireref10_P_name d y.1).bind fun x94 =>
          (remontoireref10_P_size d x94.1).bind fun x96 =>
          (remontoireref10_P_need d x96.1 ([59] : Str)).bind fun x98 =>
          some (x98, [({ y.2 with Text_ := x94.2, Num_ := x96.2 } : T_remontoireref10_N)])
        else
          if (y.2.Kind_ == (13 : Int)) = true then
            (remontoireref10_P_one d y.1 y.2 (IntKind.i64.wrap (a + (1 : Int)))).bind fun x101 =>
            some (x101.1, x101.2)
          else
            (if (y.2.Kind_ == (11 : Int)) = true then some true else some (y.2.Kind_ == (12 : Int))).bind fun y103 =>
            if y103 = true then
              (remontoireref10_P_within d y.1 y.2 a).bind fun x109 =>
              some (x109.1, x109.2)
            else
              (remontoireref10_P_plain d y.1 y.2 a).bind fun x111 =>
              some (x111.1, x111.2)) := fun m hm => by
    obtain ⟨d, rfl⟩ : ∃ d, m = d + 1 := ⟨m - 1, by omega⟩
    refine ⟨d, rfl, by omega, fun y hy => ?_⟩
    have e0 : remontoireref10_P_statement (d + 1) (conv p) a = remontoireref10_P_statement_b (remontoireref10_P_within d) d (conv p) a := rfl
    rw [e0]
    unfold remontoireref10_P_statement_b
    rw [rnode h, Option.bind_some]
    simp only
    rw [hy, Option.bind_some]
  unfold p_parse_parser_statement_b
  rw [node_eq h, Option.bind_some]
  generalize hq : nodeP p = q at g1 n1 d1 q1 q1' l1 hr ⊢
  have hL : ∀ d, n ≤ d → remontoireref10_P_statement_l1 d d 0 (conv q) ⟨0, (tokP p).At_, [], 0, 0⟩ =
      if isB q [108, 101, 116] = true then some (conv (takeP q [108, 101, 116]), ⟨5, (tokP p).At_, [], 0, 0⟩)
      else if isB q [118, 97, 114] = true then some (conv (takeP q [118, 97, 114]), ⟨6, (tokP p).At_, [], 0, 0⟩)
      else if isB q [97, 114, 114] = true then some (conv (takeP q [97, 114, 114]), ⟨7, (tokP p).At_, [], 0, 0⟩)
      else if isB q [114, 101, 116, 117, 114, 110] = true then some (conv (takeP q [114, 101, 116, 117, 114, 110]), ⟨13, (tokP p).At_, [], 0, 0⟩)
      else if isB q [105, 102] = true then some (conv (takeP q [105, 102]), ⟨11, (tokP p).At_, [], 0, 0⟩)
      else if isB q [102, 111, 114] = true then some (conv (takeP q [102, 111, 114]), ⟨12, (tokP p).At_, [], 0, 0⟩)
      else some (conv q, ⟨0, (tokP p).At_, [], 0, 0⟩) := fun d hd => by
    obtain ⟨c, hcc⟩ : ∃ c, d = c + 7 := ⟨d - 7, by omega⟩
    have := rst_eq g1.inv (show 13 < d by omega) (c := c) (y := ⟨0, (tokP p).At_, [], 0, 0⟩) rfl
    rw [← hcc] at this
    exact this
  have key : ∀ (s : Str), isB q s = true → q.e_ = 0 ∧ GA q (takeP q s) ∧ (takeP q s).e_ = 0 ∧ PN (takeP q s) ∧ (takeP q s).nodes_ = q.nodes_ ∧ Lf (takeP q s) + 16 ≤ Lf q ∧ ph (takeP q s) + 8 ≤ ph q ∧ p.e_ = 0 := by
    intro s hs
    obtain ⟨t1, t2, t3⟩ := (take_gd g1.inv (s := s)).2.1 hs
    exact ⟨t1, t2, t3, n1.of t2.toGd take_nd, take_nd, t2.lf t3, t2.ph.1 t1, g1.e0 t1⟩
  refine Tot.bind (P := fun y => match y with
    | .inl y => GB 7 2 0 p y.1 (sz y.2) ∧ ∀ m, n + 1 ≤ m → remontoireref10_P_statement m (conv p) a = some (conv (needP y.1 [59]), flatN y.2)
    | .inr y => GB 7 2 0 p y.2 (sz y.1) ∧ ∀ m, n + 1 ≤ m → remontoireref10_P_statement m (conv p) a = some (conv y.2, flatN y.1)) ?_ ?_
  · rw [take_eq g1.inv hn, Option.bind_some]
    by_cases k1 : isB q [108, 101, 116] = true
    · rw [if_pos k1]
      obtain ⟨t1, t2, t3, t4, t5, t6, t7, t8⟩ := key _ k1
      refine (pnamed t2.inv t4 (by omega)).bind fun r ⟨g, e⟩ => .some ⟨⟨g1.ga (t2.ga g.ga), g.pn, fun _ => ?_, fun hp => absurd t8 hp, fun hq => ?_⟩, fun m hm => ?_⟩
      · have := g.ok t3
        simp only; omega
      · have := g.ac hq
        have := (d1 t1).2.1
        simp only; omega
      · obtain ⟨d, rfl, hd, e0⟩ := hr m hm
        rw [e0 _ (by rw [hL d hd, if_pos k1])]
        exact e d [] 0 hd
    rw [if_neg k1, takeP_f (by simpa using k1)]
    simp only
    rw [take_eq g1.inv hn, Option.bind_some]
    by_cases k2 : isB q [118, 97, 114] = true
    · rw [if_pos k2]
      obtain ⟨t1, t2, t3, t4, t5, t6, t7, t8⟩ := key _ k2
      refine (pnamed t2.inv t4 (by omega)).bind fun r ⟨g, e⟩ => .some ⟨⟨g1.ga (t2.ga g.ga), g.pn, fun _ => ?_, fun hp => absurd t8 hp, fun hq => ?_⟩, fun m hm => ?_⟩
      · have := g.ok t3
        simp only; omega
      · have := g.ac hq
        have := (d1 t1).2.1
        simp only; omega
      · obtain ⟨d, rfl, hd, e0⟩ := hr m hm
        rw [e0 _ (by rw [hL d hd, if_neg k1, if_pos k2])]
        exact e d [] 0 hd
    rw [if_neg k2, takeP_f (by simpa using k2)]
    simp only
    rw [take_eq g1.inv hn, Option.bind_some]
    by_cases k3 : isB q [97, 114, 114] = true
    · rw [if_pos k3]
      obtain ⟨t1, t2, t3, t4, t5, t6, t7, t8⟩ := key _ k3
      have g5 := name_ga t2.inv
      have n5 : PN (nameP (takeP q [97, 114, 114])).2 := t4.of g5.toGd name_nd
      have d5 : (nameP (takeP q [97, 114, 114])).2.nodes_ = (takeP q [97, 114, 114]).nodes_ := name_nd
      have g6 := size_ga g5.inv
      have n6 : PN (sizeP (nameP (takeP q [97, 114, 114])).2).2 := n5.of g6.toGd size_nd
      have d6 : (sizeP (nameP (takeP q [97, 114, 114])).2).2.nodes_ = (nameP (takeP q [97, 114, 114])).2.nodes_ := size_nd
      have r5 := g5.ph
      have r5' := g5.inv.ph
      have r6 := g6.ph
      have r6' := g6.inv.ph
      simp only
      rw [name_eq t2.inv hn, Option.bind_some, size_eq g5.inv hn, Option.bind_some]
      have hsz : sz (⟨7, (tokP p).At_, (nameP (takeP q [97, 114, 114])).1, (sizeP (nameP (takeP q [97, 114, 114])).2).1, []⟩ : T_parse_Node) = 1 := by rw [sz_mk, szL_nil]; rfl
      refine .some ⟨⟨g1.ga (t2.ga (g5.ga g6)), n6, fun _ => ?_, fun hp => absurd t8 hp, fun hq => ?_⟩, fun m hm => ?_⟩
      · simp only; rw [hsz]; omega
      · have := (d1 t1).2.1
        simp only; rw [hsz]; omega
      · obtain ⟨d, rfl, hd, e0⟩ := hr m hm
        rw [e0 _ (by rw [hL d hd, if_neg k1, if_neg k2, if_pos k3])]
        have e5 : ((remontoireref10_P_name d (conv (takeP q [97, 114, 114]))).bind fun x94 => (remontoireref10_P_size d x94.1).bind fun x96 => (remontoireref10_P_need d x96.1 ([59] : Str)).bind fun x98 => some (x98, [({ (⟨7, (tokP p).At_, [], 0, 0⟩ : T_remontoireref10_N) with Text_ := x94.2, Num_ := x96.2 } : T_remontoireref10_N)])) = some (conv (needP (sizeP (nameP (takeP q [97, 114, 114])).2).2 [59]), [⟨7, (tokP p).At_, (nameP (takeP q [97, 114, 114])).1, (sizeP (nameP (takeP q [97, 114, 114])).2).1, 0⟩]) := by
          rw [rname t2.inv (by omega), Option.bind_some]
          simp only
          rw [rsize g5.inv (by omega), Option.bind_some]
          simp only
          rw [rneed g6.inv (by omega), Option.bind_some]
        rw [show flatN (⟨7, (tokP p).At_, (nameP (takeP q [97, 114, 114])).1, (sizeP (nameP (takeP q [97, 114, 114])).2).1, []⟩ : T_parse_Node) = [⟨7, (tokP p).At_, (nameP (takeP q [97, 114, 114])).1, (sizeP (nameP (takeP q [97, 114, 114])).2).1, 0⟩] by rw [flatN_mk, flatL_nil]; rfl]
        exact e5
    rw [if_neg k3, takeP_f (by simpa using k3)]
    simp only
    rw [take_eq g1.inv hn, Option.bind_some]
    by_cases k4 : isB q [114, 101, 116, 117, 114, 110] = true
    · rw [if_pos k4]
      obtain ⟨t1, t2, t3, t4, t5, t6, t7, t8⟩ := key _ k4
      refine (pexpr t2.inv t4 (by omega)).bind fun r ⟨g, e⟩ => ?_
      have r1 := g.ok t3
      have r1' := g.ga.inv.ph
      have hsz : sz (⟨13, (tokP p).At_, [], 0, [r.1]⟩ : T_parse_Node) = 1 + sz r.1 := by rw [sz_mk, szL_1]
      refine .some ⟨⟨g1.ga (t2.ga g.ga), g.pn, fun _ => ?_, fun hp => absurd t8 hp, fun hq => ?_⟩, fun m hm => ?_⟩
      · simp only; rw [hsz]; omega
      · have := g.ac hq
        have := (d1 t1).2.1
        simp only; rw [hsz]; omega
      · obtain ⟨d, rfl, hd, e0⟩ := hr m hm
        rw [e0 _ (by rw [hL d hd, if_neg k1, if_neg k2, if_neg k3, if_pos k4])]
        have e5 : ((remontoireref10_P_one d (conv (takeP q [114, 101, 116, 117, 114, 110])) ⟨13, (tokP p).At_, [], 0, 0⟩ (IntKind.i64.wrap (a + (1 : Int)))).bind fun x101 => some (x101.1, x101.2)) = some (conv (needP r.2 [59]), ⟨13, (tokP p).At_, [], 0, 1⟩ :: flatN r.1) := by
          rw [pone t2.inv g e hn hd, Option.bind_some]
        rw [show flatN (⟨13, (tokP p).At_, [], 0, [r.1]⟩ : T_parse_Node) = ⟨13, (tokP p).At_, [], 0, 1⟩ :: flatN r.1 by rw [flatN_mk, flatL_1]; rfl]
        exact e5
    rw [if_neg k4, takeP_f (by simpa using k4)]
    simp only
    rw [take_eq g1.inv hn, Option.bind_some]
    by_cases k5 : isB q [105, 102] = true
    · rw [if_pos k5]
      obtain ⟨t1, t2, t3, t4, t5, t6, t7, t8⟩ := key _ k5
      refine (hc _ ⟨8, (tokP p).At_, [], 0, []⟩ a t2.inv t4 (by omega)).bind fun r ⟨g, e⟩ => ?_
      have r1 := g.ok t3
      have r1' := g.ga.inv.ph
      refine .some ⟨⟨g1.ga (t2.ga g.ga), g.pn, fun _ => ?_, fun hp => absurd t8 hp, fun hq => ?_⟩, fun m hm => ?_⟩
      · simp only; omega
      · have := g.ac hq
        have := (d1 t1).2.1
        simp only; omega
      · obtain ⟨d, rfl, hd, e0⟩ := hr m hm
        rw [e0 _ (by rw [hL d hd, if_neg k1, if_neg k2, if_neg k3, if_neg k4, if_pos k5])]
        have e5 := e d [] 0 hd (fun _ => rfl)
        have e6 : ((remontoireref10_P_within d (conv (takeP q [105, 102])) ⟨11, (tokP p).At_, [], 0, 0⟩ a).bind fun x109 => some (x109.1, x109.2)) = some (conv r.2, flatN r.1) := by rw [e5, Option.bind_some]
        exact e6
    rw [if_neg k5, takeP_f (by simpa using k5)]
    simp only
    rw [take_eq g1.inv hn, Option.bind_some]
    by_cases k6 : isB q [102, 111, 114] = true
    · rw [if_pos k6]
      obtain ⟨t1, t2, t3, t4, t5, t6, t7, t8⟩ := key _ k6
      refine (hl _ ⟨8, (tokP p).At_, [], 0, []⟩ a t2.inv t4 (by omega)).bind fun r ⟨g, e⟩ => ?_
      have r1 := g.ok t3
      have r1' := g.ga.inv.ph
      refine .some ⟨⟨g1.ga (t2.ga g.ga), g.pn, fun _ => ?_, fun hp => absurd t8 hp, fun hq => ?_⟩, fun m hm => ?_⟩
      · simp only; omega
      · have := g.ac hq
        have := (d1 t1).2.1
        simp only; omega
      · obtain ⟨d, rfl, hd, e0⟩ := hr m hm
        rw [e0 _ (by rw [hL d hd, if_neg k1, if_neg k2, if_neg k3, if_neg k4, if_neg k5, if_pos k6])]
        have e5 := e d [] 0 hd (fun _ => rfl)
        have e6 : ((remontoireref10_P_within d (conv (takeP q [102, 111, 114])) ⟨12, (tokP p).At_, [], 0, 0⟩ a).bind fun x109 => some (x109.1, x109.2)) = some (conv r.2, flatN r.1) := by rw [e5, Option.bind_some]
        exact e6
    rw [if_neg k6, takeP_f (by simpa using k6)]
    simp only
    refine (pplain g1.inv n1 (x := ⟨8, (tokP p).At_, [], 0, []⟩) rfl (by omega)).bind fun r ⟨g, e⟩ => ?_
    have r1 := g.ok
    have r1e := g.er
    have r1g := g.ga.ph
    have r1' := g.ga.inv.ph
    refine .some ⟨⟨g1.ga g.ga, g.pn, fun _ => ?_, fun hp => ?_, fun hq => ?_⟩, fun m hm => ?_⟩
    · simp only; omega
    · simp only; omega
    · have := g.ac hq
      have := (d1 (g.ga.toGd.e0 hq)).2.1
      simp only; omega
    · obtain ⟨d, rfl, hd, e0⟩ := hr m hm
      rw [e0 _ (by rw [hL d hd, if_neg k1, if_neg k2, if_neg k3, if_neg k4, if_neg k5, if_neg k6])]
      have e5 := e d 0 [] 0 hd
      have e6 : ((remontoireref10_P_plain d (conv q) ⟨0, (tokP p).At_, [], 0, 0⟩ a).bind fun x111 => some (x111.1, x111.2)) = some (conv r.2, flatN r.1) := by rw [e5, Option.bind_some]
      exact e6
  · intro y hy
    refine Tot.elim (fun z e => ?_) fun z e => ?_
    · subst e
      obtain ⟨g, e1⟩ : GB 7 2 0 p z.1 (sz z.2) ∧ _ := hy
      have g9 := need_ga g.ga.inv (s := [59])
      have n9 : PN (needP z.1 [59]) := g.pn.of g9.toGd need_nd
      have d9 : (needP z.1 [59]).nodes_ = z.1.nodes_ := need_nd
      have r1 := g.ok
      have r1e := g.er
      have r1' := g.ga.inv.ph
      have r9 := g9.ph
      have r9' := g9.inv.ph
      rw [need_eq g.ga.inv hn, Option.bind_some]
      refine .some ⟨⟨g.ga.ga g9, n9, fun _ => ?_, fun hp => ?_, fun hq => ?_⟩, e1⟩
      · simp only; omega
      · simp only; omega
      · have := g.ac (g9.toGd.e0 hq)
        simp only; omega
    · subst e
      exact .some hy
theorem pgrp2_ok : ∀ n : Nat, SimS n 46 (p_parse_parser_block_grp n).1 remontoireref10_P_block ∧ SimS n 45 (p_parse_parser_block_grp n).2.1 remontoireref10_P_statement ∧ SimW n 11 0 (p_parse_parser_block_grp n).2.2.1 ∧ SimW n 12 7 (p_parse_parser_block_grp n).2.2.2 := by
  intro n
  induction n with
  | zero => refine ⟨fun p a h _ hb => ?_, fun p a h _ hb => ?_, fun p x a h _ hb => ?_, fun p x a h _ hb => ?_⟩ <;> (have := h.lf; omega)
  | succ n ih =>
    obtain ⟨i1, i2, i3, i4⟩ := ih
    exact ⟨pblock_b i2, pstatement_b i3 i4, pchoice_b i1, ploop_b i1⟩
theorem pblock (h : PI p) (hpn : PN p) {a : Int} (hb : Lf p + 46 ≤ n) : Tot (p_parse_parser_block n p a) fun r => GB 7 2 0 p r.2 (sz r.1) ∧ ∀ m, n ≤ m → remontoireref10_P_block m (conv p) a = some (conv r.2, flatN r.1) := (pgrp2_ok n).1 p a h hpn hb
end
end Go.Proofs.YtolhahlnccekcaaDoor.Abs
