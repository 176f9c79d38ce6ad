/-
  Statements and blocks: sizes, accounts, and the document's are the same.
-/
import Derived.Test.YtolhahlnccekcaaDoorPtPr5
namespace Go.Proofs.YtolhahlnccekcaaDoor.Abs
open Go.RowKit
set_option linter.unusedVariables false
set_option linter.unusedSimpArgs false
section
variable {n : Nat} {p : T_parse_parser}
theorem flen (x : T_parse_Node) : ((flatN x).length : Int) = sz x := rfl
theorem flenL (l : List T_parse_Node) : ((flatL l).length : Int) = szL l := rfl
theorem sz_mk (k a : Int) (t : Str) (u : Int) (l : List T_parse_Node) : sz ⟨k, a, t, u, l⟩ = 1 + szL l := sz_eq _
theorem szL_1 (x : T_parse_Node) : szL [x] = sz x := by rw [szL_cons, szL_nil]; omega
theorem szL_2 (x y : T_parse_Node) : szL [x, y] = sz x + sz y := by rw [szL_cons, szL_1]
theorem szL_3 (x y z : T_parse_Node) : szL [x, y, z] = sz x + sz y + sz z := by rw [szL_cons, szL_2]; omega
theorem flatL_1 (x : T_parse_Node) : flatL [x] = flatN x := by rw [flatL_cons, flatL_nil, List.append_nil]
theorem flatL_2 (x y : T_parse_Node) : flatL [x, y] = flatN x ++ flatN y := by rw [flatL_cons, flatL_1]
theorem flatL_3 (x y z : T_parse_Node) : flatL [x, y, z] = flatN x ++ (flatN y ++ flatN z) := by rw [flatL_cons, flatL_2]
/-- an expression, and a ';' -/
theorem pone (h : PI p) {e : T_parse_Node} {q : T_parse_parser} {a : Int} (g : GB 7 1 0 p q (sz e)) (he : ∀ m, n ≤ m + 1 → remontoireref10_P_level m (conv p) 0 a = some (conv q, flatN e)) (hn : 13 < n) {m : Nat} (hm : n ≤ m) (y : T_remontoireref10_N) :
    remontoireref10_P_one m (conv p) y a = some (conv (needP q [59]), { y with Kids_ := 1 } :: flatN e) := by
  have q0 := h.ph
  have q1 := g.ok
  have q2 := g.er
  have q3 := g.ga.inv.ph
  have := flen e
  unfold remontoireref10_P_one
  rw [he m (by omega), Option.bind_some, rneed g.ga.inv (by omega), Option.bind_some, need_of (by simp only [List.length_singleton]; omega)]
  rfl
theorem pnamed (h : PI p) (hpn : PN p) {x : T_parse_Node} {a : Int} (hb : Lf p + 30 ≤ n) : Tot (p_parse_parser_named n p x a) fun r => GB 7 2 1 p r.2 (sz r.1) ∧ ∀ m t k, n ≤ m →
    ((remontoireref10_P_name m (conv p)).bind fun x87 => (remontoireref10_P_need m x87.1 ([61] : Str)).bind fun x89 => (remontoireref10_P_one m x89 ({ (⟨x.Kind_, x.At_, t, x.Num_, k⟩ : T_remontoireref10_N) with Text_ := x87.2 } : T_remontoireref10_N) a).bind fun x90 => some (x90.1, x90.2)) = some (conv r.2, flatN r.1) := by
  have hn : 13 < n := by have := h.lf; omega
  have g1 := name_ga h
  have n1 : PN (nameP p).2 := hpn.of g1.toGd name_nd
  have d1 : (nameP p).2.nodes_ = p.nodes_ := name_nd
  have g2 := need_ga g1.inv (s := [61])
  have n2 : PN (needP (nameP p).2 [61]) := n1.of g2.toGd need_nd
  have d2 : (needP (nameP p).2 [61]).nodes_ = (nameP p).2.nodes_ := need_nd
  have q0 := h.ph
  have q1 := g1.ph
  have q1' := g1.inv.ph
  have q2 := g2.ph
  have q2' := g2.inv.ph
  have l1 := g1.toGd.lf
  have l2 := g2.toGd.lf
  unfold p_parse_parser_named
  rw [name_eq h hn, Option.bind_some, need_eq g1.inv hn, Option.bind_some]
  refine (pexpr g2.inv n2 (by omega)).bind fun s ⟨g3, e3⟩ => ?_
  have q3 := g3.ok
  have q3e := g3.er
  have q3' := g3.ga.inv.ph
  have q3g := g3.ga.ph
  have g4 := need_ga g3.ga.inv (s := [59])
  have n4 : PN (needP s.2 [59]) := g3.pn.of g4.toGd need_nd
  have d4 : (needP s.2 [59]).nodes_ = s.2.nodes_ := need_nd
  have q4 := g4.ph
  have q4' := g4.inv.ph
  rw [need_eq g3.ga.inv hn, Option.bind_some]
  have hsz : sz ({ x with Text_ := (nameP p).1, List_ := [s.1] } : T_parse_Node) = 1 + sz s.1 := by rw [sz_eq]; simp only [szL_1]
  refine .some ⟨⟨g1.ga (g2.ga (g3.ga.ga g4)), n4, fun _ => ?_, fun _ => ?_, fun hq => ?_⟩, fun m t k hm => ?_⟩
  · rw [hsz]; simp only; omega
  · rw [hsz]; omega
  · have := g3.ac (g4.toGd.e0 hq)
    rw [hsz]; simp only; omega
  · rw [rname h (by omega), Option.bind_some]
    simp only
    rw [rneed g1.inv (by omega), Option.bind_some, pone g2.inv g3 e3 hn hm, Option.bind_some, flatN_mk, flatL_1]; rfl
theorem pplain (h : PI p) (hpn : PN p) {x : T_parse_Node} (hx : x.Kind_ = 8) {a : Int} (hb : Lf p + 30 ≤ n) : Tot (p_parse_parser_plain n p x a) fun r => GB 7 2 1 p r.2 (sz r.1) ∧ ∀ m kk t k, n ≤ m → remontoireref10_P_plain m (conv p) ⟨kk, x.At_, t, x.Num_, k⟩ a = some (conv r.2, flatN r.1) := by
  have hn : 13 < n := by have := h.lf; omega
  have g1 := name_ga h
  have n1 : PN (nameP p).2 := hpn.of g1.toGd name_nd
  have d1 : (nameP p).2.nodes_ = p.nodes_ := name_nd
  have q0 := h.ph
  have q1 := g1.ph
  have q1' := g1.inv.ph
  have l1 := g1.toGd.lf
  have hr : ∀ m, n ≤ m → remontoireref10_P_name m (conv p) = some (conv (nameP p).2, (nameP p).1) := fun m hm => rname h (by omega)
  unfold p_parse_parser_plain
  rw [name_eq h hn, Option.bind_some, is_eq g1.inv hn, Option.bind_some]
  generalize nameP p = u at g1 n1 d1 q1 q1' l1 hr ⊢
  by_cases h7 : isB u.2 [40] = true
  · -- a call
    rw [if_pos h7]
    have he0 := (isB_text h7).2
    refine Tot.bind (P := fun y => ∃ q l, y = (q, { x with Kind_ := 10, Text_ := u.1, List_ := l }) ∧ GB 0 0 0 u.2 q (szL l) ∧ ∀ m, n ≤ m → remontoireref10_P_args m (conv u.2) (IntKind.i64.wrap (a + 2)) = some (conv q, flatL l, (l.length : Int))) ((pplist g1.inv n1 (by omega)).bind fun y ⟨g, e⟩ => .some ⟨_, _, rfl, g, e⟩) ?_
    rintro _ ⟨q, l, rfl, g, e⟩
    have g9 := need_ga g.ga.inv (s := [59])
    have n9 : PN (needP q [59]) := g.pn.of g9.toGd need_nd
    have d9 : (needP q [59]).nodes_ = q.nodes_ := need_nd
    have q8 := g.ok he0
    have q8' := g.ga.inv.ph
    have q9 := g9.ph
    have q9' := g9.inv.ph
    have hp0 := g1.toGd.e0 he0
    simp only
    rw [need_eq g.ga.inv hn, Option.bind_some]
    have hsz : sz ({ x with Kind_ := 10, Text_ := u.1, List_ := l } : T_parse_Node) = 1 + szL l := sz_eq _
    refine .some ⟨⟨g1.ga (g.ga.ga g9), n9, fun _ => ?_, fun hp => absurd hp0 hp, fun hq => ?_⟩, fun m kk t k hm => ?_⟩
    · rw [hsz]; simp only; omega
    · have := g.ac (g9.toGd.e0 hq)
      rw [hsz]; simp only; omega
    · have := flenL l
      unfold remontoireref10_P_plain
      rw [hr m hm, Option.bind_some]
      simp only
      rw [ris g1.inv (by omega), Option.bind_some, if_pos h7, e m hm, Option.bind_some]
      simp only
      rw [rneed g.ga.inv (by omega), Option.bind_some, need_of (by simp only [List.length_singleton]; omega), flatN_mk]; rfl
  · rw [if_neg h7]
    obtain ⟨t1, t2, t3⟩ := take_gd g1.inv (s := [91])
    have nt : PN (takeP u.2 [91]) := n1.of t1 take_nd
    have dt : (takeP u.2 [91]).nodes_ = u.2.nodes_ := take_nd
    rw [take_eq g1.inv hn, Option.bind_some]
    by_cases h8 : isB u.2 [91] = true
    · -- a part of an array
      rw [if_pos h8]
      obtain ⟨c1, c2, c3⟩ := t2 h8
      have qt := c2.ph
      have qt' := t1.inv.ph
      have lt := t1.lf
      have hp0 := g1.toGd.e0 c1
      simp only
      refine Tot.bind (P := fun y => ∃ q e1 q1 e2, y = (q, { x with Kind_ := 9, Text_ := u.1, List_ := [e1, e2] }) ∧ GB 7 1 0 (takeP u.2 [91]) q1 (sz e1) ∧ GB 7 1 0 (needP (needP q1 [93]) [61]) q (sz e2) ∧ (∀ m, n ≤ m + 1 → remontoireref10_P_level m (conv (takeP u.2 [91])) 0 (IntKind.i64.wrap (a + 2)) = some (conv q1, flatN e1)) ∧ (∀ m, n ≤ m + 1 → remontoireref10_P_level m (conv (needP (needP q1 [93]) [61])) 0 (IntKind.i64.wrap (a + 1)) = some (conv q, flatN e2))) ?_ ?_
      · refine (pexpr t1.inv nt (by omega)).bind fun s ⟨g3, e3⟩ => ?_
        have k1 := need_ga g3.ga.inv (s := [93])
        have k2 := need_ga k1.inv (s := [61])
        have lk1 := k1.toGd.lf
        have lk2 := k2.toGd.lf
        have lg3 := g3.ga.toGd.lf
        rw [need_eq g3.ga.inv hn, Option.bind_some, need_eq k1.inv hn, Option.bind_some]
        refine (pexpr k2.inv ((g3.pn.of k1.toGd need_nd).of k2.toGd need_nd) (by omega)).bind fun v ⟨g5, e5⟩ => Tot.need (by simp) (.some ⟨_, s.1, s.2, v.1, rfl, g3, g5, e3, e5⟩)
      · rintro _ ⟨q, e1, q1, e2, rfl, g3, g5, e3, e5⟩
        have k1 := need_ga g3.ga.inv (s := [93])
        have k2 := need_ga k1.inv (s := [61])
        have g9 := need_ga g5.ga.inv (s := [59])
        have n9 : PN (needP q [59]) := g5.pn.of g9.toGd need_nd
        have d9 : (needP q [59]).nodes_ = q.nodes_ := need_nd
        have dk1 : (needP q1 [93]).nodes_ = q1.nodes_ := need_nd
        have dk2 : (needP (needP q1 [93]) [61]).nodes_ = (needP q1 [93]).nodes_ := need_nd
        have r3 := g3.ok c3
        have r3' := g3.ga.inv.ph
        have rk1 := k1.ph
        have rk1' := k1.inv.ph
        have rk2 := k2.ph
        have rk2' := k2.inv.ph
        have r5 := g5.ok
        have r5e := g5.er
        have r5' := g5.ga.inv.ph
        have r5g := g5.ga.ph
        have r9 := g9.ph
        have r9' := g9.inv.ph
        simp only
        rw [need_eq g5.ga.inv hn, Option.bind_some]
        have hsz : sz ({ x with Kind_ := 9, Text_ := u.1, List_ := [e1, e2] } : T_parse_Node) = 1 + (sz e1 + sz e2) := by rw [sz_eq]; simp only [szL_2]
        refine .some ⟨⟨g1.ga (c2.ga (g3.ga.ga (k1.ga (k2.ga (g5.ga.ga g9))))), n9, fun _ => ?_, fun hp => absurd hp0 hp, fun hq => ?_⟩, fun m kk t k hm => ?_⟩
        · rw [hsz]; simp only; omega
        · have h1 := g5.ac (g9.toGd.e0 hq)
          have h2 := g3.ac (k1.toGd.e0 (k2.toGd.e0 (g5.ga.toGd.e0 (g9.toGd.e0 hq))))
          rw [hsz]; simp only; omega
        · have f1 := flen e1
          have f2 := flen e2
          unfold remontoireref10_P_plain
          rw [hr m hm, Option.bind_some]
          simp only
          rw [ris g1.inv (by omega), Option.bind_some, if_neg h7, rtake g1.inv (by omega), Option.bind_some]
          simp only
          rw [h8, if_neg (by decide), e3 m (by omega), Option.bind_some]
          simp only
          rw [rneed g3.ga.inv (by omega), Option.bind_some, rneed k1.inv (by omega), Option.bind_some, e5 m (by omega), Option.bind_some]
          simp only
          rw [rneed g5.ga.inv (by omega), Option.bind_some, need_of (by simp only [List.length_singleton]; omega), need_of (by simp only [List.length_append, List.length_singleton]; omega), flatN_mk, flatL_2, List.append_assoc]; rfl
    · -- a variable
      rw [if_neg h8]
      have h8' : isB u.2 [91] = false := by simpa using h8
      rw [takeP_f h8']
      simp only
      refine Tot.bind (P := fun y => ∃ q e1, y = (q, { x with Text_ := u.1, List_ := [e1] }) ∧ GB 7 1 0 (needP u.2 [61]) q (sz e1) ∧ (∀ m, n ≤ m + 1 → remontoireref10_P_level m (conv (needP u.2 [61])) 0 (IntKind.i64.wrap (a + 1)) = some (conv q, flatN e1))) ?_ ?_
      · have k1 := need_ga g1.inv (s := [61])
        have lk1 := k1.toGd.lf
        rw [need_eq g1.inv hn, Option.bind_some]
        exact (pexpr k1.inv (n1.of k1.toGd need_nd) (by omega)).bind fun v ⟨g5, e5⟩ => .some ⟨_, v.1, rfl, g5, e5⟩
      · rintro _ ⟨q, e1, rfl, g5, e5⟩
        have k1 := need_ga g1.inv (s := [61])
        have g9 := need_ga g5.ga.inv (s := [59])
        have n9 : PN (needP q [59]) := g5.pn.of g9.toGd need_nd
        have d9 : (needP q [59]).nodes_ = q.nodes_ := need_nd
        have dk1 : (needP u.2 [61]).nodes_ = u.2.nodes_ := need_nd
        have rk1 := k1.ph
        have rk1' := k1.inv.ph
        have r5 := g5.ok
        have r5e := g5.er
        have r5' := g5.ga.inv.ph
        have r5g := g5.ga.ph
        have r9 := g9.ph
        have r9' := g9.inv.ph
        simp only
        rw [need_eq g5.ga.inv hn, Option.bind_some]
        have hsz : sz ({ x with Text_ := u.1, List_ := [e1] } : T_parse_Node) = 1 + sz e1 := by rw [sz_eq]; simp only [szL_1]
        refine .some ⟨⟨g1.ga (k1.ga (g5.ga.ga g9)), n9, fun _ => ?_, fun hp => ?_, fun hq => ?_⟩, fun m kk t k hm => ?_⟩
        · rw [hsz]; simp only; omega
        · rw [hsz]; omega
        · have h1 := g5.ac (g9.toGd.e0 hq)
          rw [hsz]; simp only; omega
        · unfold remontoireref10_P_plain
          rw [hr m hm, Option.bind_some]
          simp only
          rw [ris g1.inv (by omega), Option.bind_some, if_neg h7, rtake g1.inv (by omega), Option.bind_some]
          simp only
          rw [h8', if_pos (by decide), takeP_f h8', rneed g1.inv (by omega), Option.bind_some, pone k1.inv g5 e5 hn hm, Option.bind_some, flatN_mk, flatL_1, hx]; rfl
end
end Go.Proofs.YtolhahlnccekcaaDoor.Abs
