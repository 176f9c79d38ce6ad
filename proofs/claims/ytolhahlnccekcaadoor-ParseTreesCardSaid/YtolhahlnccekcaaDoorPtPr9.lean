/-
  Functions, and the whole: the document's are the same.
-/
import Derived.Test.YtolhahlnccekcaaDoorPtPr8
namespace Go.Proofs.YtolhahlnccekcaaDoor.Abs
open Go.RowKit
set_option linter.unusedVariables false
set_option linter.unusedSimpArgs false
def tailP (n : Nat) (q : T_parse_parser) (at0 n0 n2 n4 : Int) : Option (T_parse_Node × T_parse_parser) :=
  (p_parse_parser_need n q ([102, 110] : Str)).bind fun x8 =>
  (p_parse_parser_name n x8).bind fun x10 =>
  (p_parse_parser_list__param n x10.2).bind fun x12 =>
  (p_parse_parser_take n x12.2 ([45, 62] : Str)).bind fun x14 =>
  if x14.1 = true then
    (p_parse_parser_take n x14.2 ([117, 51, 50] : Str)).bind fun x17 =>
    if x17.1 = true then
      (p_parse_parser_block n x17.2 (1 : Int)).bind fun x20 =>
      need (x12.1.length + [x20.1].length ≤ 1073741824) <|
      some (⟨2, at0, x10.1, n2, x12.1 ++ [x20.1]⟩, x20.2)
    else
      (p_parse_parser_need n x17.2 ([117, 54, 52] : Str)).bind fun x25 =>
      (p_parse_parser_block n x25 (1 : Int)).bind fun x27 =>
      need (x12.1.length + [x27.1].length ≤ 1073741824) <|
      some (⟨2, at0, x10.1, n4, x12.1 ++ [x27.1]⟩, x27.2)
  else
    (p_parse_parser_block n x14.2 (1 : Int)).bind fun x32 =>
    need (x12.1.length + [x32.1].length ≤ 1073741824) <|
    some (⟨2, at0, x10.1, n0, x12.1 ++ [x32.1]⟩, x32.2)
def tailD (n : Nat) (q : T_remontoireref10_P) (at0 n0 n2 n4 : Int) : Option (T_remontoireref10_P × List T_remontoireref10_N) :=
  (remontoireref10_P_need n q ([102, 110] : Str)).bind fun x9 =>
  (remontoireref10_P_name n x9).bind fun x10 =>
  (remontoireref10_P_params n x10.1).bind fun x13 =>
  (remontoireref10_P_take n x13.1 ([45, 62] : Str)).bind fun x15 =>
  if x15.2 = true then
    (remontoireref10_P_take n x15.1 ([117, 51, 50] : Str)).bind fun x18 =>
    if x18.2 = true then
      (remontoireref10_P_block n x18.1 (1 : Int)).bind fun x21 =>
      need ([(⟨2, at0, x10.2, n2, IntKind.i64.wrap (x13.2.2 + (1 : Int))⟩ : T_remontoireref10_N)].length + x13.2.1.length ≤ 1073741824) <|
      need (([(⟨2, at0, x10.2, n2, IntKind.i64.wrap (x13.2.2 + (1 : Int))⟩ : T_remontoireref10_N)] ++ x13.2.1).length + x21.2.length ≤ 1073741824) <|
      some (x21.1, (([(⟨2, at0, x10.2, n2, IntKind.i64.wrap (x13.2.2 + (1 : Int))⟩ : T_remontoireref10_N)] ++ x13.2.1) ++ x21.2))
    else
      (remontoireref10_P_need n x18.1 ([117, 54, 52] : Str)).bind fun x27 =>
      (remontoireref10_P_block n x27 (1 : Int)).bind fun x29 =>
      need ([(⟨2, at0, x10.2, n4, IntKind.i64.wrap (x13.2.2 + (1 : Int))⟩ : T_remontoireref10_N)].length + x13.2.1.length ≤ 1073741824) <|
      need (([(⟨2, at0, x10.2, n4, IntKind.i64.wrap (x13.2.2 + (1 : Int))⟩ : T_remontoireref10_N)] ++ x13.2.1).length + x29.2.length ≤ 1073741824) <|
      some (x29.1, (([(⟨2, at0, x10.2, n4, IntKind.i64.wrap (x13.2.2 + (1 : Int))⟩ : T_remontoireref10_N)] ++ x13.2.1) ++ x29.2))
  else
    (remontoireref10_P_block n x15.1 (1 : Int)).bind fun x35 =>
    need ([(⟨2, at0, x10.2, n0, IntKind.i64.wrap (x13.2.2 + (1 : Int))⟩ : T_remontoireref10_N)].length + x13.2.1.length ≤ 1073741824) <|
    need (([(⟨2, at0, x10.2, n0, IntKind.i64.wrap (x13.2.2 + (1 : Int))⟩ : T_remontoireref10_N)] ++ x13.2.1).length + x35.2.length ≤ 1073741824) <|
    some (x35.1, (([(⟨2, at0, x10.2, n0, IntKind.i64.wrap (x13.2.2 + (1 : Int))⟩ : T_remontoireref10_N)] ++ x13.2.1) ++ x35.2))
section
variable {n : Nat} {p : T_parse_parser}
set_option maxHeartbeats 8000000 in
theorem ptail (h : PI p) (hpn : PN p) (hb : Lf p + 46 ≤ n) (at0 n0 n2 n4 : Int) : Tot (tailP n p at0 n0 n2 n4) fun r => GB 0 3 1 p r.2 (sz r.1) ∧ ∀ m, n ≤ m → tailD m (conv p) at0 n0 n2 n4 = some (conv r.2, flatN r.1) := by
  have hn : 13 < n := by have := h.lf; omega
  have q0 := h.ph
  have g1 := need_ga h (s := [102, 110])
  have n1 : PN (needP p [102, 110]) := hpn.of g1.toGd need_nd
  have d1 : (needP p [102, 110]).nodes_ = p.nodes_ := need_nd
  have g2 := name_ga g1.inv
  have n2' : PN (nameP (needP p [102, 110])).2 := n1.of g2.toGd name_nd
  have d2 : (nameP (needP p [102, 110])).2.nodes_ = (needP p [102, 110]).nodes_ := name_nd
  have q1 := g1.ph
  have q1' := g1.inv.ph
  have q2 := g2.ph
  have q2' := g2.inv.ph
  have g12 := g1.ga g2
  have l2 := g12.toGd.lf
  have hr : ∀ m, n ≤ m → remontoireref10_P_need m (conv p) ([102, 110] : Str) = some (conv (needP p [102, 110])) ∧ remontoireref10_P_name m (conv (needP p [102, 110])) = some (conv (nameP (needP p [102, 110])).2, (nameP (needP p [102, 110])).1) := fun m hm => ⟨rneed h (by omega), rname g1.inv (by omega)⟩
  unfold tailP
  rw [need_eq h hn, Option.bind_some, name_eq g1.inv hn, Option.bind_some]
  generalize nameP (needP p [102, 110]) = u at g2 n2' d2 q2 q2' g12 l2 hr ⊢
  refine (pparams g12.inv n2' hn (by unfold Lf at hb l2; have := g12.toGd.len; have := h.hi; have := g12.inv.hi; omega)).bind fun x ⟨g3, e3⟩ => ?_
  have q3 := g3.ok
  have q3e := g3.er
  have q3g := g3.ga.ph
  have q3' := g3.ga.inv.ph
  have l3 := g3.ga.toGd.lf
  have fx := flenL x.1
  have lx := szL_ge x.1
  have hw : IntKind.i64.wrap ((x.1.length : Int) + 1) = (x.1.length : Int) + 1 := wrap64 (by omega) (by omega)
  obtain ⟨g4, t2, t3⟩ := take_gd g3.ga.inv (s := [45, 62])
  have n4' : PN (takeP x.2 [45, 62]) := g3.pn.of g4 take_nd
  have d4 : (takeP x.2 [45, 62]).nodes_ = x.2.nodes_ := take_nd
  have q4 := g4.ph
  have q4' := g4.inv.ph
  have l4 := g4.lf
  rw [take_eq g3.ga.inv hn, Option.bind_some]
  -- the block, from a state behind
  have fin : ∀ (s : T_parse_parser) (k : Int), Gd (takeP x.2 [45, 62]) s → PN s → (s.nodes_ = (takeP x.2 [45, 62]).nodes_) → Tot ((p_parse_parser_block n s 1).bind fun y => need (x.1.length + [y.1].length ≤ 1073741824) <| some ((⟨2, at0, u.1, k, x.1 ++ [y.1]⟩, y.2) : T_parse_Node × T_parse_parser)) fun r => GB 0 3 1 p r.2 (sz r.1) ∧ ∀ m, n ≤ m →
      ((remontoireref10_P_block m (conv s) (1 : Int)).bind fun x35 =>
        need ([(⟨2, at0, u.1, k, (x.1.length : Int) + 1⟩ : T_remontoireref10_N)].length + (flatL x.1).length ≤ 1073741824) <|
        need (([(⟨2, at0, u.1, k, (x.1.length : Int) + 1⟩ : T_remontoireref10_N)] ++ flatL x.1).length + x35.2.length ≤ 1073741824) <|
        some (x35.1, (([(⟨2, at0, u.1, k, (x.1.length : Int) + 1⟩ : T_remontoireref10_N)] ++ flatL x.1) ++ x35.2))) = some (conv r.2, flatN r.1) := by
    intro s k gs ns ds
    have ls := gs.lf
    have qs := gs.ph
    have qs' := gs.inv.ph
    refine (pblock gs.inv ns (a := 1) (by omega)).bind fun y ⟨g5, e5⟩ => ?_
    have q5 := g5.ok
    have q5e := g5.er
    have q5g := g5.ga.ph
    have q5' := g5.ga.inv.ph
    have fy := flen y.1
    refine Tot.need (by simp only [List.length_singleton]; omega) (.some ?_)
    have hsz : sz (⟨2, at0, u.1, k, x.1 ++ [y.1]⟩ : T_parse_Node) = 1 + (szL x.1 + sz y.1) := by rw [sz_mk, szL_app, szL_1]
    refine ⟨⟨g12.ga (g3.ga.ga ((g4.trans gs).ga g5.ga)), g5.pn, fun _ => ?_, fun hp => ?_, fun hq => ?_⟩, fun m hm => ?_⟩
    · simp only; rw [hsz]; omega
    · simp only; rw [hsz]; omega
    · have h5 := g5.ac hq
      have hs0 := g5.ga.toGd.e0 hq
      have h3 := g3.ac (g4.e0 (gs.e0 hs0))
      simp only; rw [hsz]; omega
    · rw [e5 m hm, Option.bind_some, need_of (by simp only [List.length_singleton]; omega), need_of (by simp only [List.length_append, List.length_singleton]; omega), flatN_mk, flatL_app, flatL_1, List.length_append, List.length_singleton, List.append_assoc]
      rfl
  have hr2 : ∀ m, n ≤ m → tailD m (conv p) at0 n0 n2 n4 = (if isB x.2 [45, 62] = true then
      (remontoireref10_P_take m (conv (takeP x.2 [45, 62])) ([117, 51, 50] : Str)).bind fun x18 =>
      if x18.2 = true then
        (remontoireref10_P_block m x18.1 (1 : Int)).bind fun x35 =>
        need ([(⟨2, at0, u.1, n2, (x.1.length : Int) + 1⟩ : T_remontoireref10_N)].length + (flatL x.1).length ≤ 1073741824) <|
        need (([(⟨2, at0, u.1, n2, (x.1.length : Int) + 1⟩ : T_remontoireref10_N)] ++ flatL x.1).length + x35.2.length ≤ 1073741824) <|
        some (x35.1, (([(⟨2, at0, u.1, n2, (x.1.length : Int) + 1⟩ : T_remontoireref10_N)] ++ flatL x.1) ++ x35.2))
      else
        (remontoireref10_P_need m x18.1 ([117, 54, 52] : Str)).bind fun x27 =>
        (remontoireref10_P_block m x27 (1 : Int)).bind fun x35 =>
        need ([(⟨2, at0, u.1, n4, (x.1.length : Int) + 1⟩ : T_remontoireref10_N)].length + (flatL x.1).length ≤ 1073741824) <|
        need (([(⟨2, at0, u.1, n4, (x.1.length : Int) + 1⟩ : T_remontoireref10_N)] ++ flatL x.1).length + x35.2.length ≤ 1073741824) <|
        some (x35.1, (([(⟨2, at0, u.1, n4, (x.1.length : Int) + 1⟩ : T_remontoireref10_N)] ++ flatL x.1) ++ x35.2))
    else
      (remontoireref10_P_block m (conv (takeP x.2 [45, 62])) (1 : Int)).bind fun x35 =>
        need ([(⟨2, at0, u.1, n0, (x.1.length : Int) + 1⟩ : T_remontoireref10_N)].length + (flatL x.1).length ≤ 1073741824) <|
        need (([(⟨2, at0, u.1, n0, (x.1.length : Int) + 1⟩ : T_remontoireref10_N)] ++ flatL x.1).length + x35.2.length ≤ 1073741824) <|
        some (x35.1, (([(⟨2, at0, u.1, n0, (x.1.length : Int) + 1⟩ : T_remontoireref10_N)] ++ flatL x.1) ++ x35.2))) := fun m hm => by
    unfold tailD
    rw [(hr m hm).1, Option.bind_some, (hr m hm).2, Option.bind_some]
    simp only
    rw [e3 m hm, Option.bind_some]
    simp only
    rw [rtake g3.ga.inv (by omega), Option.bind_some]
    simp only
    rw [hw]
  by_cases hA : isB x.2 [45, 62] = true
  · rw [if_pos hA]
    obtain ⟨t1, _, _⟩ := take_gd g4.inv (s := [117, 51, 50])
    simp only
    rw [take_eq g4.inv hn, Option.bind_some]
    by_cases hB : isB (takeP x.2 [45, 62]) [117, 51, 50] = true
    · rw [if_pos hB]
      refine (fin _ n2 t1 (n4'.of t1 take_nd) take_nd).mono fun r ⟨g, e⟩ => ⟨g, fun m hm => ?_⟩
      rw [hr2 m hm, if_pos hA, rtake g4.inv (by omega), Option.bind_some, if_pos hB]
      exact e m hm
    · rw [if_neg hB]
      have k1 := need_ga t1.inv (s := [117, 54, 52])
      simp only
      rw [need_eq t1.inv hn, Option.bind_some]
      refine (fin _ n4 (t1.trans k1.toGd) ((n4'.of t1 take_nd).of k1.toGd need_nd) (need_nd.trans take_nd)).mono fun r ⟨g, e⟩ => ⟨g, fun m hm => ?_⟩
      rw [hr2 m hm, if_pos hA, rtake g4.inv (by omega), Option.bind_some, if_neg hB]
      simp only
      rw [rneed t1.inv (by omega), Option.bind_some]
      exact e m hm
  · rw [if_neg hA]
    refine (fin _ n0 (.refl g4.inv) n4' rfl).mono fun r ⟨g, e⟩ => ⟨g, fun m hm => ?_⟩
    rw [hr2 m hm, if_neg hA]
    exact e m hm
end
end Go.Proofs.YtolhahlnccekcaaDoor.Abs
