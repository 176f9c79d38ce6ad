/-
  A derivation is parsed, or a limit is met: expressions.
-/
import Derived.Test.YtolhahlnccekcaaDoorPwDer4
namespace Go.Proofs.YtolhahlnccekcaaDoor.Abs
open Go.RowKit
set_option linter.unusedVariables false
set_option linter.unusedSimpArgs false
/-- no error yet, at a place of the tokens, with a number of nodes -/
structure Lv (p : T_parse_parser) (ts : List Tok) (N : Int) : Prop where
  pi : PI p
  e0 : p.e_ = 0
  rs : rest p = ts
  nd : p.nodes_ = N
  lo : 0 ≤ N
  hi : N ≤ 16384
/-- a limit was met -/
def Lim (D N : Int) (q : T_parse_parser) : Prop := (q.e_ = 136 ∧ 16384 < N) ∨ (q.e_ = 111 ∧ 64 < D)
def Rs (D N : Int) (us : List Tok) (q : T_parse_parser) (ok : Prop) : Prop := (Lv q us N ∧ ok) ∨ Lim D N q
section
variable {p q : T_parse_parser} {t : Tok} {ts us : List Tok} {N M D d : Int} {s : Str} {n m : Nat}
theorem Lim.ne (h : Lim D N q) : q.e_ ≠ 0 := by
  rcases h with h | h <;> (rw [h.1]; decide)
theorem Lim.mono (h : Lim D N q) (k : N ≤ M) : Lim D M q := by
  rcases h with h | h
  · exact .inl ⟨h.1, by omega⟩
  · exact .inr h
theorem Lim.gd (h : Lim D N q) (g : Gd q p) : Lim D N p := by
  have := (g.err' h.ne).1
  rcases h with h | h
  · exact .inl ⟨this.trans h.1, h.2⟩
  · exact .inr ⟨this.trans h.1, h.2⟩
theorem Rs.mono {ok ok' : Prop} (h : Rs D N us q ok) (k : ok → ok') : Rs D N us q ok' := by
  rcases h with ⟨h1, h2⟩ | h
  · exact .inl ⟨h1, k h2⟩
  · exact .inr h
theorem isN.not (h : isN t) : ¬ isT t s := by
  rintro ⟨h1, h2 | ⟨h2, h3⟩⟩
  · have := h.1; omega
  · rw [← h1, h.2] at h3; cases h3
theorem num_not (h : t.Kind_ = 2) : ¬ isT t s := by
  rintro ⟨h1, h2 | ⟨h2, h3⟩⟩ <;> omega
theorem isT.two {s' : Str} (h : isT t s) (k : isT t s') : s = s' := h.1.symm.trans k.1
theorem hdT_cons : hdT (t :: ts) s ↔ isT t s := by
  constructor
  · rintro ⟨u, r, e, h⟩; cases e; exact h
  · exact fun h => ⟨_, _, rfl, h⟩
theorem Lv.tok (h : Lv p (t :: ts) N) : tokP p = t := by
  have := h.rs
  rw [rest_cons h.pi] at this
  injection this
theorem Lv.isB (h : Lv p (t :: ts) N) (ht : isT t s) : isB p s = true := isB_of h.e0 (by rw [h.tok]; exact ht)
theorem Lv.nB (h : Lv p ts N) (hn : ¬ hdT ts s) : Abs.isB p s = false := by
  rw [Bool.eq_false_iff]
  intro hb
  exact hn (by rw [← h.rs]; exact (hdT_rest h.pi h.e0).2 hb)
theorem Lv.nB' (h : Lv p (t :: ts) N) (hn : ¬ isT t s) : Abs.isB p s = false := h.nB fun k => hn (hdT_cons.1 k)
theorem Lv.take (h : Lv p (t :: ts) N) (ht : isT t s) : Lv (takeP p s) ts N := by
  have hb := h.isB ht
  obtain ⟨g1, g2, _⟩ := take_gd h.pi (s := s)
  refine ⟨g1.inv, (g2 hb).2.2, ?_, take_nd.trans h.nd, h.lo, h.hi⟩
  have := h.rs
  rw [take_rest h.pi hb] at this
  injection this
theorem need_take (hb : isB p s = true) : needP p s = takeP p s := by unfold needP takeP; rw [if_pos hb, if_pos hb]
theorem Lv.need (h : Lv p (t :: ts) N) (ht : isT t s) : Lv (needP p s) ts N := by
  rw [need_take (h.isB ht)]; exact h.take ht
theorem Lv.name (h : Lv p (t :: ts) N) (ht : isN t) : (nameP p).1 = t.Text_ ∧ Lv (nameP p).2 ts N := by
  have hb : nameB p = false := by
    unfold nameB
    rw [h.tok, h.e0, ht.1, ht.2]; rfl
  have e : nameP p = ((tokP p).Text_, advP p) := by unfold nameP; rw [hb]; rfl
  have g := (name_ga h.pi).inv
  have hr := h.rs
  rw [adv_rest h.pi] at hr
  rw [e] at g ⊢
  refine ⟨by rw [h.tok], g, h.e0, ?_, h.nd, h.lo, h.hi⟩
  injection hr
theorem Lv.num (h : Lv p (t :: ts) N) (ht : t.Kind_ = 2) : (numP p).1 = t.Num_ ∧ Lv (numP p).2 ts N := by
  have hb : numB p = false := by
    unfold numB
    rw [h.tok, h.e0, ht]; rfl
  have e : numP p = ((tokP p).Num_, advP p) := by unfold numP; rw [hb]; rfl
  have g := (num_ga h.pi).inv
  have hr := h.rs
  rw [adv_rest h.pi] at hr
  rw [e] at g ⊢
  refine ⟨by rw [h.tok], g, h.e0, ?_, h.nd, h.lo, h.hi⟩
  injection hr
theorem Lv.cnt (h : Lv p ts N) : (cntP p).nodes_ = N + 1 := by
  have h1 := h.lo
  have h2 := h.hi
  show IntKind.i64.wrap (p.nodes_ + 1) = _
  rw [h.nd, wrap64 (by omega) (by omega)]
theorem Lv.node (h : Lv p ts N) (hN : N < 16384) : Lv (nodeP p) ts (N + 1) := by
  have h1 := h.lo
  have e : nodeP p = cntP p := by
    unfold nodeP
    rw [h.cnt, if_neg (by omega)]
  rw [e]
  exact ⟨h.pi.cnt, h.e0, h.rs, h.cnt, by omega, by omega⟩
theorem Lv.full (h : Lv p ts N) (hN : ¬ N < 16384) : nodeP p = cntP (failP p 136) ∧ (failP p 136).e_ = 136 := by
  have h1 := h.hi
  have e0 := h.e0
  constructor
  · unfold nodeP
    rw [h.cnt, if_pos (by omega)]
    unfold failP
    rw [if_pos e0, if_pos (show (cntP p).e_ = 0 from e0)]; rfl
  · unfold failP
    rw [if_pos e0]
theorem node_dead (he : q.e_ ≠ 0) : nodeP q = cntP q := by
  unfold nodeP
  split
  · unfold failP
    rw [if_neg (show ¬ (cntP q).e_ = 0 from he)]
  · rfl
theorem isB_dead (he : q.e_ ≠ 0) : isB q s = false := by
  unfold isB
  rw [show (q.e_ == 0) = false by simpa using he]; rfl
theorem take_dead (he : q.e_ ≠ 0) : takeP q s = q := takeP_f (isB_dead he)
theorem need_dead (he : q.e_ ≠ 0) : needP q s = q := by
  unfold needP failP
  rw [isB_dead he, if_neg he]; rfl
theorem sign_dead {l : List Str} (he : q.e_ ≠ 0) : signP q l = [] := Classical.byContradiction fun h => he (signP_e h)
theorem Rs.need {u : Tok} {ok : Prop} (h : Rs D N (u :: us) q ok) (hu : isT u s) : Rs D N us (needP q s) ok := by
  rcases h with ⟨h1, h2⟩ | h
  · exact .inl ⟨h1.need hu, h2⟩
  · rw [need_dead h.ne]; exact .inr h
theorem sign_is {l : List Str} (h : Lv p (t :: ts) N) (hs : s ∈ l) (hne : s ≠ []) (ht : isT t s) : signP p l = s := by
  unfold signP
  cases h5 : l.find? (fun y => decide (y ≠ []) && isB p y) with
  | none =>
    have := List.find?_eq_none.1 h5 s hs
    rw [h.isB ht] at this
    simp [hne] at this
  | some y =>
    have h6 := List.find?_some h5
    simp only [Bool.and_eq_true] at h6
    have h7 := (isB_isT h6.2).2
    rw [h.tok] at h7
    exact h7.two ht
theorem sign_none {l : List Str} (h : Lv p ts N) (hn : ∀ s ∈ l, s ≠ [] → ¬ hdT ts s) : signP p l = [] := by
  apply Classical.byContradiction
  intro hs
  obtain ⟨h1, h2⟩ := sign_in hs
  exact hn _ h1 hs (by rw [← h.rs]; exact (hdT_rest h.pi h.e0).2 h2)
/-! an operand's ways -/
theorem op_deep (h : PI p) (he : p.e_ = 0) (hd : 64 < d) (hb : Lf p + 21 ≤ (n : Int)) : Tot (p_parse_parser_operand n p d) fun r => GA p r.2 ∧ r.2.e_ = 111 := by
  obtain ⟨m, rfl⟩ : ∃ m, n = m + 1 := ⟨n - 1, by have := h.lf; omega⟩
  have g1 := deep_gd h (a := d)
  have l1 := g1.lf
  have e1 : (deepP p d).e_ = 111 := by
    unfold deepP failP
    rw [if_pos hd, if_pos he]
  have h2 := (grp_ok (m + 1)).2.2.2.1 (deepP p d) d g1.inv (by omega)
  have e : p_parse_parser_operand (m + 1) p d = (p_parse_parser_list__operand_1_grp (m + 1)).2.2.2.1 (deepP p d) d := operand_deep h
  rw [e]
  exact h2.mono fun r g => ⟨g1.ga g, (g.toGd.err' (by rw [e1]; decide)).1.trans e1⟩
theorem op_full (h : Lv p ts N) (hN : ¬ N < 16384) (hd : ¬ 64 < d) (h5 : isB p [40] = false) (hb : Lf p + 21 ≤ (n : Int)) : Tot (p_parse_parser_operand n p d) fun r => GA p r.2 ∧ r.2.e_ = 136 := by
  obtain ⟨m, rfl⟩ : ∃ m, n = m + 1 := ⟨n - 1, by have := h.pi.lf; omega⟩
  have hn : 13 < m := by have := h.pi.lf; omega
  obtain ⟨e1, e2⟩ := h.full hN
  obtain ⟨g1, _⟩ := fail_gd h.pi (e := 136) (by decide)
  have l1 := g1.lf
  have hne : (failP p 136).e_ ≠ 0 := by rw [e2]; decide
  have h2 := (grp_ok (m + 1)).2.2.2.1 (failP p 136) d g1.inv (by omega)
  have e : p_parse_parser_operand (m + 1) p d = (p_parse_parser_list__operand_1_grp (m + 1)).2.2.2.1 (failP p 136) d := by
    show p_parse_parser_operand_b _ _ _ m p d = p_parse_parser_operand_b _ _ _ m (failP p 136) d
    unfold p_parse_parser_operand_b
    have d1 : deepP p d = p := by unfold deepP; rw [if_neg hd]
    have d2 : deepP (failP p 136) d = failP p 136 := by unfold deepP; rw [if_neg hd]
    rw [deep_eq h.pi, deep_eq g1.inv, d1, d2, Option.bind_some, Option.bind_some, take_eq h.pi hn, take_eq g1.inv hn, Option.bind_some, Option.bind_some]
    rw [h5, isB_dead hne, takeP_f h5, take_dead hne, if_neg (by simp), if_neg (by simp), node_eq h.pi, node_eq g1.inv, Option.bind_some, Option.bind_some, e1, node_dead hne, tok_fail]
  rw [e]
  exact h2.mono fun r g => ⟨g1.ga g, (g.toGd.err' hne).1.trans e2⟩
theorem op_paren (h : Lv p (t :: ts) N) (h0 : 0 ≤ d) (hd : ¬ 64 < d) (ht : isT t [40]) (hm : 13 < m) : p_parse_parser_operand (m + 1) p d = (p_parse_parser_expr m (takeP p [40]) (d + 1)).bind fun x => (p_parse_parser_need m x.2 [41]).bind fun y => some (x.1, y) := by
  show p_parse_parser_operand_b _ _ _ m p d = _
  unfold p_parse_parser_operand_b
  have d1 : deepP p d = p := by unfold deepP; rw [if_neg hd]
  rw [deep_eq h.pi, d1, Option.bind_some, take_eq h.pi hm, Option.bind_some, if_pos (h.isB ht), wrap64 (n := d + 1) (by omega) (by omega)]; rfl
theorem op_un (h : Lv p (t :: ts) N) (hN : N < 16384) (h0 : 0 ≤ d) (hd : ¬ 64 < d) (hs : s = [126] ∨ s = [45]) (ht : isT t s) (hm : 13 < m) : p_parse_parser_operand (m + 1) p d = (p_parse_parser_operand m (takeP (nodeP p) s) (d + 1)).bind fun r => some (⟨18, t.At_, s, 0, [r.1]⟩, r.2) := by
  show p_parse_parser_operand_b _ _ _ m p d = _
  unfold p_parse_parser_operand_b
  have d1 : deepP p d = p := by unfold deepP; rw [if_neg hd]
  have h5 : isB p [40] = false := h.nB' fun k => by rcases hs with rfl | rfl <;> exact absurd (ht.two k) (by decide)
  have g4 := node_gd h.pi
  have v4 := h.node hN
  obtain ⟨c, hc⟩ : ∃ e, m = e + 3 := ⟨m - 3, by omega⟩
  have hl := fun x y => operand_l1_eq g4.inv hm (fo := (p_parse_parser_list__operand_1_grp m).2.2.2.1) (a := d) (c := c) (x := x) (y := y)
  simp only [← hc] at hl
  rw [deep_eq h.pi, d1, Option.bind_some, take_eq h.pi hm, Option.bind_some, h5, takeP_f h5, if_neg (by simp), node_eq h.pi, Option.bind_some, hl, wrap64 (n := d + 1) (by omega) (by omega), h.tok]
  rcases hs with rfl | rfl
  · rw [if_pos (v4.isB ht)]
    show ((p_parse_parser_operand m _ _).bind _).bind _ = _
    cases p_parse_parser_operand m (takeP (nodeP p) [126]) (d + 1) <;> rfl
  · rw [if_neg (by rw [v4.nB' fun k => absurd (ht.two k) (by decide)]; decide), if_pos (v4.isB ht)]
    show ((p_parse_parser_operand m _ _).bind _).bind _ = _
    cases p_parse_parser_operand m (takeP (nodeP p) [45]) (d + 1) <;> rfl
theorem op_num (h : Lv p (t :: ts) N) (hN : N < 16384) (hd : ¬ 64 < d) (hk : t.Kind_ = 2) (hm : 13 < m) : p_parse_parser_operand (m + 1) p d = some (⟨14, t.At_, [], t.Num_, []⟩, (numP (nodeP p)).2) := by
  show p_parse_parser_operand_b _ _ _ m p d = _
  unfold p_parse_parser_operand_b
  have d1 : deepP p d = p := by unfold deepP; rw [if_neg hd]
  have h5 : isB p [40] = false := h.nB' (num_not hk)
  have g4 := node_gd h.pi
  have v4 := h.node hN
  obtain ⟨c, hc⟩ : ∃ e, m = e + 3 := ⟨m - 3, by omega⟩
  have hl := fun x y => operand_l1_eq g4.inv hm (fo := (p_parse_parser_list__operand_1_grp m).2.2.2.1) (a := d) (c := c) (x := x) (y := y)
  simp only [← hc] at hl
  rw [deep_eq h.pi, d1, Option.bind_some, take_eq h.pi hm, Option.bind_some, h5, takeP_f h5, if_neg (by simp), node_eq h.pi, Option.bind_some, hl, if_neg (by rw [v4.nB' (num_not hk)]; decide), if_neg (by rw [v4.nB' (num_not hk)]; decide), Option.bind_some]
  simp only [Sum.elim_inl]
  have hcond : (if ((nodeP p).e_ == (0 : Int)) = true then (p_parse_parser_token (nodeP p)).bind fun x72 => some (x72.Kind_ == (2 : Int)) else some false) = some ((nodeP p).e_ == 0 && (tokP p).Kind_ == 2) := by
    rw [token_eq g4.inv, tok_node]
    cases (nodeP p).e_ == (0 : Int) <;> rfl
  rw [hcond, v4.e0, h.tok, hk, Option.bind_some, if_pos (by decide), number_eq' g4.inv, Option.bind_some, (v4.num hk).1]
theorem op_name (h : Lv p (t :: ts) N) (hN : N < 16384) (h0 : 0 ≤ d) (hd : ¬ 64 < d) (hk : isN t) (hm : 13 < m) : p_parse_parser_operand (m + 1) p d =
    if isB (nameP (nodeP p)).2 [40] = true then (p_parse_parser_list__operand_1 m (nameP (nodeP p)).2 d).bind fun x => some (⟨17, t.At_, t.Text_, 0, x.1⟩, x.2)
    else if isB (nameP (nodeP p)).2 [91] = true then (p_parse_parser_expr m (takeP (nameP (nodeP p)).2 [91]) (d + 1)).bind fun x => (p_parse_parser_need m x.2 [93]).bind fun y => some (⟨16, t.At_, t.Text_, 0, [x.1]⟩, y)
    else some (⟨15, t.At_, t.Text_, 0, []⟩, (nameP (nodeP p)).2) := by
  show p_parse_parser_operand_b _ _ _ m p d = _
  unfold p_parse_parser_operand_b
  have d1 : deepP p d = p := by unfold deepP; rw [if_neg hd]
  have h5 : isB p [40] = false := h.nB' hk.not
  have g4 := node_gd h.pi
  have v4 := h.node hN
  have g8 := name_ga g4.inv
  obtain ⟨c, hc⟩ : ∃ e, m = e + 3 := ⟨m - 3, by omega⟩
  have hl := fun x y => operand_l1_eq g4.inv hm (fo := (p_parse_parser_list__operand_1_grp m).2.2.2.1) (a := d) (c := c) (x := x) (y := y)
  simp only [← hc] at hl
  rw [deep_eq h.pi, d1, Option.bind_some, take_eq h.pi hm, Option.bind_some, h5, takeP_f h5, if_neg (by simp), node_eq h.pi, Option.bind_some, hl, if_neg (by rw [v4.nB' hk.not]; decide), if_neg (by rw [v4.nB' hk.not]; decide), Option.bind_some]
  simp only [Sum.elim_inl]
  have hcond : (if ((nodeP p).e_ == (0 : Int)) = true then (p_parse_parser_token (nodeP p)).bind fun x72 => some (x72.Kind_ == (2 : Int)) else some false) = some ((nodeP p).e_ == 0 && (tokP p).Kind_ == 2) := by
    rw [token_eq g4.inv, tok_node]
    cases (nodeP p).e_ == (0 : Int) <;> rfl
  rw [hcond, v4.e0, h.tok, hk.1, Option.bind_some, if_neg (by simp), name_eq g4.inv hm, Option.bind_some, wrap64 (n := d + 1) (by omega) (by omega), (v4.name hk).1]
  rw [is_eq g8.inv hm, Option.bind_some]
  by_cases b1 : isB (nameP (nodeP p)).2 [40] = true
  · rw [if_pos b1, if_pos b1]
    show ((p_parse_parser_list__operand_1 m _ _).bind _).bind _ = _
    cases p_parse_parser_list__operand_1 m (nameP (nodeP p)).2 d <;> rfl
  · rw [if_neg b1, if_neg b1, take_eq g8.inv hm, Option.bind_some]
    by_cases b2 : isB (nameP (nodeP p)).2 [91] = true
    · rw [if_pos b2, if_pos b2]
      show ((p_parse_parser_expr m _ _).bind _).bind _ = _
      cases p_parse_parser_expr m (takeP (nameP (nodeP p)).2 [91]) (d + 1) with
      | none => rfl
      | some x =>
        simp only [Option.bind_some]
        cases p_parse_parser_need m x.2 [93] <;> rfl
    · rw [if_neg b2, if_neg b2, takeP_f (by simpa using b2)]; rfl
end
end Go.Proofs.YtolhahlnccekcaaDoor.Abs
