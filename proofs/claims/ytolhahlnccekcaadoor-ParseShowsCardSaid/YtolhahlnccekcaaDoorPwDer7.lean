/-
  A derivation is parsed, or a limit is met: statements.
-/
import Derived.Test.YtolhahlnccekcaaDoorPwDer6
namespace Go.Proofs.YtolhahlnccekcaaDoor.Abs
open Go.RowKit
set_option linter.unusedVariables false
set_option linter.unusedSimpArgs false
def CS (D : Int) : SK → Int → List Tok → List Nd → List Tok → Prop
  | .block, d, ts, xs, us => ∀ (n : Nat) p N, Lv p ts N → 0 ≤ d → d ≤ D + 1 → Lf p + 46 ≤ n → Tot (p_parse_parser_block n p d) fun r => GA p r.2 ∧ Rs D (N + szL xs) us r.2 (xs = [r.1])
  | .stmt, d, ts, xs, us => ∀ (n : Nat) p N, Lv p ts N → 0 ≤ d → d ≤ D → Lf p + 45 ≤ n → Tot (p_parse_parser_statement n p d) fun r => GA p r.2 ∧ Rs D (N + szL xs) us r.2 (xs = [r.1])
  | .stmts, d, ts, xs, us => ∀ (n c : Nat) p N x, Lv p ts N → 0 ≤ d → d ≤ D → Lf p + 45 ≤ n → (p.l_.length : Int) - p.at_ < c → (x.List_.length : Int) ≤ p.at_ → Tot (p_parse_parser_block_l1 (p_parse_parser_statement n) n d c p x) fun r => Gd p r.1 ∧ Rs D (N + szL xs) us r.1 (r.2 = { x with List_ := x.List_ ++ xs })
section
variable {p q : T_parse_parser} {t : Tok} {ts us vs : List Tok} {N M D d : Int} {s w : Str} {n m : Nat} {x : Nd} {ok : Prop}
theorem tk_no {β : Type} {A B : Bool × T_parse_parser → Option β} (v : Lv q (t :: ts) N) (hn : ¬ isT t w) (hm : 13 < m) : ((p_parse_parser_take m q w).bind fun x => if x.1 = true then A x else B x) = B (false, q) := by
  have h := v.nB' hn
  rw [take_eq v.pi hm, Option.bind_some, h, takeP_f h, if_neg (by simp)]
theorem tk_yes {β : Type} {A B : Bool × T_parse_parser → Option β} (v : Lv q (t :: ts) N) (ht : isT t w) (hm : 13 < m) : ((p_parse_parser_take m q w).bind fun x => if x.1 = true then A x else B x) = A (true, takeP q w) := by
  have h := v.isB ht
  rw [take_eq v.pi hm, Option.bind_some, h, if_pos rfl]
theorem Rs.cast (h : Rs D N us q ok) (e : N = M) : Rs D M us q ok := by rw [← e]; exact h
theorem Rs.expr (k : Rs D N us q ok) (g : PI q) (ih : CE D (.lev 0) d us [x] vs) (h0 : 0 ≤ d) (h1 : d ≤ D + 3) (hb : Lf q + 30 ≤ n) : Tot (p_parse_parser_expr n q d) fun r => GA q r.2 ∧ Rs D (N + sz x) vs r.2 (ok ∧ r.1 = x) := by
  rcases k with ⟨v, o⟩ | k
  · exact (ih.expr v h0 h1 hb).mono fun r ⟨g, k⟩ => ⟨g, k.mono fun e => ⟨o, e⟩⟩
  · exact (expr_tot g hb).mono fun r g => ⟨g, .inr ((k.gd g.toGd).mono (by have := sz_pos x; omega))⟩
theorem Rs.block (k : Rs D N us q ok) (g : PI q) (ih : CS D .block d us [x] vs) (h0 : 0 ≤ d) (h1 : d ≤ D + 1) (hb : Lf q + 46 ≤ n) : Tot (p_parse_parser_block n q d) fun r => GA q r.2 ∧ Rs D (N + sz x) vs r.2 (ok ∧ r.1 = x) := by
  rcases k with ⟨v, o⟩ | k
  · refine (ih n q N v h0 h1 hb).mono fun r ⟨g, k⟩ => ⟨g, ?_⟩
    rw [szL_1] at k
    exact k.mono fun e => ⟨o, by injection e with e _; exact e.symm⟩
  · exact (block_tot g hb).mono fun r g => ⟨g, .inr ((k.gd g.toGd).mono (by have := sz_pos x; omega))⟩
theorem cnamed {u v w : Tok} {vs ws : List Tok} {y : Nd} (hv : Lv p (u :: v :: vs) N) (hu : isN u) (hv1 : isT v [61]) (ih : CE D (.lev 0) (d + 1) vs [x] (w :: ws)) (hw : isT w [59]) (h0 : 0 ≤ d) (h1 : d ≤ D) (hb : Lf p + 30 ≤ n) : Tot (p_parse_parser_named n p y (d + 1)) fun r => GA p r.2 ∧ Rs D (N + sz x) ws r.2 (r.1 = { y with Text_ := u.Text_, List_ := [x] }) := by
  have hn : 13 < n := by have := hv.pi.lf; omega
  have v1 := (hv.name hu).2
  have v2 := v1.need hv1
  have g1 := name_ga hv.pi
  have g2 := need_ga g1.inv (s := [61])
  have l1 := g1.toGd.lf
  have l2 := g2.toGd.lf
  unfold p_parse_parser_named
  rw [name_eq hv.pi hn, Option.bind_some, need_eq g1.inv hn, Option.bind_some, (hv.name hu).1]
  refine (ih.expr v2 (by omega) (by omega) (by omega)).bind fun r ⟨g3, k⟩ => ?_
  have g4 := need_ga g3.inv (s := [59])
  rw [need_eq g3.inv hn, Option.bind_some]
  exact .some ⟨g1.ga (g2.ga (g3.ga g4)), (k.need hw).mono fun e => by rw [e]⟩
/-! a statement's frame -/
theorem st_full (h : Lv p ts N) (hN : ¬ N < 16384) (hb : Lf p + 45 ≤ n) : Tot (p_parse_parser_statement n p d) fun r => GA p r.2 ∧ r.2.e_ = 136 := by
  obtain ⟨m, rfl⟩ : ∃ m, n = m + 1 := ⟨n - 1, by have := h.pi.lf; omega⟩
  obtain ⟨e1, e2⟩ := h.full hN
  obtain ⟨g1, _⟩ := fail_gd h.pi (e := 136) (by decide)
  have l1 := g1.lf
  have hne : (failP p 136).e_ ≠ 0 := by rw [e2]; decide
  have h2 := (grp2_ok (m + 1)).2.1 (failP p 136) d g1.inv (by omega)
  have e : p_parse_parser_statement (m + 1) p d = (p_parse_parser_block_grp (m + 1)).2.1 (failP p 136) d := by
    show p_parse_parser_statement_b _ _ m p d = p_parse_parser_statement_b _ _ m (failP p 136) d
    unfold p_parse_parser_statement_b
    rw [node_eq h.pi, node_eq g1.inv, Option.bind_some, Option.bind_some, e1, node_dead hne, tok_fail]
  rw [e]
  exact h2.mono fun r g => ⟨g1.ga g, (g.toGd.err' hne).1.trans e2⟩
theorem st_end {semi : Tok} {nd : Nd} (hs : isT semi [59]) (hm : 13 < m) (y : (T_parse_parser × T_parse_Node) ⊕ (T_parse_Node × T_parse_parser)) (hy : match y with | .inl z => GA p z.1 ∧ Rs D N (semi :: us) z.1 (z.2 = nd) | .inr z => GA p z.2 ∧ Rs D N us z.2 (z.1 = nd)) :
    Tot (y.elim (fun y5a => (p_parse_parser_need m y5a.1 ([59] : Str)).bind fun x43 => some (y5a.2, x43)) (fun y5a => some y5a)) fun r => GA p r.2 ∧ Rs D N us r.2 ([nd] = [r.1]) := by
  cases y with
  | inl z =>
    obtain ⟨g, k⟩ : GA p z.1 ∧ Rs D N (semi :: us) z.1 (z.2 = nd) := hy
    have g2 := need_ga g.inv (s := [59])
    show Tot ((p_parse_parser_need m z.1 ([59] : Str)).bind fun x43 => some (z.2, x43)) _
    rw [need_eq g.inv hm, Option.bind_some]
    exact .some ⟨g.ga g2, (k.need hs).mono fun e => by rw [e]⟩
  | inr z =>
    obtain ⟨g, k⟩ : GA p z.2 ∧ Rs D N us z.2 (z.1 = nd) := hy
    exact .some ⟨g, k.mono fun e => by rw [e]⟩
def semi0 : Tok := ⟨3, 0, [59], 0⟩
theorem semi0_t : isT semi0 [59] := ⟨rfl, .inl rfl⟩
/-! blocks -/
theorem bl_deep (h : PI p) (he : p.e_ = 0) (hd : 64 < d) (hb : Lf p + 46 ≤ n) : Tot (p_parse_parser_block n p d) fun r => GA p r.2 ∧ r.2.e_ = 111 := by
  obtain ⟨m, rfl⟩ : ∃ m, n = m + 1 := ⟨n - 1, by have := h.lf; omega⟩
  have g1 := deep_gd h (a := d)
  have l1 := g1.lf
  have e1 : (deepP p d).e_ = 111 := by
    unfold deepP failP
    rw [if_pos hd, if_pos he]
  have h2 := (grp2_ok (m + 1)).1 (deepP p d) d g1.inv (by omega)
  have e : p_parse_parser_block (m + 1) p d = (p_parse_parser_block_grp (m + 1)).1 (deepP p d) d := block_deep h
  rw [e]
  exact h2.mono fun r g => ⟨g1.ga g, (g.toGd.err' (by rw [e1]; decide)).1.trans e1⟩
theorem bl_full (h : Lv p ts N) (hN : ¬ N < 16384) (hd : ¬ 64 < d) (hb : Lf p + 46 ≤ n) : Tot (p_parse_parser_block n p d) fun r => GA p r.2 ∧ r.2.e_ = 136 := by
  obtain ⟨m, rfl⟩ : ∃ m, n = m + 1 := ⟨n - 1, by have := h.pi.lf; omega⟩
  obtain ⟨e1, e2⟩ := h.full hN
  obtain ⟨g1, _⟩ := fail_gd h.pi (e := 136) (by decide)
  have l1 := g1.lf
  have hne : (failP p 136).e_ ≠ 0 := by rw [e2]; decide
  have h2 := (grp2_ok (m + 1)).1 (failP p 136) d g1.inv (by omega)
  have e : p_parse_parser_block (m + 1) p d = (p_parse_parser_block_grp (m + 1)).1 (failP p 136) d := by
    show p_parse_parser_block_b _ m p d = p_parse_parser_block_b _ m (failP p 136) d
    unfold p_parse_parser_block_b
    have d1 : deepP p d = p := by unfold deepP; rw [if_neg hd]
    have d2 : deepP (failP p 136) d = failP p 136 := by unfold deepP; rw [if_neg hd]
    rw [deep_eq h.pi, deep_eq g1.inv, d1, d2, Option.bind_some, Option.bind_some, node_eq h.pi, node_eq g1.inv, Option.bind_some, Option.bind_some, e1, node_dead hne, tok_fail]
  rw [e]
  exact h2.mono fun r g => ⟨g1.ga g, (g.toGd.err' hne).1.trans e2⟩
end
theorem DS.run {D : Int} (hD : D ≤ 1099511627776) {K d ts xs us} (h : DS D K d ts xs us) : CS D K d ts xs us := by
  induction h with
  | @block d t ts xs u us hd ht h1 hu ih =>
    intro n p N hv h0 h3 hb
    obtain ⟨m, rfl⟩ : ∃ m, n = m + 1 := ⟨n - 1, by have := hv.pi.lf; omega⟩
    have hm : 13 < m := by have := hv.pi.lf; omega
    have hz := szL_ge xs
    rw [szL_1, sz_mk]
    by_cases h64 : 64 < d
    · exact (bl_deep hv.pi hv.e0 h64 hb).mono fun r ⟨g, e⟩ => ⟨g, .inr (.inr ⟨e, by omega⟩)⟩
    by_cases hN : N < 16384
    · have v1 := hv.node hN
      have v2 := v1.need ht
      have g1 := node_gd hv.pi
      have g2 := g1.ga (need_ga v1.pi (s := [123]))
      have d1 : deepP p d = p := by unfold deepP; rw [if_neg h64]
      have l2 := g2.lf v2.e0
      have k0 := v2.pi.lo
      show Tot (p_parse_parser_block_b (p_parse_parser_statement m) m p d) _
      unfold p_parse_parser_block_b
      rw [deep_eq hv.pi, d1, Option.bind_some, node_eq hv.pi, Option.bind_some, need_eq v1.pi hm, Option.bind_some, hv.tok]
      refine (ih m m _ _ ⟨4, t.At_, [], 0, []⟩ v2 h0 (by omega) (by omega) (by unfold Lf at hb l2; have := hv.pi.hi; rw [g2.toGd.len] at l2 ⊢; omega) (by simpa using k0)).bind fun y ⟨g3, k⟩ => ?_
      have g4 := need_ga g3.inv (s := [125])
      rw [need_eq g3.inv hm, Option.bind_some]
      exact .some ⟨(g2.gd g3).ga g4, ((k.need hu).mono fun e => by rw [e]; rfl).cast (by omega)⟩
    · exact (bl_full hv hN h64 hb).mono fun r ⟨g, e⟩ => ⟨g, .inr (.inl ⟨e, by omega⟩)⟩
  | @nil d ts h1 =>
    intro n c p N x hv h0 h3 hb hc hl
    have k2 := hv.pi.hi
    obtain ⟨c, rfl⟩ : ∃ e, c = e + 1 := ⟨c - 1, by omega⟩
    have hn : 13 < n := by have := hv.pi.lf; omega
    have hcb : isB p [125] = true := (hdT_rest hv.pi hv.e0).1 (by rw [hv.rs]; exact h1)
    unfold p_parse_parser_block_l1
    rw [is_eq hv.pi hn, hcb, hv.e0, if_pos (by simp), Option.bind_some, Option.bind_some, if_neg (by simp)]
    exact .some ⟨.refl hv.pi, .inl ⟨by rw [szL_nil, Int.add_zero]; exact hv, by rw [List.append_nil]; cases x; rfl⟩⟩
  | @cons d ts y us xs vs h1 h2 h3 ih1 ih2 =>
    intro n c p N x hv h0 h3 hb hc hl
    have k1 := hv.pi.lo
    have k2 := hv.pi.hi
    have k3 := hv.pi.big
    obtain ⟨c, rfl⟩ : ∃ e, c = e + 1 := ⟨c - 1, by omega⟩
    have hn : 13 < n := by have := hv.pi.lf; omega
    unfold p_parse_parser_block_l1
    rw [is_eq hv.pi hn, hv.nB h1, hv.e0, if_pos (by simp), Option.bind_some, Option.bind_some, if_pos (by simp)]
    refine (ih1 n p N hv h0 h3 hb).bind fun r ⟨g, k⟩ => ?_
    have m1 := g.at'
    have m5 := g.inv.hi
    have m6 := g.toGd.len
    have l1 := g.toGd.lf
    have hz := szL_ge xs
    rw [szL_1] at k
    rw [szL_cons, need_of (by simp only [List.length_singleton]; omega)]
    rcases k with ⟨v, e⟩ | k
    · have e' : r.1 = y := by injection e with e _; exact e.symm
      have m7 := g.adv v.e0
      rw [e']
      refine (ih2 n c r.2 _ _ v h0 h3 (by omega) (by omega) (by simp only [List.length_append, List.length_singleton]; omega)).mono fun w ⟨g5, k5⟩ => ⟨g.toGd.trans g5, ?_⟩
      exact (k5.mono fun e => by rw [e]; simp).cast (by omega)
    · have m8 := hv.pi.lf
      obtain ⟨c, rfl⟩ : ∃ e, c = e + 1 := ⟨c - 1, by omega⟩
      unfold p_parse_parser_block_l1
      rw [if_neg (by simpa using k.ne), Option.bind_some, if_neg (by simp)]
      exact .some ⟨g.toGd, .inr (k.mono (by omega))⟩
  | @bind d t k s u v vs x w ws hk ht hu hv1 h1 hw =>
    intro n p N hv h0 h3 hb
    have ih := h1.run hD
    have hz := sz_pos x
    rw [szL_1, sz_mk, szL_1]
    by_cases hN : N < 16384
    · obtain ⟨m, rfl⟩ : ∃ m, n = m + 1 := ⟨n - 1, by have := hv.pi.lf; omega⟩
      have hm : 13 < m := by have := hv.pi.lf; omega
      have v1 := hv.node hN
      have g1 := node_gd hv.pi
      have l1 := g1.lf
      show Tot (p_parse_parser_statement_b (p_parse_parser_choice m) (p_parse_parser_loop m) m p d) _
      unfold p_parse_parser_statement_b
      rw [node_eq hv.pi, Option.bind_some, hv.tok, wrap64 (n := d + 1) (by omega) (by omega)]
      refine Tot.bind (P := fun y => match y with | .inl z => GA p z.1 ∧ Rs D (N + (1 + sz x)) (semi0 :: ws) z.1 (z.2 = ⟨k, t.At_, u.Text_, 0, [x]⟩) | .inr z => GA p z.2 ∧ Rs D (N + (1 + sz x)) ws z.2 (z.1 = ⟨k, t.At_, u.Text_, 0, [x]⟩)) ?_ fun y hy => st_end semi0_t hm y hy
      have g2 := (take_gd v1.pi (s := s)).1
      have l2 := g2.lf
      rcases hk with ⟨rfl, rfl⟩ | ⟨rfl, rfl⟩
      · rw [tk_yes v1 ht hm]
        exact (cnamed (v1.take ht) hu hv1 ih hw h0 h3 (by omega)).bind fun r ⟨g3, k⟩ => .some ⟨g1.ga (g2.ga g3), k.cast (by omega)⟩
      · rw [tk_no v1 (fun k => absurd (ht.two k) (by decide)) hm, tk_yes v1 ht hm]
        exact (cnamed (v1.take ht) hu hv1 ih hw h0 h3 (by omega)).bind fun r ⟨g3, k⟩ => .some ⟨g1.ga (g2.ga g3), k.cast (by omega)⟩
    · exact (st_full hv hN hb).mono fun r ⟨g, e⟩ => ⟨g, .inr (.inl ⟨e, by omega⟩)⟩
  | @arr d t u v w z y ys ht hu hv1 hw hz1 hy =>
    intro n p N hv h0 h3 hb
    rw [szL_1, sz_mk, szL_nil]
    by_cases hN : N < 16384
    · obtain ⟨m, rfl⟩ : ∃ m, n = m + 1 := ⟨n - 1, by have := hv.pi.lf; omega⟩
      have hm : 13 < m := by have := hv.pi.lf; omega
      have v1 := hv.node hN
      have g1 := node_gd hv.pi
      show Tot (p_parse_parser_statement_b (p_parse_parser_choice m) (p_parse_parser_loop m) m p d) _
      unfold p_parse_parser_statement_b
      rw [node_eq hv.pi, Option.bind_some, hv.tok]
      refine Tot.bind (P := fun q => match q with | .inl z => GA p z.1 ∧ Rs D (N + (1 + 0)) (y :: ys) z.1 (z.2 = ⟨7, t.At_, u.Text_, w.Num_, []⟩) | .inr z => GA p z.2 ∧ Rs D (N + (1 + 0)) ys z.2 (z.1 = ⟨7, t.At_, u.Text_, w.Num_, []⟩)) ?_ fun q hq => st_end hy hm q hq
      have g2 := (take_gd v1.pi (s := [97, 114, 114])).1
      have v2 := v1.take ht
      have v3 := (v2.name hu).2
      have g3 := name_ga v2.pi
      have g4 := size_ga v3.pi
      have v4 := v3.need hv1
      have v5 := (v4.num hw).2
      have v6 := v5.need hz1
      rw [tk_no v1 (fun k => absurd (ht.two k) (by decide)) hm, tk_no v1 (fun k => absurd (ht.two k) (by decide)) hm, tk_yes v1 ht hm]
      rw [name_eq v2.pi hm, Option.bind_some, size_eq v3.pi hm, Option.bind_some, (v2.name hu).1]
      refine .some ⟨g1.ga (g2.ga (g3.ga g4)), .inl ⟨v6, ?_⟩⟩
      show ({ (⟨8, t.At_, [], 0, []⟩ : T_parse_Node) with Kind_ := 7, Text_ := u.Text_, Num_ := (numP (needP (nameP (takeP (nodeP p) [97, 114, 114])).2 [91])).1 } : T_parse_Node) = _
      rw [(v4.num hw).1]
    · exact (st_full hv hN hb).mono fun r ⟨g, e⟩ => ⟨g, .inr (.inl ⟨e, by omega⟩)⟩
  | @ret d t ts x u us ht h1 hu =>
    intro n p N hv h0 h3 hb
    have ih := h1.run hD
    have hz := sz_pos x
    rw [szL_1, sz_mk, szL_1]
    by_cases hN : N < 16384
    · obtain ⟨m, rfl⟩ : ∃ m, n = m + 1 := ⟨n - 1, by have := hv.pi.lf; omega⟩
      have hm : 13 < m := by have := hv.pi.lf; omega
      have v1 := hv.node hN
      have g1 := node_gd hv.pi
      have l1 := g1.lf
      show Tot (p_parse_parser_statement_b (p_parse_parser_choice m) (p_parse_parser_loop m) m p d) _
      unfold p_parse_parser_statement_b
      rw [node_eq hv.pi, Option.bind_some, hv.tok, wrap64 (n := d + 1) (by omega) (by omega)]
      refine Tot.bind (P := fun q => match q with | .inl z => GA p z.1 ∧ Rs D (N + (1 + sz x)) (u :: us) z.1 (z.2 = ⟨13, t.At_, [], 0, [x]⟩) | .inr z => GA p z.2 ∧ Rs D (N + (1 + sz x)) us z.2 (z.1 = ⟨13, t.At_, [], 0, [x]⟩)) ?_ fun q hq => st_end hu hm q hq
      have g2 := (take_gd v1.pi (s := [114, 101, 116, 117, 114, 110])).1
      have l2 := g2.lf
      rw [tk_no v1 (fun k => absurd (ht.two k) (by decide)) hm, tk_no v1 (fun k => absurd (ht.two k) (by decide)) hm, tk_no v1 (fun k => absurd (ht.two k) (by decide)) hm, tk_yes v1 ht hm]
      exact (ih.expr (v1.take ht) (by omega) (by omega) (by omega)).bind fun r ⟨g3, k⟩ => .some ⟨g1.ga (g2.ga g3), (k.mono fun e => by rw [e]).cast (by omega)⟩
    · exact (st_full hv hN hb).mono fun r ⟨g, e⟩ => ⟨g, .inr (.inl ⟨e, by omega⟩)⟩
  | @choice d t ts c us b vs ht h1 h2 hn ih2 =>
    intro n p N hv h0 h3 hb
    have ih := h1.run hD
    have hz := sz_pos c
    have hz2 := sz_pos b
    rw [szL_1, sz_mk, szL_2]
    by_cases hN : N < 16384
    · obtain ⟨m, rfl⟩ : ∃ m, n = m + 1 := ⟨n - 1, by have := hv.pi.lf; omega⟩
      have hm : 13 < m := by have := hv.pi.lf; omega
      have v1 := hv.node hN
      have g1 := node_gd hv.pi
      have l1 := g1.lf
      show Tot (p_parse_parser_statement_b (p_parse_parser_choice m) (p_parse_parser_loop m) m p d) _
      unfold p_parse_parser_statement_b
      rw [node_eq hv.pi, Option.bind_some, hv.tok]
      refine Tot.bind (P := fun q => match q with | .inl z => GA p z.1 ∧ Rs D (N + (1 + (sz c + sz b))) (semi0 :: vs) z.1 (z.2 = ⟨11, t.At_, [], 0, [c, b]⟩) | .inr z => GA p z.2 ∧ Rs D (N + (1 + (sz c + sz b))) vs z.2 (z.1 = ⟨11, t.At_, [], 0, [c, b]⟩)) ?_ fun q hq => st_end semi0_t hm q hq
      obtain ⟨g2, t2, _⟩ := take_gd v1.pi (s := [105, 102])
      obtain ⟨_, g2', e2⟩ := t2 (v1.isB ht)
      have l2 := g2'.lf e2
      rw [tk_no v1 (fun k => absurd (ht.two k) (by decide)) hm, tk_no v1 (fun k => absurd (ht.two k) (by decide)) hm, tk_no v1 (fun k => absurd (ht.two k) (by decide)) hm, tk_no v1 (fun k => absurd (ht.two k) (by decide)) hm, tk_yes v1 ht hm]
      obtain ⟨m', rfl⟩ : ∃ e, m = e + 1 := ⟨m - 1, by omega⟩
      have hm' : 13 < m' := by have := hv.pi.lf; omega
      refine Tot.bind (P := fun r => GA (takeP (nodeP p) [105, 102]) r.2 ∧ Rs D (N + (1 + (sz c + sz b))) vs r.2 (r.1 = ⟨11, t.At_, [], 0, [c, b]⟩)) ?_ fun r ⟨g3, k⟩ => .some ⟨g1.ga (g2.ga g3), k⟩
      show Tot (p_parse_parser_choice_b (p_parse_parser_block m') m' (takeP (nodeP p) [105, 102]) _ d) _
      unfold p_parse_parser_choice_b
      rw [wrap64 (n := d + 1) (by omega) (by omega)]
      refine (ih.expr (v1.take ht) (by omega) (by omega) (by omega)).bind fun r ⟨g3, k3⟩ => ?_
      have l3 := g3.toGd.lf
      refine (k3.block g3.inv ih2 (by omega) (by omega) (by omega)).bind fun r2 ⟨g4, k4⟩ => Tot.need (by simp) ?_
      rw [take_eq g4.inv hm', Option.bind_some]
      have hb2 : isB r2.2 [101, 108, 115, 101] = false := by
        rcases k4 with ⟨v4, _⟩ | k4
        · exact v4.nB hn
        · exact isB_dead k4.ne
      rw [hb2, takeP_f hb2, if_neg (by simp)]
      exact .some ⟨g3.ga g4, (k4.mono fun ⟨e1, e2⟩ => by rw [e1, e2]; rfl).cast (by omega)⟩
    · exact (st_full hv hN hb).mono fun r ⟨g, e⟩ => ⟨g, .inr (.inl ⟨e, by omega⟩)⟩
  | @choice2 d t ts c us b v vs b' ws ht h1 h2 he h4 ih2 ih4 =>
    intro n p N hv h0 h3 hb
    have ih := h1.run hD
    have hz := sz_pos c
    have hz2 := sz_pos b
    have hz3 := sz_pos b'
    rw [szL_1, sz_mk, szL_3]
    by_cases hN : N < 16384
    · obtain ⟨m, rfl⟩ : ∃ m, n = m + 1 := ⟨n - 1, by have := hv.pi.lf; omega⟩
      have hm : 13 < m := by have := hv.pi.lf; omega
      have v1 := hv.node hN
      have g1 := node_gd hv.pi
      have l1 := g1.lf
      show Tot (p_parse_parser_statement_b (p_parse_parser_choice m) (p_parse_parser_loop m) m p d) _
      unfold p_parse_parser_statement_b
      rw [node_eq hv.pi, Option.bind_some, hv.tok]
      refine Tot.bind (P := fun q => match q with | .inl z => GA p z.1 ∧ Rs D (N + (1 + (sz c + sz b + sz b'))) (semi0 :: ws) z.1 (z.2 = ⟨11, t.At_, [], 0, [c, b, b']⟩) | .inr z => GA p z.2 ∧ Rs D (N + (1 + (sz c + sz b + sz b'))) ws z.2 (z.1 = ⟨11, t.At_, [], 0, [c, b, b']⟩)) ?_ fun q hq => st_end semi0_t hm q hq
      obtain ⟨g2, t2, _⟩ := take_gd v1.pi (s := [105, 102])
      obtain ⟨_, g2', e2⟩ := t2 (v1.isB ht)
      have l2 := g2'.lf e2
      rw [tk_no v1 (fun k => absurd (ht.two k) (by decide)) hm, tk_no v1 (fun k => absurd (ht.two k) (by decide)) hm, tk_no v1 (fun k => absurd (ht.two k) (by decide)) hm, tk_no v1 (fun k => absurd (ht.two k) (by decide)) hm, tk_yes v1 ht hm]
      obtain ⟨m', rfl⟩ : ∃ e, m = e + 1 := ⟨m - 1, by omega⟩
      have hm' : 13 < m' := by have := hv.pi.lf; omega
      refine Tot.bind (P := fun r => GA (takeP (nodeP p) [105, 102]) r.2 ∧ Rs D (N + (1 + (sz c + sz b + sz b'))) ws r.2 (r.1 = ⟨11, t.At_, [], 0, [c, b, b']⟩)) ?_ fun r ⟨g3, k⟩ => .some ⟨g1.ga (g2.ga g3), k⟩
      show Tot (p_parse_parser_choice_b (p_parse_parser_block m') m' (takeP (nodeP p) [105, 102]) _ d) _
      unfold p_parse_parser_choice_b
      rw [wrap64 (n := d + 1) (by omega) (by omega)]
      refine (ih.expr (v1.take ht) (by omega) (by omega) (by omega)).bind fun r ⟨g3, k3⟩ => ?_
      have l3 := g3.toGd.lf
      refine (k3.block g3.inv ih2 (by omega) (by omega) (by omega)).bind fun r2 ⟨g4, k4⟩ => Tot.need (by simp) ?_
      have l4 := g4.toGd.lf
      rw [take_eq g4.inv hm', Option.bind_some]
      rcases k4 with ⟨v4, e3, e4⟩ | k4
      · rw [v4.isB he, if_pos rfl]
        have g5 := (take_gd v4.pi (s := [101, 108, 115, 101])).1
        have l5 := g5.lf
        refine (ih4 m' _ _ (v4.take he) (by omega) (by omega) (by omega)).bind fun r3 ⟨g6, k6⟩ => Tot.need (by simp) (.some ⟨(g3.ga g4).ga (g5.ga g6), ?_⟩)
        rw [szL_1] at k6
        exact (k6.mono fun e => by injection e with e _; rw [e3, e4, ← e]; rfl).cast (by omega)
      · rw [isB_dead k4.ne, take_dead k4.ne, if_neg (by simp)]
        exact .some ⟨g3.ga g4, .inr (k4.mono (by omega))⟩
    · exact (st_full hv hN hb).mono fun r ⟨g, e⟩ => ⟨g, .inr (.inl ⟨e, by omega⟩)⟩
  | @loop d t u v vs a w ws b xs k ys ht hu hv1 h1 hw h2 h3' ih3 =>
    intro n p N hv h0 h3 hb
    have ih := h1.run hD
    have ih2 := h2.run hD
    have hz := sz_pos a
    have hz2 := sz_pos b
    have hz3 := sz_pos k
    rw [szL_1, sz_mk, szL_3]
    by_cases hN : N < 16384
    · obtain ⟨m, rfl⟩ : ∃ m, n = m + 1 := ⟨n - 1, by have := hv.pi.lf; omega⟩
      have hm : 13 < m := by have := hv.pi.lf; omega
      have v1 := hv.node hN
      have g1 := node_gd hv.pi
      have l1 := g1.lf
      show Tot (p_parse_parser_statement_b (p_parse_parser_choice m) (p_parse_parser_loop m) m p d) _
      unfold p_parse_parser_statement_b
      rw [node_eq hv.pi, Option.bind_some, hv.tok]
      refine Tot.bind (P := fun q => match q with | .inl z => GA p z.1 ∧ Rs D (N + (1 + (sz a + sz b + sz k))) (semi0 :: ys) z.1 (z.2 = ⟨12, t.At_, u.Text_, 0, [a, b, k]⟩) | .inr z => GA p z.2 ∧ Rs D (N + (1 + (sz a + sz b + sz k))) ys z.2 (z.1 = ⟨12, t.At_, u.Text_, 0, [a, b, k]⟩)) ?_ fun q hq => st_end semi0_t hm q hq
      obtain ⟨g2, t2, _⟩ := take_gd v1.pi (s := [102, 111, 114])
      obtain ⟨_, g2', e2⟩ := t2 (v1.isB ht)
      have l2 := g2'.lf e2
      rw [tk_no v1 (fun k => absurd (ht.two k) (by decide)) hm, tk_no v1 (fun k => absurd (ht.two k) (by decide)) hm, tk_no v1 (fun k => absurd (ht.two k) (by decide)) hm, tk_no v1 (fun k => absurd (ht.two k) (by decide)) hm, tk_no v1 (fun k => absurd (ht.two k) (by decide)) hm, tk_yes v1 ht hm]
      obtain ⟨m', rfl⟩ : ∃ e, m = e + 1 := ⟨m - 1, by omega⟩
      have hm' : 13 < m' := by have := hv.pi.lf; omega
      refine Tot.bind (P := fun r => GA (takeP (nodeP p) [102, 111, 114]) r.2 ∧ Rs D (N + (1 + (sz a + sz b + sz k))) ys r.2 (r.1 = ⟨12, t.At_, u.Text_, 0, [a, b, k]⟩)) ?_ fun r ⟨g3, k⟩ => .some ⟨g1.ga (g2.ga g3), k⟩
      show Tot (p_parse_parser_loop_b (p_parse_parser_block m') m' (takeP (nodeP p) [102, 111, 114]) _ d) _
      unfold p_parse_parser_loop_b
      have v2 := v1.take ht
      have v3 := (v2.name hu).2
      have g3 := name_ga v2.pi
      have g4 := need_ga v3.pi (s := [105, 110])
      have l3 := g3.toGd.lf
      have l4 := g4.toGd.lf
      rw [wrap64 (n := d + 1) (by omega) (by omega), name_eq v2.pi hm', Option.bind_some, need_eq v3.pi hm', Option.bind_some, (v2.name hu).1]
      refine (ih.expr (v3.need hv1) (by omega) (by omega) (by omega)).bind fun r ⟨g5, k5⟩ => ?_
      have g6 := need_ga g5.inv (s := [46, 46])
      have l5 := g5.toGd.lf
      have l6 := g6.toGd.lf
      rw [need_eq g5.inv hm', Option.bind_some]
      refine ((k5.need hw).expr g6.inv ih2 (by omega) (by omega) (by omega)).bind fun r2 ⟨g7, k7⟩ => Tot.need (by simp) ?_
      have l7 := g7.toGd.lf
      refine (k7.block g7.inv ih3 (by omega) (by omega) (by omega)).bind fun r3 ⟨g8, k8⟩ => Tot.need (by simp) (.some ⟨g3.ga (g4.ga (g5.ga (g6.ga (g7.ga g8)))), ?_⟩)
      exact (k8.mono fun ⟨⟨e1, e2⟩, e3⟩ => by rw [e1, e2, e3]; rfl).cast (by omega)
    · exact (st_full hv hN hb).mono fun r ⟨g, e⟩ => ⟨g, .inr (.inl ⟨e, by omega⟩)⟩
  | @call d t ts xs u us ht h1 hu =>
    intro n p N hv h0 h3 hb
    have ih := (h1.run hD).2
    have hz := szL_ge xs
    rw [szL_1, sz_mk]
    by_cases hN : N < 16384
    · obtain ⟨m, rfl⟩ : ∃ m, n = m + 1 := ⟨n - 1, by have := hv.pi.lf; omega⟩
      have hm : 13 < m := by have := hv.pi.lf; omega
      have v1 := hv.node hN
      have g1 := node_gd hv.pi
      have l1 := g1.lf
      show Tot (p_parse_parser_statement_b (p_parse_parser_choice m) (p_parse_parser_loop m) m p d) _
      unfold p_parse_parser_statement_b
      rw [node_eq hv.pi, Option.bind_some, hv.tok]
      refine Tot.bind (P := fun q => match q with | .inl z => GA p z.1 ∧ Rs D (N + (1 + szL xs)) (semi0 :: us) z.1 (z.2 = ⟨10, t.At_, t.Text_, 0, xs⟩) | .inr z => GA p z.2 ∧ Rs D (N + (1 + szL xs)) us z.2 (z.1 = ⟨10, t.At_, t.Text_, 0, xs⟩)) ?_ fun q hq => st_end semi0_t hm q hq
      rw [tk_no v1 ht.not hm, tk_no v1 ht.not hm, tk_no v1 ht.not hm, tk_no v1 ht.not hm, tk_no v1 ht.not hm, tk_no v1 ht.not hm]
      refine Tot.bind (P := fun r => GA (nodeP p) r.2 ∧ Rs D (N + (1 + szL xs)) us r.2 (r.1 = ⟨10, t.At_, t.Text_, 0, xs⟩)) ?_ fun r ⟨g3, k⟩ => .some ⟨g1.ga g3, k⟩
      have v2 := (v1.name ht).2
      have g2 := name_ga v1.pi
      have l2 := g2.toGd.lf
      obtain ⟨t', ts', e, ht'⟩ := h1.args_hd
      have hb1 : isB (nameP (nodeP p)).2 [40] = true := by rw [e] at v2; exact v2.isB ht'
      unfold p_parse_parser_plain
      rw [name_eq v1.pi hm, Option.bind_some, is_eq g2.inv hm, Option.bind_some, if_pos hb1, (v1.name ht).1]
      refine Tot.bind (P := fun y => GA (nameP (nodeP p)).2 y.1 ∧ Rs D (N + (1 + szL xs)) (u :: us) y.1 (y.2 = ⟨10, t.At_, t.Text_, 0, xs⟩)) ?_ fun y ⟨g3, k⟩ => ?_
      · exact (ih d rfl m _ _ v2 h0 (by omega) (by omega)).bind fun r ⟨g3, k⟩ => .some ⟨g3, (k.mono fun e => by rw [e]).cast (by omega)⟩
      · have g4 := need_ga g3.inv (s := [59])
        rw [need_eq g3.inv hm, Option.bind_some]
        exact .some ⟨g2.ga (g3.ga g4), k.need hu⟩
    · exact (st_full hv hN hb).mono fun r ⟨g, e⟩ => ⟨g, .inr (.inl ⟨e, by omega⟩)⟩
  | @put d t u us i v w ws x y ys ht hu h1 hv1 hw h2 hy =>
    intro n p N hv h0 h3 hb
    have ih := h1.run hD
    have ih2 := h2.run hD
    have hz := sz_pos i
    have hz2 := sz_pos x
    rw [szL_1, sz_mk, szL_2]
    by_cases hN : N < 16384
    · obtain ⟨m, rfl⟩ : ∃ m, n = m + 1 := ⟨n - 1, by have := hv.pi.lf; omega⟩
      have hm : 13 < m := by have := hv.pi.lf; omega
      have v1 := hv.node hN
      have g1 := node_gd hv.pi
      have l1 := g1.lf
      show Tot (p_parse_parser_statement_b (p_parse_parser_choice m) (p_parse_parser_loop m) m p d) _
      unfold p_parse_parser_statement_b
      rw [node_eq hv.pi, Option.bind_some, hv.tok]
      refine Tot.bind (P := fun q => match q with | .inl z => GA p z.1 ∧ Rs D (N + (1 + (sz i + sz x))) (semi0 :: ys) z.1 (z.2 = ⟨9, t.At_, t.Text_, 0, [i, x]⟩) | .inr z => GA p z.2 ∧ Rs D (N + (1 + (sz i + sz x))) ys z.2 (z.1 = ⟨9, t.At_, t.Text_, 0, [i, x]⟩)) ?_ fun q hq => st_end semi0_t hm q hq
      rw [tk_no v1 ht.not hm, tk_no v1 ht.not hm, tk_no v1 ht.not hm, tk_no v1 ht.not hm, tk_no v1 ht.not hm, tk_no v1 ht.not hm]
      refine Tot.bind (P := fun r => GA (nodeP p) r.2 ∧ Rs D (N + (1 + (sz i + sz x))) ys r.2 (r.1 = ⟨9, t.At_, t.Text_, 0, [i, x]⟩)) ?_ fun r ⟨g3, k⟩ => .some ⟨g1.ga g3, k⟩
      have v2 := (v1.name ht).2
      have g2 := name_ga v1.pi
      have l2 := g2.toGd.lf
      have hb1 : isB (nameP (nodeP p)).2 [40] = false := v2.nB' fun k => absurd (hu.two k) (by decide)
      unfold p_parse_parser_plain
      rw [name_eq v1.pi hm, Option.bind_some, is_eq g2.inv hm, Option.bind_some, hb1, if_neg (by simp), (v1.name ht).1, tk_yes v2 hu hm, wrap64 (n := d + 1) (by omega) (by omega), wrap64 (n := d + 2) (by omega) (by omega)]
      refine Tot.bind (P := fun y' => GA (nameP (nodeP p)).2 y'.1 ∧ Rs D (N + (1 + (sz i + sz x))) (y :: ys) y'.1 (y'.2 = ⟨9, t.At_, t.Text_, 0, [i, x]⟩)) ?_ fun y ⟨g3, k⟩ => ?_
      · have g3 := (take_gd v2.pi (s := [91])).1
        have l3 := g3.lf
        refine (ih.expr (v2.take hu) (by omega) (by omega) (by omega)).bind fun r ⟨g4, k4⟩ => ?_
        have g5 := need_ga g4.inv (s := [93])
        have g6 := need_ga g5.inv (s := [61])
        have l4 := g4.toGd.lf
        have l5 := g5.toGd.lf
        have l6 := g6.toGd.lf
        rw [need_eq g4.inv hm, Option.bind_some, need_eq g5.inv hm, Option.bind_some]
        refine (((k4.need hv1).need hw).expr g6.inv ih2 (by omega) (by omega) (by omega)).bind fun r2 ⟨g7, k7⟩ => Tot.need (by simp) (.some ⟨g3.ga (g4.ga (g5.ga (g6.ga g7))), ?_⟩)
        exact (k7.mono fun ⟨e1, e2⟩ => by rw [e1, e2]; rfl).cast (by omega)
      · have g4 := need_ga g3.inv (s := [59])
        rw [need_eq g3.inv hm, Option.bind_some]
        exact .some ⟨g2.ga (g3.ga g4), k.need hy⟩
    · exact (st_full hv hN hb).mono fun r ⟨g, e⟩ => ⟨g, .inr (.inl ⟨e, by omega⟩)⟩
  | @set d t u us x v vs ht hu h1 hv1 =>
    intro n p N hv h0 h3 hb
    have ih := h1.run hD
    have hz := sz_pos x
    rw [szL_1, sz_mk, szL_1]
    by_cases hN : N < 16384
    · obtain ⟨m, rfl⟩ : ∃ m, n = m + 1 := ⟨n - 1, by have := hv.pi.lf; omega⟩
      have hm : 13 < m := by have := hv.pi.lf; omega
      have v1 := hv.node hN
      have g1 := node_gd hv.pi
      have l1 := g1.lf
      show Tot (p_parse_parser_statement_b (p_parse_parser_choice m) (p_parse_parser_loop m) m p d) _
      unfold p_parse_parser_statement_b
      rw [node_eq hv.pi, Option.bind_some, hv.tok]
      refine Tot.bind (P := fun q => match q with | .inl z => GA p z.1 ∧ Rs D (N + (1 + sz x)) (semi0 :: vs) z.1 (z.2 = ⟨8, t.At_, t.Text_, 0, [x]⟩) | .inr z => GA p z.2 ∧ Rs D (N + (1 + sz x)) vs z.2 (z.1 = ⟨8, t.At_, t.Text_, 0, [x]⟩)) ?_ fun q hq => st_end semi0_t hm q hq
      rw [tk_no v1 ht.not hm, tk_no v1 ht.not hm, tk_no v1 ht.not hm, tk_no v1 ht.not hm, tk_no v1 ht.not hm, tk_no v1 ht.not hm]
      refine Tot.bind (P := fun r => GA (nodeP p) r.2 ∧ Rs D (N + (1 + sz x)) vs r.2 (r.1 = ⟨8, t.At_, t.Text_, 0, [x]⟩)) ?_ fun r ⟨g3, k⟩ => .some ⟨g1.ga g3, k⟩
      have v2 := (v1.name ht).2
      have g2 := name_ga v1.pi
      have l2 := g2.toGd.lf
      have hb1 : isB (nameP (nodeP p)).2 [40] = false := v2.nB' fun k => absurd (hu.two k) (by decide)
      unfold p_parse_parser_plain
      rw [name_eq v1.pi hm, Option.bind_some, is_eq g2.inv hm, Option.bind_some, hb1, if_neg (by simp), (v1.name ht).1, tk_no v2 (fun k => absurd (hu.two k) (by decide)) hm, wrap64 (n := d + 1) (by omega) (by omega)]
      refine Tot.bind (P := fun y' => GA (nameP (nodeP p)).2 y'.1 ∧ Rs D (N + (1 + sz x)) (v :: vs) y'.1 (y'.2 = ⟨8, t.At_, t.Text_, 0, [x]⟩)) ?_ fun y ⟨g3, k⟩ => ?_
      · have g3 := need_ga v2.pi (s := [61])
        have l3 := g3.toGd.lf
        rw [need_eq v2.pi hm, Option.bind_some]
        exact (ih.expr (v2.need hu) (by omega) (by omega) (by omega)).bind fun r ⟨g4, k4⟩ => .some ⟨g3.ga g4, (k4.mono fun e => by rw [e]).cast (by omega)⟩
      · have g4 := need_ga g3.inv (s := [59])
        rw [need_eq g3.inv hm, Option.bind_some]
        exact .some ⟨g2.ga (g3.ga g4), k.need hv1⟩
    · exact (st_full hv hN hb).mono fun r ⟨g, e⟩ => ⟨g, .inr (.inl ⟨e, by omega⟩)⟩
end Go.Proofs.YtolhahlnccekcaaDoor.Abs
