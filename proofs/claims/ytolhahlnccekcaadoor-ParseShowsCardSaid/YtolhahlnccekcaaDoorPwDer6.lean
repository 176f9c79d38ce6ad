/-
  A derivation is parsed, or a limit is met: expressions, the induction.
-/
import Derived.Test.YtolhahlnccekcaaDoorPwDer5
namespace Go.Proofs.YtolhahlnccekcaaDoor.Abs
open Go.RowKit
set_option linter.unusedVariables false
set_option linter.unusedSimpArgs false
def CE (D : Int) : EK → Int → List Tok → List Nd → List Tok → Prop
  | .op, d, ts, xs, us => ∀ (n : Nat) p N, Lv p ts N → 0 ≤ d → d ≤ D + 3 → Lf p + 21 ≤ n → Tot (p_parse_parser_operand n p d) fun r => GA p r.2 ∧ Rs D (N + szL xs) us r.2 (xs = [r.1])
  | .lev l, d, ts, xs, us => ∀ (n : Nat) p N, Lv p ts N → 0 ≤ d → d ≤ D + 3 → l ≤ 7 → Lf p + 29 - l ≤ n → Tot (p_parse_parser_level n p l d) fun r => GA p r.2 ∧ Rs D (N + szL xs) us r.2 (xs = [r.1])
  | .tail l x, d, ts, xs, us => ∀ (n c : Nat) p N, 13 < n → Lv p ts N → 0 ≤ d → d ≤ D + 3 → Lf p + 28 - l ≤ n → 1 ≤ c → (signP p (levP l) ≠ [] → Lf p + 1 ≤ c) → Tot (p_parse_parser_level_l1 (p_parse_parser_level n) n l d c (signP p (levP l)) p x) fun r => Gd p r.1 ∧ Rs D (N + szL xs - sz x) us r.1 (xs = [r.2])
  | .args, d, ts, xs, us => (∀ (n : Nat) p N, Lv p ts N → 0 ≤ d → d ≤ D + 2 → Lf p + 25 ≤ n → Tot (p_parse_parser_list__operand_1 n p d) fun r => GA p r.2 ∧ Rs D (N + szL xs) us r.2 (xs = r.1)) ∧
      ∀ a, d = a + 1 → ∀ (n : Nat) p N, Lv p ts N → 0 ≤ a → d ≤ D + 2 → Lf p + 30 ≤ n → Tot (p_parse_parser_list__plain_1 n p a) fun r => GA p r.2 ∧ Rs D (N + szL xs) us r.2 (xs = r.1)
  | .items, d, ts, xs, us => (∀ (n c : Nat) p N l, Lv p ts N → 0 ≤ d → d ≤ D + 2 → Lf p + 31 ≤ n → (p.l_.length : Int) - p.at_ < c → (l.length : Int) ≤ p.at_ → Tot (p_parse_parser_list__operand_1_l1 (p_parse_parser_operand_1 n) n d c l p) fun r => Gd p r.2 ∧ ((∃ u, isT u [41] ∧ Lv r.2 (u :: us) (N + szL xs) ∧ r.1 = l ++ xs) ∨ Lim D (N + szL xs) r.2)) ∧
      ∀ a, d = a + 1 → ∀ (n c : Nat) p N l, Lv p ts N → 0 ≤ a → d ≤ D + 2 → Lf p + 30 ≤ n → (p.l_.length : Int) - p.at_ < c → (l.length : Int) ≤ p.at_ → Tot (p_parse_parser_list__plain_1_l1 n a c l p) fun r => Gd p r.2 ∧ ((∃ u, isT u [41] ∧ Lv r.2 (u :: us) (N + szL xs) ∧ r.1 = l ++ xs) ∨ Lim D (N + szL xs) r.2)
theorem DE.tail_sz {D : Int} {K d ts xs us} (h : DE D K d ts xs us) : match K with | .tail l x => ∀ y, xs = [y] → sz x ≤ sz y | _ => True := by
  induction h with
  | stop => intro y e; cases e; exact Int.le_refl _
  | one h1 h2 h3 h4 ih =>
    intro y e; cases e
    rw [sz_mk, szL_2]
    have := sz_pos (by assumption : Nd)
    rename_i x _ _ _ y _
    have := sz_pos y
    omega
  | more h1 h2 h3 h4 h5 h6 h7 ih1 ih2 =>
    intro z e
    have := ih2 z e
    rw [sz_mk, szL_2] at this
    rename_i x _ _ _ y _ _ _
    have := sz_pos y
    omega
  | _ => trivial
theorem DE.args_hd {D d ts xs us} (h : DE D .args d ts xs us) : ∃ t r, ts = t :: r ∧ isT t [40] := by
  cases h with
  | none h1 h2 => exact ⟨_, _, rfl, h1⟩
  | args h1 h2 h3 => exact ⟨_, _, rfl, h1⟩
section
variable {D d : Int} {ts us : List Tok} {x : Nd} {N : Int} {n m : Nat} {p : T_parse_parser}
theorem CE.expr (h : CE D (.lev 0) d ts [x] us) (hv : Lv p ts N) (h0 : 0 ≤ d) (h1 : d ≤ D + 3) (hb : Lf p + 30 ≤ n) : Tot (p_parse_parser_expr n p d) fun r => GA p r.2 ∧ Rs D (N + sz x) us r.2 (r.1 = x) := by
  obtain ⟨m, rfl⟩ : ∃ m, n = m + 1 := ⟨n - 1, by have := hv.pi.lf; omega⟩
  show Tot (p_parse_parser_expr_b (p_parse_parser_level m) m p d) _
  unfold p_parse_parser_expr_b
  have h' : ∀ (n : Nat) p N, Lv p ts N → 0 ≤ d → d ≤ D + 3 → (0 : Nat) ≤ 7 → Lf p + 29 - (0 : Nat) ≤ n → Tot (p_parse_parser_level n p (0 : Nat) d) fun r => GA p r.2 ∧ Rs D (N + szL [x]) us r.2 ([x] = [r.1]) := h
  refine (h' m p N hv h0 h1 (by omega) (by omega)).bind fun r ⟨g, k⟩ => .some ⟨g, ?_⟩
  rw [szL_1] at k
  exact k.mono fun e => by injection e with e _; exact e.symm
theorem tail_full {t : Tok} {s : Str} {l c : Nat} (h : Lv p (t :: ts) N) (hN : ¬ N < 16384) (hl : l < 7) (hn : 13 < n) (hd : 0 ≤ d) (hs : s ≠ []) (hb : Lf p + 28 - l ≤ n) (hc : Lf p + 1 ≤ c) : Tot (p_parse_parser_level_l1 (p_parse_parser_level n) n l d c s p x) fun r => Gd p r.1 ∧ r.1.e_ = 136 := by
  have l0 := h.pi.lf
  obtain ⟨c, rfl⟩ : ∃ e, c = e + 1 := ⟨c - 1, by omega⟩
  obtain ⟨c, rfl⟩ : ∃ e, c = e + 1 := ⟨c - 1, by omega⟩
  obtain ⟨e1, e2⟩ := h.full hN
  have e3 : (nodeP p).e_ = 136 := by rw [e1]; exact e2
  have hne : (nodeP p).e_ ≠ 0 := by rw [e3]; decide
  have g1 := node_gd h.pi
  have l1 := g1.lf
  unfold p_parse_parser_level_l1
  rw [if_pos (by simpa using hs), node_eq h.pi, Option.bind_some, need_eq g1.inv hn, Option.bind_some, need_dead hne, wrap64 (n := (l : Int) + 1) (by omega) (by omega)]
  refine ((grp_ok n).2.2.1 (nodeP p) ((l : Int) + 1) d g1.inv (by omega) (by omega) (by omega)).bind fun r g2 => ?_
  have e4 := (g2.toGd.err' hne).1.trans e3
  refine Tot.iteb (fun _ => .some ⟨g1.trans g2.toGd, e4⟩) fun _ => ?_
  rw [sign_eqP g2.inv hn (by omega) (by omega), Option.bind_some, sign_dead (by rw [e4]; decide)]
  unfold p_parse_parser_level_l1
  rw [if_neg (by simp)]
  exact .some ⟨g1.trans g2.toGd, e4⟩
end
theorem DE.run {D : Int} (hD : D ≤ 1099511627776) {K d ts xs us} (h : DE D K d ts xs us) : CE D K d ts xs us := by
  induction h with
  | @paren d t ts x u us hd ht h1 hu ih =>
    intro n p N hv h0 h3 hb
    obtain ⟨m, rfl⟩ : ∃ m, n = m + 1 := ⟨n - 1, by have := hv.pi.lf; omega⟩
    have hm : 13 < m := by have := hv.pi.lf; omega
    by_cases h64 : 64 < d
    · exact (op_deep hv.pi hv.e0 h64 hb).mono fun r ⟨g, e⟩ => ⟨g, .inr (.inr ⟨e, by omega⟩)⟩
    rw [op_paren hv h0 h64 ht hm]
    obtain ⟨_, g2, e2⟩ := (take_gd hv.pi (s := [40])).2.1 (hv.isB ht)
    have l2 := g2.lf e2
    refine (ih.expr (hv.take ht) (by omega) (by omega) (by omega)).bind fun r ⟨g3, k⟩ => ?_
    have g4 := need_ga g3.inv (s := [41])
    rw [need_eq g3.inv hm, Option.bind_some]
    exact .some ⟨g2.ga (g3.ga g4), by rw [szL_1]; exact (k.need hu).mono fun e => by rw [e]⟩
  | @un d t s ts x us hd hs ht h1 ih =>
    intro n p N hv h0 h3 hb
    obtain ⟨m, rfl⟩ : ∃ m, n = m + 1 := ⟨n - 1, by have := hv.pi.lf; omega⟩
    have hm : 13 < m := by have := hv.pi.lf; omega
    have hz := sz_pos x
    rw [szL_1, sz_mk, szL_1]
    by_cases h64 : 64 < d
    · exact (op_deep hv.pi hv.e0 h64 hb).mono fun r ⟨g, e⟩ => ⟨g, .inr (.inr ⟨e, by omega⟩)⟩
    have h5 : isB p [40] = false := hv.nB' fun k => by rcases hs with rfl | rfl <;> exact absurd (ht.two k) (by decide)
    by_cases hN : N < 16384
    · rw [op_un hv hN h0 h64 hs ht hm]
      have v4 := hv.node hN
      have g1 := node_gd hv.pi
      obtain ⟨_, g2, e2⟩ := (take_gd v4.pi (s := s)).2.1 (v4.isB ht)
      have l1 := g1.lf
      have l2 := g2.lf e2
      refine (ih m _ _ (v4.take ht) (by omega) (by omega) (by omega)).bind fun r ⟨g3, k⟩ => .some ⟨g1.ga (g2.ga g3), ?_⟩
      rw [szL_1, Int.add_assoc] at k
      exact k.mono fun e => by rw [e]
    · exact (op_full hv hN h64 h5 hb).mono fun r ⟨g, e⟩ => ⟨g, .inr (.inl ⟨e, by omega⟩)⟩
  | @num d t ts hd hk =>
    intro n p N hv h0 h3 hb
    obtain ⟨m, rfl⟩ : ∃ m, n = m + 1 := ⟨n - 1, by have := hv.pi.lf; omega⟩
    have hm : 13 < m := by have := hv.pi.lf; omega
    rw [szL_1, sz_mk, szL_nil]
    by_cases h64 : 64 < d
    · exact (op_deep hv.pi hv.e0 h64 hb).mono fun r ⟨g, e⟩ => ⟨g, .inr (.inr ⟨e, by omega⟩)⟩
    by_cases hN : N < 16384
    · rw [op_num hv hN h64 hk hm]
      have v4 := hv.node hN
      have g1 := node_gd hv.pi
      exact .some ⟨g1.ga (num_ga g1.inv), .inl ⟨(v4.num hk).2, rfl⟩⟩
    · exact (op_full hv hN h64 (hv.nB' (num_not hk)) hb).mono fun r ⟨g, e⟩ => ⟨g, .inr (.inl ⟨e, by omega⟩)⟩
  | @ref d t ts hd hk h40 h91 =>
    intro n p N hv h0 h3 hb
    obtain ⟨m, rfl⟩ : ∃ m, n = m + 1 := ⟨n - 1, by have := hv.pi.lf; omega⟩
    have hm : 13 < m := by have := hv.pi.lf; omega
    rw [szL_1, sz_mk, szL_nil]
    by_cases h64 : 64 < d
    · exact (op_deep hv.pi hv.e0 h64 hb).mono fun r ⟨g, e⟩ => ⟨g, .inr (.inr ⟨e, by omega⟩)⟩
    by_cases hN : N < 16384
    · have v4 := hv.node hN
      have v8 := (v4.name hk).2
      have g1 := node_gd hv.pi
      rw [op_name hv hN h0 h64 hk hm, if_neg (by rw [v8.nB h40]; decide), if_neg (by rw [v8.nB h91]; decide)]
      exact .some ⟨g1.ga (name_ga g1.inv), .inl ⟨v8, rfl⟩⟩
    · exact (op_full hv hN h64 (hv.nB' hk.not) hb).mono fun r ⟨g, e⟩ => ⟨g, .inr (.inl ⟨e, by omega⟩)⟩
  | @call d t ts xs us hd hk h1 ih =>
    intro n p N hv h0 h3 hb
    obtain ⟨m, rfl⟩ : ∃ m, n = m + 1 := ⟨n - 1, by have := hv.pi.lf; omega⟩
    have hm : 13 < m := by have := hv.pi.lf; omega
    have hz := szL_ge xs
    rw [szL_1, sz_mk]
    by_cases h64 : 64 < d
    · exact (op_deep hv.pi hv.e0 h64 hb).mono fun r ⟨g, e⟩ => ⟨g, .inr (.inr ⟨e, by omega⟩)⟩
    by_cases hN : N < 16384
    · have v4 := hv.node hN
      have v8 := (v4.name hk).2
      have g1 := node_gd hv.pi
      have g2 := g1.ga (name_ga g1.inv)
      have l2 := g2.lf v8.e0
      obtain ⟨t', ts', e, ht'⟩ := h1.args_hd
      rw [op_name hv hN h0 h64 hk hm, if_pos (by rw [e] at v8; exact v8.isB ht')]
      refine (ih.1 m _ _ v8 h0 (by omega) (by omega)).bind fun r ⟨g3, k⟩ => .some ⟨g2.ga g3, ?_⟩
      rw [Int.add_assoc] at k
      exact k.mono fun e => by rw [e]
    · exact (op_full hv hN h64 (hv.nB' hk.not) hb).mono fun r ⟨g, e⟩ => ⟨g, .inr (.inl ⟨e, by omega⟩)⟩
  | @index d t u us x v vs hd hk hu h1 hv' ih =>
    intro n p N hv h0 h3 hb
    obtain ⟨m, rfl⟩ : ∃ m, n = m + 1 := ⟨n - 1, by have := hv.pi.lf; omega⟩
    have hm : 13 < m := by have := hv.pi.lf; omega
    have hz := sz_pos x
    rw [szL_1, sz_mk, szL_1]
    by_cases h64 : 64 < d
    · exact (op_deep hv.pi hv.e0 h64 hb).mono fun r ⟨g, e⟩ => ⟨g, .inr (.inr ⟨e, by omega⟩)⟩
    by_cases hN : N < 16384
    · have v4 := hv.node hN
      have v8 := (v4.name hk).2
      have g1 := node_gd hv.pi
      have g2 := g1.ga (name_ga g1.inv)
      have l2 := g2.lf v8.e0
      obtain ⟨g3, _, _⟩ := take_gd v8.pi (s := [91])
      have l3 := g3.lf
      rw [op_name hv hN h0 h64 hk hm, if_neg (by rw [v8.nB' fun k => absurd (hu.two k) (by decide)]; decide), if_pos (v8.isB hu)]
      refine (ih.expr (v8.take hu) (by omega) (by omega) (by omega)).bind fun r ⟨g4, k⟩ => ?_
      have g5 := need_ga g4.inv (s := [93])
      rw [need_eq g4.inv hm, Option.bind_some]
      refine .some ⟨g2.ga (g3.ga (g4.ga g5)), ?_⟩
      rw [Int.add_assoc] at k
      exact (k.need hv').mono fun e => by rw [e]
    · exact (op_full hv hN h64 (hv.nB' hk.not) hb).mono fun r ⟨g, e⟩ => ⟨g, .inr (.inl ⟨e, by omega⟩)⟩
  | @last d ts x us h1 ih =>
    intro n p N hv h0 h3 _ hb
    obtain ⟨m, rfl⟩ : ∃ m, n = m + 1 := ⟨n - 1, by have := hv.pi.lf; omega⟩
    show Tot (p_parse_parser_level_b (p_parse_parser_operand m) (p_parse_parser_level m) m p (7 : Nat) d) _
    unfold p_parse_parser_level_b
    rw [if_pos (by simp)]
    exact (ih m p N hv h0 h3 (by omega)).bind fun r k => .some k
  | @lev l d ts x us y vs hl h1 h2 ih1 ih2 =>
    intro n p N hv h0 h3 _ hb
    obtain ⟨m, rfl⟩ : ∃ m, n = m + 1 := ⟨n - 1, by have := hv.pi.lf; omega⟩
    have hm : 13 < m := by have := hv.pi.lf; omega
    show Tot (p_parse_parser_level_b (p_parse_parser_operand m) (p_parse_parser_level m) m p l d) _
    unfold p_parse_parser_level_b
    rw [if_neg (by simp only [beq_iff_eq]; omega), wrap64 (n := (l : Int) + 1) (by omega) (by omega)]
    refine (ih1 m p N hv h0 h3 (by omega) (by omega)).bind fun r ⟨g, k⟩ => ?_
    have l1 := g.toGd.lf
    have l2 := g.inv.lf
    rw [sign_eqP g.inv hm (by omega) (by omega), Option.bind_some]
    have hz := h2.tail_sz y rfl
    rcases k with ⟨v, e⟩ | k
    · have e' : r.1 = x := by injection e with e _; exact e.symm
      rw [e']
      refine (ih2 m m r.2 _ hm v h0 h3 (by omega) (by omega) (fun _ => by omega)).bind fun s ⟨g2, k2⟩ => .some ⟨g.gd g2, ?_⟩
      rw [szL_1, szL_1, show N + sz x + sz y - sz x = N + sz y by omega] at k2
      rw [szL_1]; exact k2
    · obtain ⟨c, rfl⟩ : ∃ e, m = e + 1 := ⟨m - 1, by omega⟩
      rw [sign_dead k.ne]
      unfold p_parse_parser_level_l1
      rw [if_neg (by simp)]
      exact .some ⟨g, .inr (k.mono (by rw [szL_1, szL_1]; omega))⟩
  | @stop l x d us hl hn =>
    intro n c p N hm hv h0 h3 hb hc hs
    obtain ⟨c, rfl⟩ : ∃ e, c = e + 1 := ⟨c - 1, by omega⟩
    rw [sign_none hv hn]
    unfold p_parse_parser_level_l1
    rw [if_neg (by simp)]
    refine .some ⟨.refl hv.pi, .inl ⟨?_, rfl⟩⟩
    rw [szL_1, show N + sz x - sz x = N by omega]; exact hv
  | @one s x d u us y vs hs hne hu h1 ih =>
    intro n c p N hm hv h0 h3 hb hc hcs
    have e1 := sign_is hv hs hne hu
    rw [show signP p (levP (3 : Nat)) = s from e1] at hcs ⊢
    have hc' := hcs hne
    have hz := sz_pos y
    have hz2 : N + szL [⟨19, u.At_, s, 0, [x, y]⟩] - sz x = N + 1 + sz y := by rw [szL_1, sz_mk, szL_2]; omega
    rw [hz2]
    by_cases hN : N < 16384
    · obtain ⟨c, rfl⟩ : ∃ e, c = e + 1 := ⟨c - 1, by omega⟩
      have v1 := hv.node hN
      have g1 := node_gd hv.pi
      have g2 := need_ga g1.inv (s := s)
      have l1 := g1.lf
      have l2 := g2.toGd.lf
      unfold p_parse_parser_level_l1
      rw [if_pos (by simpa using hne), node_eq hv.pi, Option.bind_some, need_eq g1.inv hm, Option.bind_some, hv.tok, wrap64 (n := ((3 : Nat) : Int) + 1) (by omega) (by omega)]
      refine (ih n _ _ (v1.need hu) h0 h3 (by omega) (by omega)).bind fun r ⟨g3, k⟩ => ?_
      rw [if_pos (by simp)]
      refine .some ⟨g1.trans (g2.ga g3).toGd, ?_⟩
      rw [szL_1] at k
      exact k.mono fun e => by injection e with e _; rw [e]
    · exact (tail_full hv hN (by omega) hm h0 hne hb hc').mono fun r ⟨g, e⟩ => ⟨g, .inr (.inl ⟨e, by omega⟩)⟩
  | @more l s x d u us y vs z ws hl hl3 hs hne hu h1 h2 ih1 ih2 =>
    intro n c p N hm hv h0 h3 hb hc hcs
    have e1 := sign_is hv hs hne hu
    rw [e1] at hcs ⊢
    have hc' := hcs hne
    have hz := sz_pos y
    have hz2 := h2.tail_sz z rfl
    rw [sz_mk, szL_2] at hz2
    have l0 := hv.pi.lf
    rw [szL_1]
    by_cases hN : N < 16384
    · obtain ⟨c, rfl⟩ : ∃ e, c = e + 1 := ⟨c - 1, by omega⟩
      have v1 := hv.node hN
      have g1 := node_gd hv.pi
      have g2 := need_ga g1.inv (s := s)
      have l1 := g1.lf
      have l2 := g2.toGd.lf
      unfold p_parse_parser_level_l1
      rw [if_pos (by simpa using hne), node_eq hv.pi, Option.bind_some, need_eq g1.inv hm, Option.bind_some, hv.tok, wrap64 (n := (l : Int) + 1) (by omega) (by omega)]
      refine (ih1 n _ _ (v1.need hu) h0 h3 (by omega) (by omega)).bind fun r ⟨g3, k⟩ => ?_
      have l3 := g3.toGd.lf
      rw [if_neg (by simp only [beq_iff_eq]; omega), sign_eqP g3.inv hm (by omega) (by omega), Option.bind_some]
      have g4 := g1.ga (g2.ga g3)
      rcases k with ⟨v, e⟩ | k
      · have e' : r.1 = y := by injection e with e _; exact e.symm
        rw [e']
        have l4 := g4.lf v.e0
        refine (ih2 n c r.2 _ hm v h0 h3 (by omega) (by omega) (fun _ => by omega)).mono fun w ⟨g5, k5⟩ => ⟨g4.toGd.trans g5, ?_⟩
        rw [szL_1, szL_1, sz_mk, szL_2, show N + 1 + sz y + sz z - (1 + (sz x + sz y)) = N + sz z - sz x by omega] at k5
        exact k5
      · obtain ⟨c, rfl⟩ : ∃ e, c = e + 1 := ⟨c - 1, by omega⟩
        rw [sign_dead k.ne]
        unfold p_parse_parser_level_l1
        rw [if_neg (by simp)]
        exact .some ⟨g4.toGd, .inr (k.mono (by rw [szL_1]; omega))⟩
    · exact (tail_full hv hN hl hm h0 hne hb hc').mono fun r ⟨g, e⟩ => ⟨g, .inr (.inl ⟨e, by omega⟩)⟩
  | @none d t u us ht hu =>
    refine ⟨fun n p N hv h0 h3 hb => ?_, fun a ha n p N hv h0 h3 hb => ?_⟩
    · obtain ⟨m, rfl⟩ : ∃ m, n = m + 1 := ⟨n - 1, by have := hv.pi.lf; omega⟩
      have hm : 13 < m := by have := hv.pi.lf; omega
      show Tot (p_parse_parser_list__operand_1_b _ m p d) _
      unfold p_parse_parser_list__operand_1_b
      have v1 := hv.need ht
      rw [need_eq hv.pi hm, Option.bind_some, take_eq v1.pi hm, Option.bind_some, if_pos (v1.isB hu)]
      exact .some ⟨(need_ga hv.pi).gd (take_gd v1.pi).1, .inl ⟨by rw [szL_nil, Int.add_zero]; exact v1.take hu, rfl⟩⟩
    · have hm : 13 < n := by have := hv.pi.lf; omega
      unfold p_parse_parser_list__plain_1
      have v1 := hv.need ht
      rw [need_eq hv.pi hm, Option.bind_some, take_eq v1.pi hm, Option.bind_some, if_pos (v1.isB hu)]
      exact .some ⟨(need_ga hv.pi).gd (take_gd v1.pi).1, .inl ⟨by rw [szL_nil, Int.add_zero]; exact v1.take hu, rfl⟩⟩
  | @args d t ts xs us ht hn h1 ih =>
    refine ⟨fun n p N hv h0 h3 hb => ?_, fun a ha n p N hv h0 h3 hb => ?_⟩
    · obtain ⟨m, rfl⟩ : ∃ m, n = m + 1 := ⟨n - 1, by have := hv.pi.lf; omega⟩
      have hm : 13 < m := by have := hv.pi.lf; omega
      show Tot (p_parse_parser_list__operand_1_b (p_parse_parser_operand_1 m) m p d) _
      unfold p_parse_parser_list__operand_1_b
      have v1 := hv.need ht
      have g1 := need_ga hv.pi (s := [40])
      have l1 := g1.lf v1.e0
      have k0 := v1.pi.lo
      have h5 := v1.nB hn
      rw [need_eq hv.pi hm, Option.bind_some, take_eq v1.pi hm, Option.bind_some, h5, if_neg (by simp), takeP_f h5]
      refine Tot.bind (P := fun y => Gd (needP p [40]) y.2 ∧ ((∃ u, isT u [41] ∧ Lv y.2 (u :: us) (N + szL xs) ∧ y.1 = xs) ∨ Lim D (N + szL xs) y.2)) ((ih.1 m m _ N [] v1 h0 h3 (by omega) (by unfold Lf at hb l1; have := hv.pi.hi; rw [g1.toGd.len] at l1 ⊢; omega) (by simpa using k0)).bind fun y ⟨y1, y2⟩ => .some ⟨y1, y2⟩) fun y ⟨g6, k6⟩ => ?_
      have g7 := need_ga g6.inv (s := [41])
      rw [need_eq g6.inv hm, Option.bind_some]
      refine .some ⟨(g1.gd g6).ga g7, ?_⟩
      rcases k6 with ⟨u, hu, v6, e⟩ | k6
      · exact .inl ⟨v6.need hu, e.symm⟩
      · exact .inr (by rw [show (y.1, needP y.2 [41]).2 = y.2 from need_dead k6.ne]; exact k6)
    · have hm : 13 < n := by have := hv.pi.lf; omega
      unfold p_parse_parser_list__plain_1
      have v1 := hv.need ht
      have g1 := need_ga hv.pi (s := [40])
      have l1 := g1.lf v1.e0
      have k0 := v1.pi.lo
      have h5 := v1.nB hn
      rw [need_eq hv.pi hm, Option.bind_some, take_eq v1.pi hm, Option.bind_some, h5, if_neg (by simp), takeP_f h5]
      refine Tot.bind (P := fun y => Gd (needP p [40]) y.2 ∧ ((∃ u, isT u [41] ∧ Lv y.2 (u :: us) (N + szL xs) ∧ y.1 = xs) ∨ Lim D (N + szL xs) y.2)) ((ih.2 a ha n n _ N [] v1 h0 h3 (by omega) (by unfold Lf at hb l1; have := hv.pi.hi; rw [g1.toGd.len] at l1 ⊢; omega) (by simpa using k0)).bind fun y ⟨y1, y2⟩ => .some ⟨y1, y2⟩) fun y ⟨g6, k6⟩ => ?_
      have g7 := need_ga g6.inv (s := [41])
      rw [need_eq g6.inv hm, Option.bind_some]
      refine .some ⟨(g1.gd g6).ga g7, ?_⟩
      rcases k6 with ⟨u, hu, v6, e⟩ | k6
      · exact .inl ⟨v6.need hu, e.symm⟩
      · exact .inr (by rw [show (y.1, needP y.2 [41]).2 = y.2 from need_dead k6.ne]; exact k6)
  | @item d ts x u us h1 hu ih =>
    have hu4 : ¬ isT u [44] := fun k => absurd (hu.two k) (by decide)
    refine ⟨fun n c p N l hv h0 h3 hb hc hl => ?_, fun a ha n c p N l hv h0 h3 hb hc hl => ?_⟩
    · have k1 := hv.pi.lo
      have k2 := hv.pi.hi
      have k3 := hv.pi.big
      obtain ⟨c, rfl⟩ : ∃ e, c = e + 1 := ⟨c - 1, by omega⟩
      obtain ⟨m, rfl⟩ : ∃ m, n = m + 1 := ⟨n - 1, by have := hv.pi.lf; omega⟩
      have hm : 13 < m + 1 := by have := hv.pi.lf; omega
      unfold p_parse_parser_list__operand_1_l1
      rw [if_pos (by rw [hv.e0]; decide)]
      refine Tot.bind (P := fun r => GA p r.2 ∧ Rs D (N + sz x) (u :: us) r.2 (r.1 = x)) ?_ fun r ⟨g, k⟩ => ?_
      · show Tot (p_parse_parser_operand_1_b (p_parse_parser_expr m) m p d) _
        unfold p_parse_parser_operand_1_b
        rw [wrap64 (n := d + 1) (by omega) (by omega)]
        exact (ih.expr hv (by omega) (by omega) (by omega)).bind fun r k => .some k
      · rw [need_of (by simp only [List.length_singleton]; omega), take_eq g.inv hm, Option.bind_some]
        rw [szL_1]
        rcases k with ⟨v, e⟩ | k
        · have h5 := v.nB' hu4
          rw [h5, takeP_f h5, if_pos (by simp)]
          exact .some ⟨g.toGd, .inl ⟨u, hu, v, by rw [e]⟩⟩
        · rw [isB_dead k.ne, take_dead k.ne, if_pos (by simp)]
          exact .some ⟨g.toGd, .inr k⟩
    · have k1 := hv.pi.lo
      have k2 := hv.pi.hi
      have k3 := hv.pi.big
      obtain ⟨c, rfl⟩ : ∃ e, c = e + 1 := ⟨c - 1, by omega⟩
      have hm : 13 < n := by have := hv.pi.lf; omega
      unfold p_parse_parser_list__plain_1_l1
      rw [if_pos (by rw [hv.e0]; decide)]
      refine Tot.bind (P := fun r => GA p r.2 ∧ Rs D (N + sz x) (u :: us) r.2 (r.1 = x)) ?_ fun r ⟨g, k⟩ => ?_
      · unfold p_parse_parser_plain_1
        rw [wrap64 (n := a + 2) (by omega) (by omega), show a + 2 = d + 1 by omega]
        exact (ih.expr hv (by omega) (by omega) (by omega)).bind fun r k => .some k
      · rw [need_of (by simp only [List.length_singleton]; omega), take_eq g.inv hm, Option.bind_some]
        rw [szL_1]
        rcases k with ⟨v, e⟩ | k
        · have h5 := v.nB' hu4
          rw [h5, takeP_f h5, if_pos (by simp)]
          exact .some ⟨g.toGd, .inl ⟨u, hu, v, by rw [e]⟩⟩
        · rw [isB_dead k.ne, take_dead k.ne, if_pos (by simp)]
          exact .some ⟨g.toGd, .inr k⟩
  | @items d ts x u us xs vs h1 hu h2 ih ih2 =>
    have hz := szL_ge xs
    refine ⟨fun n c p N l hv h0 h3 hb hc hl => ?_, fun a ha n c p N l hv h0 h3 hb hc hl => ?_⟩
    · have k1 := hv.pi.lo
      have k2 := hv.pi.hi
      have k3 := hv.pi.big
      obtain ⟨c, rfl⟩ : ∃ e, c = e + 1 := ⟨c - 1, by omega⟩
      have hm : 13 < n := by have := hv.pi.lf; omega
      unfold p_parse_parser_list__operand_1_l1
      rw [if_pos (by rw [hv.e0]; decide)]
      refine Tot.bind (P := fun r => GA p r.2 ∧ Rs D (N + sz x) (u :: us) r.2 (r.1 = x)) ?_ fun r ⟨g, k⟩ => ?_
      · obtain ⟨m, rfl⟩ : ∃ m, n = m + 1 := ⟨n - 1, by have := hv.pi.lf; omega⟩
        show Tot (p_parse_parser_operand_1_b (p_parse_parser_expr m) m p d) _
        unfold p_parse_parser_operand_1_b
        rw [wrap64 (n := d + 1) (by omega) (by omega)]
        exact (ih.expr hv (by omega) (by omega) (by omega)).bind fun r k => .some k
      · rw [need_of (by simp only [List.length_singleton]; omega), take_eq g.inv hm, Option.bind_some]
        rw [szL_cons]
        rcases k with ⟨v, e⟩ | k
        · have g2 := g.gd (take_gd v.pi (s := [44])).1
          have v2 := v.take hu
          have a1 := g.at'
          have a2 := g2.adv v2.e0
          have a3 := g2.toGd.len
          have l2 := g2.toGd.lf
          rw [v.isB hu, if_neg (by simp)]
          refine (ih2.1 n c _ _ (l ++ [r.1]) v2 h0 h3 (by omega) (by omega) (by simp only [List.length_append, List.length_singleton]; omega)).mono fun w ⟨g5, k5⟩ => ⟨g2.toGd.trans g5, ?_⟩
          rw [Int.add_assoc] at k5
          rcases k5 with ⟨u', hu', v', e'⟩ | k5
          · exact .inl ⟨u', hu', v', by rw [e', e]; simp⟩
          · exact .inr k5
        · rw [isB_dead k.ne, take_dead k.ne, if_pos (by simp)]
          exact .some ⟨g.toGd, .inr (k.mono (by omega))⟩
    · have k1 := hv.pi.lo
      have k2 := hv.pi.hi
      have k3 := hv.pi.big
      obtain ⟨c, rfl⟩ : ∃ e, c = e + 1 := ⟨c - 1, by omega⟩
      have hm : 13 < n := by have := hv.pi.lf; omega
      unfold p_parse_parser_list__plain_1_l1
      rw [if_pos (by rw [hv.e0]; decide)]
      refine Tot.bind (P := fun r => GA p r.2 ∧ Rs D (N + sz x) (u :: us) r.2 (r.1 = x)) ?_ fun r ⟨g, k⟩ => ?_
      · unfold p_parse_parser_plain_1
        rw [wrap64 (n := a + 2) (by omega) (by omega), show a + 2 = d + 1 by omega]
        exact (ih.expr hv (by omega) (by omega) (by omega)).bind fun r k => .some k
      · rw [need_of (by simp only [List.length_singleton]; omega), take_eq g.inv hm, Option.bind_some]
        rw [szL_cons]
        rcases k with ⟨v, e⟩ | k
        · have g2 := g.gd (take_gd v.pi (s := [44])).1
          have v2 := v.take hu
          have a1 := g.at'
          have a2 := g2.adv v2.e0
          have a3 := g2.toGd.len
          have l2 := g2.toGd.lf
          rw [v.isB hu, if_neg (by simp)]
          refine (ih2.2 a ha n c _ _ (l ++ [r.1]) v2 h0 h3 (by omega) (by omega) (by simp only [List.length_append, List.length_singleton]; omega)).mono fun w ⟨g5, k5⟩ => ⟨g2.toGd.trans g5, ?_⟩
          rw [Int.add_assoc] at k5
          rcases k5 with ⟨u', hu', v', e'⟩ | k5
          · exact .inl ⟨u', hu', v', by rw [e', e]; simp⟩
          · exact .inr k5
        · rw [isB_dead k.ne, take_dead k.ne, if_pos (by simp)]
          exact .some ⟨g.toGd, .inr (k.mono (by omega))⟩
end Go.Proofs.YtolhahlnccekcaaDoor.Abs
