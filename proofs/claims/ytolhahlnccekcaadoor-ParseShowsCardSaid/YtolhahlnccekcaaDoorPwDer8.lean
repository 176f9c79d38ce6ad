/-
  A derivation is parsed, or a limit is met: functions, the whole.
-/
import Derived.Test.YtolhahlnccekcaaDoorPwDer7
namespace Go.Proofs.YtolhahlnccekcaaDoor.Abs
open Go.RowKit
set_option linter.unusedVariables false
set_option linter.unusedSimpArgs false
section
variable {p q : T_parse_parser} {t : Tok} {ts us vs : List Tok} {N M D d : Int} {s w : Str} {n m : Nat} {x : Nd} {xs : List Nd} {ok : Prop}
theorem cparam (h : DPar ts x us) (hv : Lv p ts N) (hn : 13 < n) : Tot (p_parse_parser_param n p) fun r => GA p r.2 ∧ Rs D (N + sz x) us r.2 (r.1 = x) := by
  have hz := sz_pos x
  by_cases hN : N < 16384
  · have v1 := hv.node hN
    have g1 := node_gd hv.pi
    obtain ⟨c, hc⟩ : ∃ d, n = d + 4 := ⟨n - 4, by omega⟩
    unfold p_parse_parser_param
    cases h with
    | @word t u k s v vs ht hu hk hs =>
      have v2 := (v1.name ht).2
      have g2 := name_ga v1.pi
      have v3 := v2.need hu
      have g3 := need_ga v2.pi (s := [58])
      have hl := fun x y => param_l1_eq v3.pi hn (c := c) (x := x) (y := y)
      simp only [← hc] at hl
      rw [node_eq hv.pi, Option.bind_some, name_eq v1.pi hn, Option.bind_some, need_eq v2.pi hn, Option.bind_some, hl, Option.bind_some, (v1.name ht).1, hv.tok]
      rw [sz_mk, szL_nil]
      have g4 := (take_gd v3.pi (s := s)).1
      have v4 := v3.take hs
      have fin : Rs D (N + (1 + 0)) us (takeP (needP (nameP (nodeP p)).2 [58]) s) True := .inl ⟨v4, trivial⟩
      rcases hk with ⟨rfl, rfl⟩ | ⟨rfl, rfl⟩ | ⟨rfl, rfl⟩
      · rw [if_pos (v3.isB hs)]
        exact .some ⟨(g1.ga (g2.ga g3)).gd g4, fin.mono fun _ => rfl⟩
      · rw [if_neg (by rw [v3.nB' fun k => absurd (hs.two k) (by decide)]; decide), if_pos (v3.isB hs)]
        exact .some ⟨(g1.ga (g2.ga g3)).gd g4, fin.mono fun _ => rfl⟩
      · rw [if_neg (by rw [v3.nB' fun k => absurd (hs.two k) (by decide)]; decide), if_neg (by rw [v3.nB' fun k => absurd (hs.two k) (by decide)]; decide), if_pos (v3.isB hs)]
        exact .some ⟨(g1.ga (g2.ga g3)).gd g4, fin.mono fun _ => rfl⟩
    | @arr t u v w x' ys ht hu hv1 hw hx =>
      have v2 := (v1.name ht).2
      have g2 := name_ga v1.pi
      have v3 := v2.need hu
      have g3 := need_ga v2.pi (s := [58])
      have g5 := node_gd v3.pi
      have g6 := size_ga g5.inv
      have hl := fun x y => param_l1_eq v3.pi hn (c := c) (x := x) (y := y)
      simp only [← hc] at hl
      rw [node_eq hv.pi, Option.bind_some, name_eq v1.pi hn, Option.bind_some, need_eq v2.pi hn, Option.bind_some, hl, Option.bind_some, (v1.name ht).1, hv.tok]
      rw [if_neg (by rw [v3.nB' fun k => absurd (hv1.two k) (by decide)]; decide), if_neg (by rw [v3.nB' fun k => absurd (hv1.two k) (by decide)]; decide), if_neg (by rw [v3.nB' fun k => absurd (hv1.two k) (by decide)]; decide)]
      simp only [Sum.elim_inl]
      rw [node_eq v3.pi, Option.bind_some, size_eq g5.inv hn, Option.bind_some, v3.tok]
      rw [sz_mk, szL_1, sz_mk, szL_nil]
      by_cases hN2 : N + 1 < 16384
      · have v5 := v3.node hN2
        have v6 := v5.need hv1
        have v7 := (v6.num hw).2
        have v8 := v7.need hx
        refine .some ⟨g1.ga (g2.ga (g3.ga (g5.ga g6))), .inl ⟨by rw [show N + (1 + (1 + 0)) = N + 1 + 1 by omega]; exact v8, ?_⟩⟩
        show (⟨3, t.At_, t.Text_, 4, [⟨14, v.At_, [], (numP (needP (nodeP (needP (nameP (nodeP p)).2 [58])) [91])).1, []⟩]⟩ : T_parse_Node) = _
        rw [(v6.num hw).1]
      · obtain ⟨e1, e2⟩ := v3.full hN2
        have e3 : (nodeP (needP (nameP (nodeP p)).2 [58])).e_ = 136 := by rw [e1]; exact e2
        refine .some ⟨g1.ga (g2.ga (g3.ga (g5.ga g6))), .inr (.inl ⟨(g6.toGd.err' (by rw [e3]; decide)).1.trans e3, by omega⟩)⟩
  · obtain ⟨e1, e2⟩ := hv.full hN
    obtain ⟨g1, _⟩ := fail_gd hv.pi (e := 136) (by decide)
    have hne : (failP p 136).e_ ≠ 0 := by rw [e2]; decide
    have e : p_parse_parser_param n p = p_parse_parser_param n (failP p 136) := by
      unfold p_parse_parser_param
      rw [node_eq hv.pi, node_eq g1.inv, Option.bind_some, Option.bind_some, e1, node_dead hne, tok_fail]
    rw [e]
    exact (sparam g1.inv hn).mono fun r ⟨g, _⟩ => ⟨g1.ga g, .inr (.inl ⟨(g.toGd.err' hne).1.trans e2, by omega⟩)⟩
def CPs (D : Int) : Bool → List Tok → List Nd → List Tok → Prop
  | true, ts, xs, us => ∀ (n : Nat) p N, 13 < n → Lv p ts N → (p.l_.length : Int) - p.at_ < n → Tot (p_parse_parser_list__param n p) fun r => GA p r.2 ∧ (r.1.length : Int) ≤ r.2.at_ + 1 ∧ Rs D (N + szL xs) us r.2 (r.1 = xs)
  | false, ts, xs, us => ∀ (n c : Nat) p N l, 13 < n → Lv p ts N → (p.l_.length : Int) - p.at_ < c → (l.length : Int) ≤ p.at_ → Tot (p_parse_parser_list__param_l1 n c l p) fun r => Gd p r.2 ∧ ((∃ u, isT u [41] ∧ Lv r.2 (u :: us) (N + szL xs) ∧ r.1 = l ++ xs) ∨ Lim D (N + szL xs) r.2)
theorem DPars.run {b : Bool} (h : DPars b ts xs us) : CPs D b ts xs us := by
  induction h with
  | @none t u us ht hu =>
    intro n p N hn hv hb
    have v1 := hv.need ht
    have g1 := need_ga hv.pi (s := [40])
    have g2 := (take_gd v1.pi (s := [41])).1
    have k0 := g2.inv.lo
    unfold p_parse_parser_list__param
    rw [need_eq hv.pi hn, Option.bind_some, take_eq v1.pi hn, Option.bind_some, if_pos (v1.isB hu)]
    exact .some ⟨g1.gd g2, by simp only [List.length_nil]; omega, .inl ⟨by rw [szL_nil, Int.add_zero]; exact v1.take hu, rfl⟩⟩
  | @args t ts xs us ht hn1 h1 ih =>
    intro n p N hn hv hb
    refine ((sparams hv.pi hn hb).and (P := fun r => Rs D (N + szL xs) us r.2 (r.1 = xs)) ?_).mono fun r ⟨⟨g, l, _⟩, k⟩ => ⟨g, l, k⟩
    have v1 := hv.need ht
    have g1 := need_ga hv.pi (s := [40])
    have k0 := v1.pi.lo
    have k1 := g1.adv v1.e0
    have h5 := v1.nB hn1
    unfold p_parse_parser_list__param
    rw [need_eq hv.pi hn, Option.bind_some, take_eq v1.pi hn, Option.bind_some, h5, if_neg (by simp), takeP_f h5]
    refine Tot.bind (P := fun y => Gd (needP p [40]) y.2 ∧ ((∃ u, isT u [41] ∧ Lv y.2 (u :: us) (N + szL xs) ∧ y.1 = xs) ∨ Lim D (N + szL xs) y.2)) ((ih n n _ N [] hn v1 (by rw [g1.toGd.len]; omega) (by simpa using k0)).bind fun y ⟨y1, y2⟩ => .some ⟨y1, y2⟩) fun y ⟨g6, k6⟩ => ?_
    rw [need_eq g6.inv hn, Option.bind_some]
    refine .some ?_
    rcases k6 with ⟨u, hu, v6, e⟩ | k6
    · exact .inl ⟨v6.need hu, e⟩
    · exact .inr (by rw [show (y.1, needP y.2 [41]).2 = y.2 from need_dead k6.ne]; exact k6)
  | @item ts x u us h1 hu =>
    have hu4 : ¬ isT u [44] := fun k => absurd (hu.two k) (by decide)
    intro n c p N l hn hv hc hl
    have k1 := hv.pi.lo
    have k2 := hv.pi.hi
    have k3 := hv.pi.big
    obtain ⟨c, rfl⟩ : ∃ e, c = e + 1 := ⟨c - 1, by omega⟩
    unfold p_parse_parser_list__param_l1
    rw [if_pos (by rw [hv.e0]; decide)]
    refine (cparam (D := D) h1 hv hn).bind fun r ⟨g, k⟩ => ?_
    rw [need_of (by simp only [List.length_singleton]; omega), take_eq g.inv hn, Option.bind_some]
    rw [szL_1]
    rcases k with ⟨v, e⟩ | k
    · have h5 := v.nB' hu4
      rw [h5, takeP_f h5, if_pos (by simp)]
      exact .some ⟨g.toGd, .inl ⟨u, hu, v, by rw [e]⟩⟩
    · rw [isB_dead k.ne, take_dead k.ne, if_pos (by simp)]
      exact .some ⟨g.toGd, .inr k⟩
  | @items ts x u us xs vs h1 hu h2 ih2 =>
    have hz := szL_ge xs
    intro n c p N l hn hv hc hl
    have k1 := hv.pi.lo
    have k2 := hv.pi.hi
    have k3 := hv.pi.big
    obtain ⟨c, rfl⟩ : ∃ e, c = e + 1 := ⟨c - 1, by omega⟩
    unfold p_parse_parser_list__param_l1
    rw [if_pos (by rw [hv.e0]; decide)]
    refine (cparam (D := D) h1 hv hn).bind fun r ⟨g, k⟩ => ?_
    rw [need_of (by simp only [List.length_singleton]; omega), take_eq g.inv hn, Option.bind_some]
    rw [szL_cons]
    rcases k with ⟨v, e⟩ | k
    · have g2 := g.gd (take_gd v.pi (s := [44])).1
      have v2 := v.take hu
      have a1 := g.at'
      have a2 := g2.adv v2.e0
      have a3 := g2.toGd.len
      rw [v.isB hu, if_neg (by simp)]
      refine (ih2 n c _ _ (l ++ [r.1]) hn v2 (by omega) (by simp only [List.length_append, List.length_singleton]; omega)).mono fun w ⟨g5, k5⟩ => ⟨g2.toGd.trans g5, ?_⟩
      rw [Int.add_assoc] at k5
      rcases k5 with ⟨u', hu', v', e'⟩ | k5
      · exact .inl ⟨u', hu', v', by rw [e', e]; simp⟩
      · exact .inr k5
    · rw [isB_dead k.ne, take_dead k.ne, if_pos (by simp)]
      exact .some ⟨g.toGd, .inr (k.mono (by omega))⟩
theorem ctail (hD : D ≤ 1099511627776) (hD0 : 0 ≤ D) {t u : Tok} {us vs ws ys : List Tok} {b : Nd} {k at0 n0 n2 n4 : Int} (ht : isT t [102, 110]) (hu : isN u) (h1 : DPars true us xs vs) (h2 : DRes vs k ws) (h3 : DS D .block 1 ws [b] ys) (hv : Lv p (t :: u :: us) N) (hb : Lf p + 46 ≤ n) (e2 : n2 = 2 + n0) (e4 : n4 = 4 + n0) :
    Tot (tailP n p at0 n0 n2 n4) fun r => GA p r.2 ∧ Rs D (N + szL xs + sz b) ys r.2 (r.1 = ⟨2, at0, u.Text_, k + n0, xs ++ [b]⟩) := by
  have hn : 13 < n := by have := hv.pi.lf; omega
  have v1 := hv.need ht
  have v2 := (v1.name hu).2
  have g1 := need_ga hv.pi (s := [102, 110])
  have g2 := name_ga v1.pi
  have g3 := g1.ga g2
  have ih := h3.run hD
  unfold tailP
  rw [need_eq hv.pi hn, Option.bind_some, name_eq v1.pi hn, Option.bind_some, (v1.name hu).1]
  refine (h1.run (D := D) n _ _ hn v2 (by have := g3.toGd.lf; have := hv.pi.hi; have := v2.pi.hi; unfold Lf at *; omega)).bind fun w ⟨g7, hw, k7⟩ => ?_
  have g8 := g3.ga g7
  have k8 := g8.inv.hi
  have k9 := g8.inv.big
  have l8 := g8.toGd.lf
  rw [take_eq g7.inv hn, Option.bind_some]
  have plain : isB w.2 [45, 62] = false → (k7' : Rs D (N + szL xs) ws w.2 (w.1 = xs ∧ k = 0)) → Tot (if (isB w.2 [45, 62], takeP w.2 [45, 62]).1 = true then
      (p_parse_parser_take n (isB w.2 [45, 62], takeP w.2 [45, 62]).2 [117, 51, 50]).bind fun x17 =>
        if x17.1 = true then (p_parse_parser_block n x17.2 1).bind fun x20 => need (w.1.length + [x20.1].length ≤ 1073741824) (some (⟨2, at0, u.Text_, n2, w.1 ++ [x20.1]⟩, x20.2))
        else (p_parse_parser_need n x17.2 [117, 54, 52]).bind fun x25 => (p_parse_parser_block n x25 1).bind fun x27 => need (w.1.length + [x27.1].length ≤ 1073741824) (some (⟨2, at0, u.Text_, n4, w.1 ++ [x27.1]⟩, x27.2))
      else (p_parse_parser_block n (isB w.2 [45, 62], takeP w.2 [45, 62]).2 1).bind fun x32 => need (w.1.length + [x32.1].length ≤ 1073741824) (some (⟨2, at0, u.Text_, n0, w.1 ++ [x32.1]⟩, x32.2)) : Option (T_parse_Node × T_parse_parser)) fun r => GA p r.2 ∧ Rs D (N + szL xs + sz b) ys r.2 (r.1 = ⟨2, at0, u.Text_, k + n0, xs ++ [b]⟩) := by
    intro hf k7'
    rw [hf, takeP_f hf, if_neg (by simp)]
    refine (k7'.block g7.inv ih (by omega) (by omega) (by omega)).bind fun z ⟨g11, k11⟩ => Tot.need (by simp only [List.length_singleton]; omega) (.some ⟨g8.ga g11, k11.mono fun ⟨⟨e1, e3⟩, e5⟩ => by rw [e1, e3, e5, Int.zero_add]⟩)
  rcases k7 with ⟨v7, e7⟩ | k7
  · cases h2 with
    | none h => exact plain (v7.nB h) (.inl ⟨v7, e7, rfl⟩)
    | @short t' u' us' ht' hu' =>
      have v8 := v7.take ht'
      have g9 := (take_gd v7.pi (s := [45, 62])).1
      have g10 := (take_gd v8.pi (s := [117, 51, 50])).1
      have l9 := g9.lf
      have l10 := g10.lf
      rw [v7.isB ht', if_pos rfl, take_eq v8.pi hn, Option.bind_some, v8.isB hu', if_pos rfl]
      refine ((show Rs D _ _ _ True from .inl ⟨v8.take hu', trivial⟩).block g10.inv ih (by omega) (by omega) (by omega)).bind fun z ⟨g11, k11⟩ => Tot.need (by simp only [List.length_singleton]; omega) (.some ⟨(g8.gd (g9.trans g10)).ga g11, k11.mono fun ⟨_, e5⟩ => by rw [e7, e5, e2]⟩)
    | @long t' u' us' ht' hu' =>
      have v8 := v7.take ht'
      have g9 := (take_gd v7.pi (s := [45, 62])).1
      have g10 := need_ga v8.pi (s := [117, 54, 52])
      have l9 := g9.lf
      have l10 := g10.toGd.lf
      have hf := v8.nB' (s := [117, 51, 50]) fun k => absurd (hu'.two k) (by decide)
      rw [v7.isB ht', if_pos rfl, take_eq v8.pi hn, Option.bind_some, hf, if_neg (by simp), takeP_f hf, need_eq v8.pi hn, Option.bind_some]
      refine ((show Rs D _ _ _ True from .inl ⟨v8.need hu', trivial⟩).block g10.inv ih (by omega) (by omega) (by omega)).bind fun z ⟨g11, k11⟩ => Tot.need (by simp only [List.length_singleton]; omega) (.some ⟨(g8.gd g9).ga (g10.ga g11), k11.mono fun ⟨_, e5⟩ => by rw [e7, e5, e4]⟩)
  · exact plain (isB_dead k7.ne) (.inr k7)
theorem DF.run (hD : D ≤ 1099511627776) (hD0 : 0 ≤ D) (h : DF D ts x us) (hv : Lv p ts N) (hb : Lf p + 46 ≤ n) : Tot (p_parse_parser_function n p) fun r => GA p r.2 ∧ Rs D (N + sz x) us r.2 (r.1 = x) := by
  have hn : 13 < n := by have := hv.pi.lf; omega
  have hz := sz_pos x
  by_cases hN : N < 16384
  · have v1 := hv.node hN
    have g1 := node_gd hv.pi
    have g2 := (take_gd v1.pi (s := [101, 120, 112, 111, 114, 116])).1
    have l1 := g1.lf
    have l2 := g2.lf
    rw [function_def, node_eq hv.pi, Option.bind_some]
    simp only
    rw [take_eq v1.pi hn, Option.bind_some]
    simp only
    cases h with
    | @plain t u us' xs vs r ws b ys ht hu h1 h2 h3 =>
      have hf := v1.nB' (s := [101, 120, 112, 111, 114, 116]) fun k => absurd (ht.two k) (by decide)
      rw [hf, if_neg (by simp), takeP_f hf, hv.tok, sz_mk, szL_app, szL_1]
      refine Tot.mono (ctail hD hD0 (at0 := t.At_) (n0 := 0) (n2 := 2) (n4 := 4) ht hu h1 h2 h3 v1 (by omega) rfl rfl) fun r' ⟨g, k⟩ => ⟨g1.ga g, (k.mono fun e => by rw [e, Int.add_zero]).cast (by omega)⟩
    | @exp e' t u us' xs vs r ws b ys he ht hu h1 h2 h3 =>
      rw [v1.isB he, if_pos rfl, hv.tok, sz_mk, szL_app, szL_1]
      refine Tot.mono (ctail hD hD0 (at0 := e'.At_) (n0 := 1) (n2 := 3) (n4 := 5) ht hu h1 h2 h3 (v1.take he) (by omega) rfl rfl) fun r' ⟨g, k⟩ => ⟨g1.ga (g2.ga g), k.cast (by omega)⟩
  · obtain ⟨e1, e2⟩ := hv.full hN
    obtain ⟨g1, _⟩ := fail_gd hv.pi (e := 136) (by decide)
    have l1 := g1.lf
    have hne : (failP p 136).e_ ≠ 0 := by rw [e2]; decide
    have e : p_parse_parser_function n p = p_parse_parser_function n (failP p 136) := by
      rw [function_def, function_def, node_eq hv.pi, node_eq g1.inv, Option.bind_some, Option.bind_some, e1, node_dead hne, tok_fail]
    rw [e]
    exact (function_tot g1.inv (by omega)).mono fun r g => ⟨g1.ga g, .inr (.inl ⟨(g.toGd.err' hne).1.trans e2, by omega⟩)⟩
theorem DF.hd (h : DF D ts x us) : ∃ t r, ts = t :: r ∧ t.Kind_ ≠ 4 := by
  cases h with
  | plain ht => exact ⟨_, _, rfl, by rcases ht.2 with h | h <;> omega⟩
  | exp ht => exact ⟨_, _, rfl, by rcases ht.2 with h | h <;> omega⟩
theorem DFs.run (hD : D ≤ 1099511627776) (hD0 : 0 ≤ D) (h : DFs D ts xs us) : ∀ z, us = [z] → z.Kind_ = 4 → ∀ (c : Nat) p N x, Lv p ts N → Lf p + 46 ≤ n → (p.l_.length : Int) - p.at_ < c → (x.List_.length : Int) ≤ p.at_ → Tot (parse_Parse_l1 n c p x) fun r => Gd p r.1 ∧ Rs D (N + szL xs) us r.1 (r.2 = { x with List_ := x.List_ ++ xs }) := by
  induction h with
  | @nil ts =>
    intro z hz hk c p N x hv hb hc hl
    subst hz
    have k2 := hv.pi.hi
    obtain ⟨c, rfl⟩ : ∃ e, c = e + 1 := ⟨c - 1, by omega⟩
    unfold parse_Parse_l1
    rw [token_eq hv.pi, hv.tok, hv.e0, if_pos (by simp), Option.bind_some, Option.bind_some, hk, if_neg (by simp)]
    exact .some ⟨.refl hv.pi, .inl ⟨by rw [szL_nil, Int.add_zero]; exact hv, by rw [List.append_nil]; cases x; rfl⟩⟩
  | @cons ts y us xs vs h1 h2 ih =>
    intro z hz hk c p N x hv hb hc hl
    have k1 := hv.pi.lo
    have k2 := hv.pi.hi
    have k3 := hv.pi.big
    obtain ⟨c, rfl⟩ : ∃ e, c = e + 1 := ⟨c - 1, by omega⟩
    obtain ⟨t, r', e, hk'⟩ := h1.hd
    unfold parse_Parse_l1
    rw [token_eq hv.pi, hv.e0, if_pos (by simp), Option.bind_some, Option.bind_some, if_pos (by subst e; rw [hv.tok]; simpa using hk')]
    refine (h1.run hD hD0 hv hb).bind fun r ⟨g, k⟩ => ?_
    have m1 := g.at'
    have m5 := g.inv.hi
    have m6 := g.toGd.len
    have l1 := g.toGd.lf
    have hz' := szL_ge xs
    rw [szL_cons, need_of (by simp only [List.length_singleton]; omega)]
    rcases k with ⟨v, e⟩ | k
    · have m7 := g.adv v.e0
      rw [e]
      refine (ih z hz hk c r.2 _ _ v (by omega) (by omega) (by simp only [List.length_append, List.length_singleton]; omega)).mono fun w ⟨g5, k5⟩ => ⟨g.toGd.trans g5, ?_⟩
      exact (k5.mono fun e => by rw [e]; simp).cast (by omega)
    · have m8 := hv.pi.lf
      by_cases hc0 : c = 0
      · exfalso
        unfold Lf at m8
        subst hc0
        omega
      obtain ⟨c, rfl⟩ : ∃ e, c = e + 1 := ⟨c - 1, by omega⟩
      unfold parse_Parse_l1
      rw [if_neg (by simpa using k.ne), Option.bind_some, if_neg (by simp)]
      exact .some ⟨g.toGd, .inr (k.mono (by omega))⟩
end
/-- a derivation is parsed -/
theorem cParse {n : Nat} {s : Str} {D : Int} (hD : D ≤ 1099511627776) (hD0 : 0 ≤ D) (hn : 16 * s.length + 200 < n) {l : List Tok} {w : Int} {fs : List Nd} {z : Tok} (hl : lex_Tokens n s = some (l, 0, w)) (hd : DFs D l fs [z]) (hz : z.Kind_ = 4) : Tot (parse_Parse n s) fun r => (∃ t us, l = t :: us ∧ r = (⟨1, t.At_, [], 0, fs⟩, 0, 0) ∧ 1 + szL fs ≤ 16384) ∨ (r.2.1 = 136 ∧ 16384 < 1 + szL fs) ∨ (r.2.1 = 111 ∧ 64 < D) := by
  unfold parse_Parse
  obtain ⟨x, ex, hx⟩ := Tokens_tot (n := n) (s := s) (by omega) (by omega)
  rw [hl] at ex
  cases ex
  rw [hl, Option.bind_some, if_neg (by simp)]
  obtain ⟨l', h2, h3, h4, h5⟩ := hx rfl
  have hp : PI (T_parse_parser.mk l 0 0 0 0) := ⟨by simp only; omega, by simp only; rw [show l = _ from h2]; simp only [List.length_append, List.length_singleton]; omega, by simp only; rw [show l = _ from h2]; simp only [List.length_append, List.length_singleton]; omega, ⟨l', _, h2, h3, rfl⟩⟩
  have hlf : Lf (T_parse_parser.mk l 0 0 0 0) ≤ 16 * s.length + 16 := by
    unfold Lf
    simp only; rw [show l = _ from h2]; simp only [List.length_append, List.length_singleton]; omega
  have hv : Lv (T_parse_parser.mk l 0 0 0 0) l 0 := ⟨hp, rfl, rfl, rfl, by omega, by omega⟩
  have v1 := hv.node (by omega)
  have g1 := node_gd hp
  have l1 := g1.lf
  have k0 := g1.inv.lo
  have k1 := g1.inv.hi
  rw [node_eq hp, Option.bind_some]
  refine (hd.run hD hD0 z rfl hz n _ _ ⟨1, (tokP (T_parse_parser.mk l 0 0 0 0)).At_, [], 0, []⟩ v1 (by omega) (by unfold Lf at l1 hlf; omega) (by simpa using k0)).bind fun y ⟨g2, k2⟩ => ?_
  have hN : (0 : Int) + 1 + szL fs = 1 + szL fs := by omega
  rcases k2 with ⟨v, e⟩ | k2
  · rw [if_neg (by rw [v.e0]; decide)]
    refine .some (.inl ⟨_, _, by have := rest_cons hp; exact this, ?_, by have := v.hi; omega⟩)
    rw [e]; rfl
  · rw [if_pos (by simpa using k2.ne)]
    rw [hN] at k2
    exact .some (.inr k2)
end Go.Proofs.YtolhahlnccekcaaDoor.Abs
