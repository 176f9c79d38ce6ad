/-
  A parse without an error is a derivation: blocks, functions, the whole.
-/
import Derived.Test.YtolhahlnccekcaaDoorPwDer
namespace Go.Proofs.YtolhahlnccekcaaDoor.Abs
open Go.RowKit
set_option linter.unusedVariables false
set_option linter.unusedSimpArgs false
def SdS (n : Nat) (k b : Int) (K : SK) (f : T_parse_parser → Int → Option (T_parse_Node × T_parse_parser)) : Prop := ∀ p a, PI p → 0 ≤ a → a ≤ b → Lf p + k ≤ n → Tot (f p a) fun r => GA p r.2 ∧ (r.2.e_ = 0 → DS 64 K a (rest p) [r.1] (rest r.2))
def SdW (n : Nat) (w : Str) (f : T_parse_parser → T_parse_Node → Int → Option (T_parse_Node × T_parse_parser)) : Prop := ∀ p x a, PI p → 0 ≤ a → a ≤ 99 → Lf p + 47 ≤ n → Tot (f p x a) fun r => GA p r.2 ∧ (r.2.e_ = 0 → ∀ t, isT t w → x = ⟨8, t.At_, [], 0, []⟩ → DS 64 .stmt a (t :: rest p) [r.1] (rest r.2))
section
variable {n : Nat} {p : T_parse_parser}
theorem sblock_l1 (hn : 13 < n) {fs : T_parse_parser → Int → Option (T_parse_Node × T_parse_parser)} {k : Int} {a : Int} (hf : ∀ p, PI p → Lf p ≤ k → Tot (fs p a) fun r => GA p r.2 ∧ (r.2.e_ = 0 → DS 64 .stmt a (rest p) [r.1] (rest r.2))) : ∀ (c : Nat) (p : T_parse_parser) (x : T_parse_Node), PI p → (p.e_ = 0 → Lf p ≤ k) → (p.l_.length : Int) - p.at_ < c → 1 ≤ c → (p.e_ = 0 → (x.List_.length : Int) ≤ p.at_) → (x.List_.length : Int) ≤ 65538 → Tot (p_parse_parser_block_l1 fs n a c p x) fun r => Gd p r.1 ∧ (r.1.e_ = 0 → ∃ xs, r.2 = { x with List_ := x.List_ ++ xs } ∧ DS 64 .stmts a (rest p) xs (rest r.1)) := by
  intro c
  induction c with
  | zero => intro p x h _ h1 h2; omega
  | succ c ih =>
    intro p x h hk h1 h2 h3 h4
    have k1 := h.lo
    have k2 := h.hi
    have k3 := h.big
    have hcond : (if (p.e_ == (0 : Int)) = true then (p_parse_parser_is n p ([125] : Str)).bind fun x19 => some (!x19) else some false) = some (p.e_ == 0 && !isB p [125]) := by
      rw [is_eq h hn]
      cases p.e_ == (0 : Int) <;> rfl
    unfold p_parse_parser_block_l1
    rw [hcond, Option.bind_some]
    refine Tot.iteb (fun h5 => ?_) fun h5 => .some ⟨.refl h, fun he => ⟨[], by rw [List.append_nil]; cases x; rfl, .nil ?_⟩⟩
    · simp only [Bool.and_eq_true, beq_iff_eq, Bool.not_eq_true'] at h5
      obtain ⟨he, hb5⟩ := h5
      refine (hf p h (hk he)).bind fun r ⟨g, d⟩ => ?_
      have m1 := g.at'
      have m2 := hk he
      have m3 := h3 he
      have m4 := g.toGd.lf
      have m5 := g.inv.hi
      have m6 := g.toGd.len
      refine Tot.need (by simp only [List.length_singleton]; omega) ?_
      by_cases he2 : r.2.e_ = 0
      · have m7 := g.adv he2
        refine (ih r.2 _ g.inv (fun _ => by omega) (by rw [m6]; omega) (by omega) (fun _ => by simp only [List.length_append, List.length_singleton]; omega) (by simp only [List.length_append, List.length_singleton]; omega)).mono fun s ⟨g2, d2⟩ => ⟨g.toGd.trans g2, fun hq => ?_⟩
        obtain ⟨xs, e, d3⟩ := d2 hq
        exact ⟨r.1 :: xs, by rw [e]; simp, .cons (not_hdT h he hb5) (d he2) d3⟩
      · cases c with
        | zero => omega
        | succ c =>
          unfold p_parse_parser_block_l1
          rw [if_neg (by simpa using he2), Option.bind_some, if_neg (by decide)]
          exact .some ⟨g.toGd, fun hq => absurd hq he2⟩
    · rw [show (p, x).1 = p from rfl] at he
      rw [he] at h5
      exact (hdT_rest h he).2 (by simpa using h5)
theorem block_deep (h : PI p) {fs : T_parse_parser → Int → Option (T_parse_Node × T_parse_parser)} {a : Int} : p_parse_parser_block_b fs n p a = p_parse_parser_block_b fs n (deepP p a) a := by
  unfold p_parse_parser_block_b
  rw [deep_eq h, deep_eq (deep_gd h).inv, deep_idem]
theorem sblock_b {fs : T_parse_parser → Int → Option (T_parse_Node × T_parse_parser)} (hs' : OkE n 45 fs) (hs : SdS n 45 99 .stmt fs) : SdS (n + 1) 46 100 .block (p_parse_parser_block_b fs n) := by
  intro p a h h0 h9 hb
  have hn : 13 < n := by have := h.lf; omega
  by_cases hd : 64 < a
  · rw [block_deep h]
    have g1 := deep_gd h (a := a)
    have l1 := g1.lf
    refine (block_b hs' (deepP p a) a g1.inv (by omega)).mono fun r g => ⟨g1.ga g, fun hq => ?_⟩
    exact absurd (deep_ok (g.toGd.e0 hq)).2.1 (by omega)
  unfold p_parse_parser_block_b
  have hdp : deepP p a = p := by unfold deepP; rw [if_neg hd]
  have g2 := node_gd h
  have g3 := need_ga g2.inv (s := [123])
  rw [deep_eq h, Option.bind_some, hdp, node_eq h, Option.bind_some, need_eq g2.inv hn, Option.bind_some]
  have g5 := g2.ga g3
  have l5 := g5.toGd.lf
  have k0 := g3.inv.lo
  refine (sblock_l1 hn (k := (n : Int) - 45) (fun q hq hk => hs q a hq h0 (by omega) (by omega)) n (needP (nodeP p) [123]) ⟨4, (tokP p).At_, [], 0, []⟩ g3.inv (fun he => ?_) ?_ (by omega) (fun _ => by simpa using k0) (by simp)).bind fun y ⟨g6, d6⟩ => ?_
  · have := g5.lf he
    omega
  · unfold Lf at hb l5
    rw [g5.toGd.len] at l5 ⊢
    have := h.hi
    omega
  have g7 := need_ga g6.inv (s := [125])
  rw [need_eq g6.inv hn, Option.bind_some]
  refine .some ⟨(g5.gd g6).ga g7, fun hq => ?_⟩
  obtain ⟨a1, a2, a3⟩ := need_ok g6.inv hq
  obtain ⟨xs, e, d7⟩ := d6 a1
  obtain ⟨b1, b2, b3⟩ := need_ok g2.inv (g6.e0 a1)
  rw [tok_node] at b2 b3
  rw [rest_node] at b3
  rw [a3] at d7
  simp only [e, List.nil_append]
  rw [b3]
  exact .block (by omega) b2 d7 a2
theorem schoice_b {fb : T_parse_parser → Int → Option (T_parse_Node × T_parse_parser)} (hf : SdS n 46 100 .block fb) : SdW (n + 1) [105, 102] (p_parse_parser_choice_b fb n) := by
  intro p x a h h0 h9 hb
  have hn : 13 < n := by have := h.lf; omega
  unfold p_parse_parser_choice_b
  rw [wrap64 (n := a + 1) (by omega) (by omega)]
  refine (sexpr h (by omega) (by omega) (by omega)).bind fun r ⟨g1, d1⟩ => ?_
  have l1 := g1.toGd.lf
  refine (hf r.2 _ g1.inv (by omega) (by omega) (by omega)).bind fun s ⟨g2, d2⟩ => Tot.need (by simp) ?_
  obtain ⟨g3, t2, t3⟩ := take_gd g2.inv (s := [101, 108, 115, 101])
  rw [take_eq g2.inv hn, Option.bind_some]
  have l2 := g2.toGd.lf
  have l3 := g3.lf
  refine Tot.iteb (fun h4 => ?_) fun h4 => ?_
  · have h4' : isB s.2 [101, 108, 115, 101] = true := h4
    refine (hf _ _ g3.inv (by omega) (by omega) (by omega)).bind fun u ⟨g4, d4⟩ => Tot.need (by simp) (.some ⟨((g1.ga g2).gd g3).ga g4, fun hq t ht hx => ?_⟩)
    have e2 := (isB_isT h4').1
    have d5 := d2 e2
    rw [take_rest g2.inv h4'] at d5
    rw [hx]
    exact .choice2 ht (d1 (g2.toGd.e0 e2)) d5 (isB_isT h4').2 (d4 hq)
  · have h4' : isB s.2 [101, 108, 115, 101] = false := h4
    rw [t3 h4']
    refine .some ⟨g1.ga g2, fun hq t ht hx => ?_⟩
    rw [hx]
    exact .choice ht (d1 (g2.toGd.e0 hq)) (d2 hq) (not_hdT g2.inv hq h4')
theorem sloop_b {fb : T_parse_parser → Int → Option (T_parse_Node × T_parse_parser)} (hf : SdS n 46 100 .block fb) : SdW (n + 1) [102, 111, 114] (p_parse_parser_loop_b fb n) := by
  intro p x a h h0 h9 hb
  have hn : 13 < n := by have := h.lf; omega
  have g1 := name_ga h
  have g2 := need_ga g1.inv (s := [105, 110])
  have l1 := g1.toGd.lf
  have l2 := g2.toGd.lf
  unfold p_parse_parser_loop_b
  rw [wrap64 (n := a + 1) (by omega) (by omega), name_eq h hn, Option.bind_some, need_eq g1.inv hn, Option.bind_some]
  refine (sexpr g2.inv (by omega) (by omega) (by omega)).bind fun t ⟨g3, d3⟩ => ?_
  have g4 := need_ga g3.inv (s := [46, 46])
  have l3 := g3.toGd.lf
  have l4 := g4.toGd.lf
  rw [need_eq g3.inv hn, Option.bind_some]
  refine (sexpr g4.inv (by omega) (by omega) (by omega)).bind fun v ⟨g5, d5⟩ => Tot.need (by simp) ?_
  have l5 := g5.toGd.lf
  refine (hf v.2 _ g5.inv (by omega) (by omega) (by omega)).bind fun w ⟨g6, d6⟩ => Tot.need (by simp) (.some ⟨g1.ga (g2.ga (g3.ga (g4.ga (g5.ga g6)))), fun hq z hz hx => ?_⟩)
  have e5 := g6.toGd.e0 hq
  obtain ⟨a1, a2, a3⟩ := need_ok g3.inv (g5.toGd.e0 e5)
  have d7 := d3 a1
  rw [a3] at d7
  obtain ⟨b1, b2, b3⟩ := need_ok g1.inv (g3.toGd.e0 a1)
  obtain ⟨c1, c2, c3, c4⟩ := name_ok h b1
  rw [hx]
  simp only [c3]
  rw [c4, b3]
  exact .loop hz c2 b2 d7 a2 (d5 e5) (d6 hq)
theorem sstatement_b {fc fl : T_parse_parser → T_parse_Node → Int → Option (T_parse_Node × T_parse_parser)} (hc : SdW n [105, 102] fc) (hl : SdW n [102, 111, 114] fl) : SdS (n + 1) 45 99 .stmt (p_parse_parser_statement_b fc fl n) := by
  intro p a h h0 h9 hb
  have hn : 13 < n := by have := h.lf; omega
  unfold p_parse_parser_statement_b
  have g1 := node_gd h
  have l1 := g1.lf
  rw [node_eq h, Option.bind_some, wrap64 (n := a + 1) (by omega) (by omega)]
  have hr : ∀ s, isB (nodeP p) s = true → isT (tokP p) s ∧ rest p = tokP p :: rest (takeP (nodeP p) s) := by
    intro s hs
    have e1 := (isB_isT hs).2
    have e2 := take_rest g1.inv hs
    rw [tok_node] at e1 e2
    rw [rest_node] at e2
    exact ⟨e1, e2⟩
  refine Tot.bind (P := fun y => match y with | .inl z => GA p z.1 ∧ ∀ us, z.1.e_ = 0 → isT (tokP z.1) [59] → rest z.1 = tokP z.1 :: us → DS 64 .stmt a (rest p) [z.2] us | .inr z => GA p z.2 ∧ (z.2.e_ = 0 → DS 64 .stmt a (rest p) [z.1] (rest z.2))) ?_ fun y hy => ?_
  · rw [take_eq g1.inv hn, Option.bind_some]
    refine Tot.iteb (fun h1 => ?_) fun h1 => ?_
    · have h1' : isB (nodeP p) [108, 101, 116] = true := h1
      obtain ⟨t1, t2, t3⟩ := take_gd g1.inv (s := [108, 101, 116])
      have m1 := t1.lf
      refine (snamed t1.inv h0 (by omega) (by omega)).bind fun u ⟨g2, d2⟩ => .some ⟨g1.ga (t1.ga g2), fun hq => ?_⟩
      rw [(hr _ h1').2]
      exact d2 hq (tokP p) _ (.inl ⟨rfl, rfl⟩) (hr _ h1').1 rfl
    have h1' : isB (nodeP p) [108, 101, 116] = false := h1
    rw [takeP_f h1', take_eq g1.inv hn, Option.bind_some]
    refine Tot.iteb (fun h1 => ?_) fun h1 => ?_
    · have h1' : isB (nodeP p) [118, 97, 114] = true := h1
      obtain ⟨t1, t2, t3⟩ := take_gd g1.inv (s := [118, 97, 114])
      have m1 := t1.lf
      refine (snamed t1.inv h0 (by omega) (by omega)).bind fun u ⟨g2, d2⟩ => .some ⟨g1.ga (t1.ga g2), fun hq => ?_⟩
      rw [(hr _ h1').2]
      exact d2 hq (tokP p) _ (.inr ⟨rfl, rfl⟩) (hr _ h1').1 rfl
    have h1' : isB (nodeP p) [118, 97, 114] = false := h1
    rw [takeP_f h1', take_eq g1.inv hn, Option.bind_some]
    refine Tot.iteb (fun h1 => ?_) fun h1 => ?_
    · have h1' : isB (nodeP p) [97, 114, 114] = true := h1
      obtain ⟨t1, t2, t3⟩ := take_gd g1.inv (s := [97, 114, 114])
      have g2 := name_ga t1.inv
      have g3 := size_ga g2.inv
      rw [name_eq t1.inv hn, Option.bind_some, size_eq g2.inv hn, Option.bind_some]
      refine .some ⟨g1.ga (t1.ga (g2.ga g3)), fun us he ht hrr => ?_⟩
      obtain ⟨c1, v, w, c2, c3, c4, c5, c6⟩ := size_ok g2.inv he
      obtain ⟨b1, b2, b3, b4⟩ := name_ok t1.inv c1
      rw [(hr _ h1').2, b4, c6]
      simp only at hrr
      rw [hrr]
      simp only [b3, c5]
      exact .arr (hr _ h1').1 b2 c2 c3 c4 ht
    have h1' : isB (nodeP p) [97, 114, 114] = false := h1
    rw [takeP_f h1', take_eq g1.inv hn, Option.bind_some]
    refine Tot.iteb (fun h1 => ?_) fun h1 => ?_
    · have h1' : isB (nodeP p) [114, 101, 116, 117, 114, 110] = true := h1
      obtain ⟨t1, t2, t3⟩ := take_gd g1.inv (s := [114, 101, 116, 117, 114, 110])
      have m1 := t1.lf
      refine (sexpr t1.inv (by omega) (by omega) (by omega)).bind fun u ⟨g2, d2⟩ => .some ⟨g1.ga (t1.ga g2), fun us he ht hrr => ?_⟩
      have d3 := d2 he
      simp only at hrr
      rw [hrr] at d3
      rw [(hr _ h1').2]
      exact .ret (hr _ h1').1 d3 ht
    have h1' : isB (nodeP p) [114, 101, 116, 117, 114, 110] = false := h1
    rw [takeP_f h1', take_eq g1.inv hn, Option.bind_some]
    refine Tot.iteb (fun h1 => ?_) fun h1 => ?_
    · have h1' : isB (nodeP p) [105, 102] = true := h1
      obtain ⟨t1, t2, t3⟩ := take_gd g1.inv (s := [105, 102])
      obtain ⟨_, t4, t5⟩ := t2 h1'
      have m1 := (g1.ga t4).lf t5
      refine (hc _ _ a t1.inv h0 h9 (by omega)).bind fun u ⟨g2, d2⟩ => .some ⟨g1.ga (t1.ga g2), fun hq => ?_⟩
      rw [(hr _ h1').2]
      exact d2 hq (tokP p) (hr _ h1').1 rfl
    have h1' : isB (nodeP p) [105, 102] = false := h1
    rw [takeP_f h1', take_eq g1.inv hn, Option.bind_some]
    refine Tot.iteb (fun h1 => ?_) fun h1 => ?_
    · have h1' : isB (nodeP p) [102, 111, 114] = true := h1
      obtain ⟨t1, t2, t3⟩ := take_gd g1.inv (s := [102, 111, 114])
      obtain ⟨_, t4, t5⟩ := t2 h1'
      have m1 := (g1.ga t4).lf t5
      refine (hl _ _ a t1.inv h0 h9 (by omega)).bind fun u ⟨g2, d2⟩ => .some ⟨g1.ga (t1.ga g2), fun hq => ?_⟩
      rw [(hr _ h1').2]
      exact d2 hq (tokP p) (hr _ h1').1 rfl
    have h1' : isB (nodeP p) [102, 111, 114] = false := h1
    rw [takeP_f h1']
    refine (splain g1.inv (by rw [tok_node]) h0 (by omega) (by omega)).bind fun u ⟨g2, d2⟩ => .some ⟨g1.ga g2, fun hq => ?_⟩
    have d3 := d2 hq
    rw [rest_node] at d3
    exact d3
  · refine Tot.elim (fun z e => ?_) fun z e => ?_
    · subst e
      obtain ⟨g, d⟩ : GA p z.1 ∧ ∀ us, z.1.e_ = 0 → isT (tokP z.1) [59] → rest z.1 = tokP z.1 :: us → DS 64 .stmt a (rest p) [z.2] us := hy
      have g2 := need_ga g.inv (s := [59])
      rw [need_eq g.inv hn, Option.bind_some]
      refine .some ⟨g.ga g2, fun hq => ?_⟩
      obtain ⟨a1, a2, a3⟩ := need_ok g.inv hq
      exact d _ a1 a2 a3
    · subst e
      exact .some hy
theorem sgrp2_ok : ∀ n : Nat, SdS n 46 100 .block (p_parse_parser_block_grp n).1 ∧ SdS n 45 99 .stmt (p_parse_parser_block_grp n).2.1 ∧ SdW n [105, 102] (p_parse_parser_block_grp n).2.2.1 ∧ SdW n [102, 111, 114] (p_parse_parser_block_grp n).2.2.2 := by
  intro n
  induction n with
  | zero => refine ⟨fun p a h _ _ hb => ?_, fun p a h _ _ hb => ?_, fun p x a h _ _ hb => ?_, fun p x a h _ _ hb => ?_⟩ <;> (have := h.lf; omega)
  | succ n ih =>
    obtain ⟨i1, i2, i3, i4⟩ := ih
    obtain ⟨j1, j2, j3, j4⟩ := grp2_ok n
    exact ⟨sblock_b j2 i2, sstatement_b i3 i4, schoice_b i1, sloop_b i1⟩
theorem sblock (h : PI p) {a : Int} (h0 : 0 ≤ a) (h9 : a ≤ 100) (hb : Lf p + 46 ≤ n) : Tot (p_parse_parser_block n p a) fun r => GA p r.2 ∧ (r.2.e_ = 0 → DS 64 .block a (rest p) [r.1] (rest r.2)) := (sgrp2_ok n).1 p a h h0 h9 hb
theorem stail (h : PI p) (hb : Lf p + 46 ≤ n) {at0 n0 n2 n4 : Int} (e2 : n2 = 2 + n0) (e4 : n4 = 4 + n0) : Tot (tailP n p at0 n0 n2 n4) fun r => GA p r.2 ∧ (r.2.e_ = 0 → ∃ t u us xs vs k ws b, rest p = t :: u :: us ∧ isT t [102, 110] ∧ isN u ∧ DPars true us xs vs ∧ DRes vs k ws ∧ DS 64 .block 1 ws [b] (rest r.2) ∧ r.1 = ⟨2, at0, u.Text_, k + n0, xs ++ [b]⟩) := by
  have hn : 13 < n := by have := h.lf; omega
  have hr : (p.l_.length : Int) - p.at_ < n := by
    have := h.hi
    unfold Lf at hb; omega
  have g1 := need_ga h (s := [102, 110])
  have g2 := name_ga g1.inv
  have g3 := g1.ga g2
  have key : ∀ q : T_parse_parser, GA p q → (q.l_.length : Int) - q.at_ < n := by
    intro q g
    have := g.toGd.lf
    unfold Lf at this hb
    have := h.hi
    have := g.inv.hi
    omega
  unfold tailP
  rw [need_eq h hn, Option.bind_some, name_eq g1.inv hn, Option.bind_some]
  refine (sparams g2.inv hn (key _ g3)).bind fun w ⟨g7, hw, d7⟩ => ?_
  have g8 := g3.ga g7
  have k8 := g8.inv.hi
  have k9 := g8.inv.big
  have pre : w.2.e_ = 0 → ∃ t u us, rest p = t :: u :: us ∧ isT t [102, 110] ∧ isN u ∧ (nameP (needP p [102, 110])).1 = u.Text_ ∧ DPars true us w.1 (rest w.2) := by
    intro he
    obtain ⟨b1, b2, b3, b4⟩ := name_ok g1.inv (g7.toGd.e0 he)
    obtain ⟨a1, a2, a3⟩ := need_ok h b1
    exact ⟨_, _, _, by rw [a3, b4], a2, b2, b3, d7 he⟩
  rw [take_eq g7.inv hn, Option.bind_some]
  obtain ⟨t1, t2, t3⟩ := take_gd g7.inv (s := [45, 62])
  have l8 := (g8.gd t1).toGd.lf
  refine Tot.iteb (fun h1 => ?_) fun h1 => ?_
  · have h1' : isB w.2 [45, 62] = true := h1
    obtain ⟨e0, _, _⟩ := t2 h1'
    rw [take_eq t1.inv hn, Option.bind_some]
    obtain ⟨u1, u2, u3⟩ := take_gd t1.inv (s := [117, 51, 50])
    have l9 := ((g8.gd t1).gd u1).toGd.lf
    refine Tot.iteb (fun h2 => ?_) fun h2 => ?_
    · have h2' : isB (takeP w.2 [45, 62]) [117, 51, 50] = true := h2
      refine (sblock u1.inv (by omega) (by omega) (by omega)).bind fun z ⟨g11, d11⟩ => Tot.need (by simp only [List.length_singleton]; omega) (.some ⟨((g8.gd t1).gd u1).ga g11, fun hq => ?_⟩)
      obtain ⟨t, u, us, p1, p2, p3, p4, p5⟩ := pre e0
      refine ⟨t, u, us, w.1, _, 2, _, z.1, p1, p2, p3, p5, ?_, d11 hq, by simp only [p4, e2]⟩
      rw [take_rest g7.inv h1', take_rest t1.inv h2']
      exact .short (isB_isT h1').2 (isB_isT h2').2
    · have h2' : isB (takeP w.2 [45, 62]) [117, 51, 50] = false := h2
      rw [u3 h2']
      have g10 := need_ga t1.inv (s := [117, 54, 52])
      have l10 := ((g8.gd t1).ga g10).toGd.lf
      rw [need_eq t1.inv hn, Option.bind_some]
      refine (sblock g10.inv (by omega) (by omega) (by omega)).bind fun z ⟨g11, d11⟩ => Tot.need (by simp only [List.length_singleton]; omega) (.some ⟨((g8.gd t1).ga g10).ga g11, fun hq => ?_⟩)
      obtain ⟨t, u, us, p1, p2, p3, p4, p5⟩ := pre e0
      obtain ⟨a1, a2, a3⟩ := need_ok t1.inv (g11.toGd.e0 hq)
      refine ⟨t, u, us, w.1, _, 4, _, z.1, p1, p2, p3, p5, ?_, d11 hq, by simp only [p4, e4]⟩
      rw [take_rest g7.inv h1', a3]
      exact .long (isB_isT h1').2 a2
  · have h1' : isB w.2 [45, 62] = false := h1
    rw [t3 h1']
    have l10 := g8.toGd.lf
    refine (sblock g7.inv (by omega) (by omega) (by omega)).bind fun z ⟨g11, d11⟩ => Tot.need (by simp only [List.length_singleton]; omega) (.some ⟨g8.ga g11, fun hq => ?_⟩)
    have e0 := g11.toGd.e0 hq
    obtain ⟨t, u, us, p1, p2, p3, p4, p5⟩ := pre e0
    exact ⟨t, u, us, w.1, _, 0, _, z.1, p1, p2, p3, p5, .none (not_hdT g7.inv e0 h1'), d11 hq, by simp only [p4, Int.zero_add]⟩
theorem sfunction (h : PI p) (hb : Lf p + 46 ≤ n) : Tot (p_parse_parser_function n p) fun r => GA p r.2 ∧ (r.2.e_ = 0 → DF 64 (rest p) r.1 (rest r.2)) := by
  have hn : 13 < n := by have := h.lf; omega
  have g1 := node_gd h
  obtain ⟨t1, t2, t3⟩ := take_gd g1.inv (s := [101, 120, 112, 111, 114, 116])
  have g2 := g1.trans t1
  have l2 := g2.lf
  rw [function_def, node_eq h, Option.bind_some]
  simp only
  rw [take_eq g1.inv hn, Option.bind_some]
  simp only
  by_cases hA : isB (nodeP p) [101, 120, 112, 111, 114, 116] = true
  · rw [if_pos hA]
    refine (stail t1.inv (by omega) (at0 := (tokP p).At_) (n0 := 1) (n2 := 3) (n4 := 5) rfl rfl).mono fun r ⟨g, d⟩ => ⟨g2.ga g, fun hq => ?_⟩
    obtain ⟨t, u, us, xs, vs, k, ws, b, p1, p2, p3, p4, p5, p6, p7⟩ := d hq
    have e1 := (isB_isT hA).2
    have e2 := take_rest g1.inv hA
    rw [tok_node] at e1 e2
    rw [rest_node] at e2
    rw [p7, e2, p1]
    exact .exp e1 p2 p3 p4 p5 p6
  · rw [if_neg hA]
    refine (stail t1.inv (by omega) (at0 := (tokP p).At_) (n0 := 0) (n2 := 2) (n4 := 4) rfl rfl).mono fun r ⟨g, d⟩ => ⟨g2.ga g, fun hq => ?_⟩
    obtain ⟨t, u, us, xs, vs, k, ws, b, p1, p2, p3, p4, p5, p6, p7⟩ := d hq
    have hA' : isB (nodeP p) [101, 120, 112, 111, 114, 116] = false := by simpa using hA
    rw [t3 hA', rest_node] at p1
    rw [p7, p1, Int.add_zero]
    have e3 : (tokP p).At_ = t.At_ := by
      rw [rest_cons h] at p1
      injection p1 with q1 q2
      rw [q1]
    rw [e3]
    exact .plain p2 p3 p4 p5 p6
theorem tok4 (h : PI p) (hk : (tokP p).Kind_ = 4) : rest p = [tokP p] := by
  have h0 := h.lo
  have h1 := h.hi
  obtain ⟨l, z, e, hl, hz⟩ := h.toks
  rw [rest_cons h]
  congr 1
  have h2 : p.l_.length = l.length + 1 := by rw [e, List.length_append, List.length_singleton]
  apply List.drop_eq_nil_of_le
  apply Classical.byContradiction
  intro hn
  have h3 : p.at_.toNat < l.length := by omega
  have h4 : tokP p = l[p.at_.toNat] := by
    unfold tokP
    rw [e, List.getElem?_append_left h3, List.getElem?_eq_getElem h3]; rfl
  have h5 := (hl _ (List.getElem_mem h3)).1
  rw [← h4, hk] at h5
  omega
theorem sParse_l1 : ∀ (c : Nat) (p : T_parse_parser) (x : T_parse_Node), PI p → Lf p + 46 ≤ n → (p.l_.length : Int) - p.at_ < c → 1 ≤ c → (p.e_ = 0 → (x.List_.length : Int) ≤ p.at_) → (x.List_.length : Int) ≤ 65538 → Tot (parse_Parse_l1 n c p x) fun r => Gd p r.1 ∧ (r.1.e_ = 0 → ∃ xs, r.2 = { x with List_ := x.List_ ++ xs } ∧ DFs 64 (rest p) xs (rest r.1) ∧ (tokP r.1).Kind_ = 4) := by
  intro c
  induction c with
  | zero => intro p x h _ h1 h2; omega
  | succ c ih =>
    intro p x h hk h1 h2 h3 h4
    have k1 := h.lo
    have k2 := h.hi
    have k3 := h.big
    have hcond : (if (p.e_ == (0 : Int)) = true then (p_parse_parser_token p).bind fun x19 => some (x19.Kind_ != (4 : Int)) else some false) = some (p.e_ == 0 && (tokP p).Kind_ != 4) := by
      rw [token_eq h]
      cases p.e_ == (0 : Int) <;> rfl
    unfold parse_Parse_l1
    rw [hcond, Option.bind_some]
    refine Tot.iteb (fun h5 => ?_) fun h5 => .some ⟨.refl h, fun he => ⟨[], by rw [List.append_nil]; cases x; rfl, .nil, ?_⟩⟩
    · have he : p.e_ = 0 := by
        simp only [Bool.and_eq_true, beq_iff_eq] at h5; exact h5.1
      refine (sfunction h hk).bind fun r ⟨g, d⟩ => ?_
      have m1 := g.at'
      have m3 := h3 he
      have m4 := g.toGd.lf
      have m5 := g.inv.hi
      have m6 := g.toGd.len
      refine Tot.need (by simp only [List.length_singleton]; omega) ?_
      by_cases he2 : r.2.e_ = 0
      · have m7 := g.adv he2
        refine (ih r.2 _ g.inv (by omega) (by rw [m6]; omega) (by omega) (fun _ => by simp only [List.length_append, List.length_singleton]; omega) (by simp only [List.length_append, List.length_singleton]; omega)).mono fun s ⟨g2, d2⟩ => ⟨g.toGd.trans g2, fun hq => ?_⟩
        obtain ⟨xs, e, d3, d4⟩ := d2 hq
        exact ⟨r.1 :: xs, by rw [e]; simp, .cons (d he2) d3, d4⟩
      · cases c with
        | zero => omega
        | succ c =>
          unfold parse_Parse_l1
          rw [if_neg (by simpa using he2), Option.bind_some, if_neg (by decide)]
          exact .some ⟨g.toGd, fun hq => absurd hq he2⟩
    · rw [show (p, x).1 = p from rfl] at he ⊢
      rw [he] at h5
      simpa using h5
end
/-- a parse without an error -/
theorem sParse {n : Nat} {s : Str} (hn : 16 * s.length + 200 < n) : Tot (parse_Parse n s) fun r => r.2.1 = 0 → ∃ l w fs z, lex_Tokens n s = some (l, 0, w) ∧ DFs 64 l fs [z] ∧ z.Kind_ = 4 ∧ ∃ t us, l = t :: us ∧ r.1 = ⟨1, t.At_, [], 0, fs⟩ := by
  unfold parse_Parse
  obtain ⟨x, ex, hx⟩ := Tokens_tot (n := n) (s := s) (by omega) (by omega)
  rw [ex, Option.bind_some]
  refine Tot.iteb (fun h1 => .some fun h => ?_) fun h1 => ?_
  · rw [show x.2.1 = 0 from h] at h1
    cases h1
  obtain ⟨l, h2, h3, h4, h5⟩ := hx (by simpa using h1)
  have hp : PI (T_parse_parser.mk x.1 0 0 0 0) := ⟨by simp only; omega, by simp only [h2, List.length_append, List.length_singleton]; omega, by simp only [h2, List.length_append, List.length_singleton]; omega, ⟨l, _, h2, h3, rfl⟩⟩
  have hl : Lf (T_parse_parser.mk x.1 0 0 0 0) ≤ 16 * s.length + 16 := by
    unfold Lf
    simp only [h2, List.length_append, List.length_singleton]; omega
  have g1 := node_gd hp
  have l1 := g1.lf
  have k0 := g1.inv.lo
  have k1 := g1.inv.hi
  have k2 := g1.inv.lf
  rw [node_eq hp, Option.bind_some]
  refine (sParse_l1 n _ ⟨1, (tokP (T_parse_parser.mk x.1 0 0 0 0)).At_, [], 0, []⟩ g1.inv (by omega) (by unfold Lf at l1 hl; omega) (by omega) (fun _ => by simpa using k0) (by simp)).bind fun y ⟨g2, d2⟩ => ?_
  refine Tot.iteb (fun h6 => .some fun h => ?_) fun h6 => .some fun _ => ?_
  · rw [show y.1.e_ = 0 from h] at h6
    cases h6
  · have he : y.1.e_ = 0 := by simpa using h6
    obtain ⟨xs, e, d3, d4⟩ := d2 he
    rw [tok4 g2.inv d4, rest_node] at d3
    have hc := rest_cons hp
    refine ⟨x.1, x.2.2, xs, _, ?_, d3, d4, _, _, hc, ?_⟩
    · have : x.2.1 = 0 := by simpa using h1
      rw [← this]
    · show y.2 = _
      rw [e]; rfl
end Go.Proofs.YtolhahlnccekcaaDoor.Abs
