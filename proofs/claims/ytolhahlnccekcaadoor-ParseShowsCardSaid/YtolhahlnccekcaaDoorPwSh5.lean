/-
  Good functions and programs: shown, and parsed again.
-/
import Derived.Test.YtolhahlnccekcaaDoorPwSh3
import Derived.Test.YtolhahlnccekcaaDoorPwJoins
namespace Go.Proofs.YtolhahlnccekcaaDoor.Abs
open Go.RowKit
set_option linter.unusedVariables false
set_option linter.unusedSimpArgs false
inductive GP : Nd → Prop
  | word {a k : Int} {t : Str} : nameOk t → isWord t = false → (k = 1 ∨ k = 2 ∨ k = 3) → GP ⟨3, a, t, k, []⟩
  | arr {a b : Int} {t : Str} {u : Nat} : nameOk t → isWord t = false → u ≤ 4294967295 → GP ⟨3, a, t, 4, [⟨14, b, [], u, []⟩]⟩
inductive GF : Nd → Prop
  | mk {a r e : Int} {t : Str} {xs : List Nd} {b : Nd} : nameOk t → isWord t = false → (r = 0 ∨ r = 2 ∨ r = 4) → (e = 0 ∨ e = 1) → (∀ x ∈ xs, GP x) → GS true b → GF ⟨2, a, t, r + e, xs ++ [b]⟩
theorem DPar.good {ts x us} (h : DPar ts x us) (hk : kts ts) : GP x ∧ kts us := by
  cases h with
  | word ht hu hks hv =>
    have k1 := kts_cons.1 hk
    refine ⟨.word (kts_n k1.1 ht) ht.2 ?_, (kts_cons.1 (kts_cons.1 k1.2).2).2⟩
    rcases hks with ⟨h, _⟩ | ⟨h, _⟩ | ⟨h, _⟩
    · exact .inl h
    · exact .inr (.inl h)
    · exact .inr (.inr h)
  | arr ht hu hv hw hx =>
    have k1 := kts_cons.1 hk
    have k2 := kts_cons.1 (kts_cons.1 (kts_cons.1 k1.2).2).2
    obtain ⟨u, h1, e⟩ := k2.1.2 hw
    rw [e]
    exact ⟨.arr (kts_n k1.1 ht) ht.2 h1, (kts_cons.1 k2.2).2⟩
theorem DPars.good {b ts xs us} (h : DPars b ts xs us) : kts ts → (∀ x ∈ xs, GP x) ∧ kts us := by
  induction h with
  | none _ _ => exact fun hk => ⟨(fun x hx => by cases hx), (kts_cons.1 (kts_cons.1 hk).2).2⟩
  | args _ _ _ ih => exact fun hk => ih (kts_cons.1 hk).2
  | item h1 _ =>
    intro hk
    obtain ⟨k1, k2⟩ := h1.good hk
    exact ⟨ofOne k1, (kts_cons.1 k2).2⟩
  | items h1 _ _ ih =>
    intro hk
    obtain ⟨k1, k2⟩ := h1.good hk
    obtain ⟨k3, k4⟩ := ih (kts_cons.1 k2).2
    exact ⟨List.forall_mem_cons.2 ⟨k1, k3⟩, k4⟩
theorem DRes.good {ts k us} (h : DRes ts k us) (hk : kts ts) : (k = 0 ∨ k = 2 ∨ k = 4) ∧ kts us := by
  cases h with
  | none _ => exact ⟨.inl rfl, hk⟩
  | short _ _ => exact ⟨.inr (.inl rfl), (kts_cons.1 (kts_cons.1 hk).2).2⟩
  | long _ _ => exact ⟨.inr (.inr rfl), (kts_cons.1 (kts_cons.1 hk).2).2⟩
theorem DF.good {D : Int} {ts x us} (h : DF D ts x us) (hk : kts ts) : GF x ∧ kts us := by
  cases h with
  | @plain t u us xs vs r ws b ys _ hu h1 h2 h3 =>
    have k1 := kts_cons.1 (kts_cons.1 hk).2
    obtain ⟨k2, k3⟩ := h1.good k1.2
    obtain ⟨k4, k5⟩ := h2.good k3
    obtain ⟨k6, k7⟩ := h3.good k5
    have := GF.mk (a := t.At_) (kts_n k1.1 hu) hu.2 k4 (.inl rfl) k2 (allOne k6)
    rw [Int.add_zero] at this
    exact ⟨this, k7⟩
  | exp _ _ hu h1 h2 h3 =>
    have k1 := kts_cons.1 (kts_cons.1 (kts_cons.1 hk).2).2
    obtain ⟨k2, k3⟩ := h1.good k1.2
    obtain ⟨k4, k5⟩ := h2.good k3
    obtain ⟨k6, k7⟩ := h3.good k5
    exact ⟨.mk (kts_n k1.1 hu) hu.2 k4 (.inr rfl) k2 (allOne k6), k7⟩
theorem DFs.good {D : Int} {ts xs us} (h : DFs D ts xs us) : kts ts → ∀ x ∈ xs, GF x := by
  induction h with
  | nil => exact fun _ x hx => by cases hx
  | cons h1 _ ih =>
    intro hk
    obtain ⟨k1, k2⟩ := h1.good hk
    exact List.forall_mem_cons.2 ⟨k1, ih k2⟩
/-! parameters -/
def SP (x : Nd) : Prop := ∃ ats, hx ats [41] ∧ (∀ r ts, nw r → Lx r ts → Lx (tx x ++ r) (ats ++ ts)) ∧ ∀ w rest, w.map absT = ats → ∃ x', erN x' = erN x ∧ DPar (w ++ rest) x' rest
theorem GP.shown {x : Nd} (h : GP x) : SP x := by
  cases h with
  | @word a k t ht hw hk =>
    obtain ⟨s, e0, hsw, hs⟩ : ∃ s : Str, tx ⟨3, a, t, k, []⟩ = t ++ (58 :: 32 :: s) ∧ isWord s = true ∧ (k = 1 ∧ s = [112, 117, 98] ∨ k = 2 ∧ s = [117, 51, 50] ∨ k = 3 ∧ s = [117, 54, 52]) := by
      rcases hk with rfl | rfl | rfl
      · exact ⟨_, by rw [tx_mk]; rfl, by decide, .inl ⟨rfl, rfl⟩⟩
      · exact ⟨_, by rw [tx_mk]; rfl, by decide, .inr (.inl ⟨rfl, rfl⟩)⟩
      · exact ⟨_, by rw [tx_mk]; rfl, by decide, .inr (.inr ⟨rfl, rfl⟩)⟩
    refine ⟨[(1, t, 0), (3, [58], 0), (1, s, 0)], ⟨1, _, _, _, rfl, ht.ne (fun b l e => by cases e; rfl)⟩, fun r ts hr hl => ?_, fun w rest hw' => ?_⟩
    · rw [e0]
      have := Lx.name ht (nw_of (by decide)) (Lx.s1 (c := 58) (by decide) (Lx.sp (Lx.name (okW hsw) hr hl)))
      simpa [List.append_assoc] using this
    · obtain ⟨v, w, rfl, e1, e2⟩ := map_cons_inv hw'
      obtain ⟨u, w, rfl, e3, e4⟩ := map_cons_inv e2
      obtain ⟨z, w, rfl, e5, e6⟩ := map_cons_inv e4
      rw [List.map_eq_nil_iff] at e6
      subst e6
      obtain ⟨k1, k2⟩ := absT_name e1 hw
      exact ⟨_, by rw [erN_mk, erN_mk, k2], .word k1 (absT_sign e3) hs (absT_word e5 hsw)⟩
  | @arr a b t u ht hw hu =>
    have e0 : tx ⟨3, a, t, 4, [⟨14, b, [], u, []⟩]⟩ = t ++ ([58, 32, 91] ++ (Lib.decDigits u ++ [93])) := by
      rw [tx_mk]
      show t ++ ([58, 32, 91] ++ (tx ⟨14, b, [], u, []⟩ ++ [93])) = _
      rw [tx_mk]; rfl
    refine ⟨[(1, t, 0), (3, [58], 0), (3, [91], 0), (2, Lib.decDigits u, (u : Int)), (3, [93], 0)], ⟨1, _, _, _, rfl, ht.ne (fun b l e => by cases e; rfl)⟩, fun r ts hr hl => ?_, fun w rest hw' => ?_⟩
    · rw [e0]
      have := Lx.name ht (nw_of (by decide)) (Lx.s1 (c := 58) (by decide) (Lx.sp (Lx.s1 (c := 91) (by decide) (Lx.num hu (nw_of (by decide)) (Lx.s1 (c := 93) (by decide) hl)))))
      simpa [List.append_assoc] using this
    · obtain ⟨v, w, rfl, e1, e2⟩ := map_cons_inv hw'
      obtain ⟨u1, w, rfl, e3, e4⟩ := map_cons_inv e2
      obtain ⟨z, w, rfl, e5, e6⟩ := map_cons_inv e4
      obtain ⟨z2, w, rfl, e7, e8⟩ := map_cons_inv e6
      obtain ⟨z3, w, rfl, e9, e10⟩ := map_cons_inv e8
      rw [List.map_eq_nil_iff] at e10
      subst e10
      obtain ⟨k1, k2⟩ := absT_name e1 hw
      obtain ⟨k3, k4⟩ := absT_num e7
      exact ⟨_, by rw [erN_mk, erN_mk, k2, k4, List.map_singleton, List.map_singleton, erN_mk, erN_mk], .arr k1 (absT_sign e3) (absT_sign e5) k3 (absT_sign e9)⟩
theorem pars_shown : ∀ (xs : List Nd), xs ≠ [] → (∀ x ∈ xs, SP x) → ∃ ats, hx ats [41] ∧ (∀ r ts, nw r → Lx r ts → Lx (comma (xs.map tx) ++ r) (ats ++ ts)) ∧
    ∀ (w : List Tok) (t : Tok) (rest : List Tok), w.map absT = ats → isT t [41] → ∃ xs', xs'.map erN = xs.map erN ∧ DPars false (w ++ t :: rest) xs' rest := by
  intro xs
  induction xs with
  | nil => intro h; exact absurd rfl h
  | cons x xs ih =>
    intro _ h
    obtain ⟨⟨a1, h1, h2, h3⟩, hs⟩ := List.forall_mem_cons.1 h
    cases xs with
    | nil =>
      refine ⟨a1, h1, h2, fun w t rest hw ht => ?_⟩
      obtain ⟨x', e, hx⟩ := h3 w (t :: rest) hw
      exact ⟨[x'], by rw [List.map_singleton, List.map_singleton, e], .item hx ht⟩
    | cons y ys =>
      obtain ⟨a2, k1, k2, k3⟩ := ih (by simp) hs
      refine ⟨a1 ++ (3, [44], 0) :: a2, ?_, fun r ts hr hl => ?_, fun w t rest hw ht => ?_⟩
      · obtain ⟨k, t, u, l, rfl, hne⟩ := h1
        exact ⟨k, t, u, _, rfl, hne⟩
      · show Lx ((tx x ++ ([44, 32] ++ comma ((y :: ys).map tx))) ++ r) _
        have := h2 _ _ (nw_of (c := 44) (by decide)) (Lx.s1 (c := 44) (by decide) (k2 r ts hr hl).sp)
        simpa [List.append_assoc] using this
      · obtain ⟨w1, w2, rfl, e1, e2⟩ := map_app_inv hw
        obtain ⟨v, w3, rfl, e3, e4⟩ := map_cons_inv e2
        have hv := absT_sign e3
        obtain ⟨x', e, hx⟩ := h3 w1 (v :: (w3 ++ t :: rest)) e1
        obtain ⟨xs', e', hxs⟩ := k3 w3 t rest e4 ht
        refine ⟨x' :: xs', by rw [List.map_cons, List.map_cons, e, e'], ?_⟩
        have := DPars.items hx hv hxs
        simpa [List.append_assoc] using this
theorem parens_shown {xs : List Nd} (h : ∀ x ∈ xs, SP x) : ∃ ats, (∀ r ts, Lx r ts → Lx (40 :: (comma (xs.map tx) ++ 41 :: r)) ((3, [40], 0) :: (ats ++ ts))) ∧
    ∀ (w rest : List Tok), w.map absT = (3, [40], 0) :: ats → ∃ xs', xs'.map erN = xs.map erN ∧ DPars true (w ++ rest) xs' rest := by
  by_cases hn : xs = []
  · subst hn
    refine ⟨[(3, [41], 0)], fun r ts hl => Lx.s1 (by decide) (Lx.s1 (by decide) hl), fun w rest hw => ?_⟩
    obtain ⟨u, w, rfl, e1, e2⟩ := map_cons_inv hw
    obtain ⟨v, w, rfl, e3, e4⟩ := map_cons_inv e2
    rw [List.map_eq_nil_iff] at e4
    subst e4
    exact ⟨[], rfl, .none (absT_sign e1) (absT_sign e3)⟩
  · obtain ⟨a, h1, h2, h3⟩ := pars_shown xs hn h
    refine ⟨a ++ [(3, [41], 0)], fun r ts hl => ?_, fun w rest hw => ?_⟩
    · have := Lx.s1 (c := 40) (by decide) (h2 _ _ (nw_of (c := 41) (by decide)) (Lx.s1 (c := 41) (by decide) hl))
      simpa [List.append_assoc] using this
    · obtain ⟨u, w, rfl, e1, e2⟩ := map_cons_inv hw
      obtain ⟨w, v, rfl, e3, e4⟩ := lex_end e2
      obtain ⟨xs', e, hx⟩ := h3 w v rest e3 (absT_sign e4)
      refine ⟨xs', e, ?_⟩
      have := DPars.args (absT_sign e1) (by have := h1.not (rest := v :: rest) e3; exact this) hx
      simpa [List.append_assoc] using this
/-! functions -/
def rtx (n : Int) (r : Str) : Str := (if n / 2 % 2 = 1 then [32, 45, 62, 32, 117, 51, 50] else []) ++ ((if n / 4 % 2 = 1 then [32, 45, 62, 32, 117, 54, 52] else []) ++ r)
theorem txF_eq (t : Str) (n : Int) (l : List Str) (y : Str) : txF t n (l ++ [y]) = (if n % 2 = 1 then [101, 120, 112, 111, 114, 116, 32] else []) ++ ([102, 110, 32] ++ (t ++ (40 :: (comma l ++ (41 :: rtx n (32 :: y)))))) := by
  unfold txF rtx
  have h1 : (l ++ [y]).length - 1 = l.length := by simp
  rw [h1, List.take_left]
  have h2 : at0 (l ++ [y]) l.length = y := by unfold at0; simp
  rw [h2]
theorem res_shown {n r e : Int} (hr : r = 0 ∨ r = 2 ∨ r = 4) (he : e = 0 ∨ e = 1) (hn : n = r + e) : ∃ ats, (∀ s ts, Lx s ts → Lx (rtx n (32 :: s)) (ats ++ ts)) ∧ ∀ (w : List Tok) (z : Tok) (rest : List Tok), w.map absT = ats → isT z [123] → DRes (w ++ z :: rest) r (z :: rest) := by
  rcases hr with rfl | rfl | rfl
  · refine ⟨[], fun s ts hl => ?_, fun w z rest hw hz => ?_⟩
    · have : rtx n (32 :: s) = 32 :: s := by
        rcases he with rfl | rfl <;> subst hn <;> rfl
      rw [this]
      exact hl.sp
    · rw [List.map_eq_nil_iff] at hw
      subst hw
      exact .none (nhd hz (by decide))
  · refine ⟨[(3, [45, 62], 0), (1, [117, 51, 50], 0)], fun s ts hl => ?_, fun w z rest hw hz => ?_⟩
    · have : rtx n (32 :: s) = 32 :: ([45, 62] ++ 32 :: ([117, 51, 50] ++ 32 :: s)) := by
        rcases he with rfl | rfl <;> subst hn <;> rfl
      rw [this]
      exact Lx.sp (Lx.sb (by decide) (Lx.name (t := [117, 51, 50]) (okW (by decide)) (nw_of (by decide)) hl.sp))
    · obtain ⟨v, w, rfl, e1, e2⟩ := map_cons_inv hw
      obtain ⟨u1, w, rfl, e3, e4⟩ := map_cons_inv e2
      rw [List.map_eq_nil_iff] at e4
      subst e4
      exact .short (absT_sign e1) (absT_word e3 (by decide))
  · refine ⟨[(3, [45, 62], 0), (1, [117, 54, 52], 0)], fun s ts hl => ?_, fun w z rest hw hz => ?_⟩
    · have : rtx n (32 :: s) = 32 :: ([45, 62] ++ 32 :: ([117, 54, 52] ++ 32 :: s)) := by
        rcases he with rfl | rfl <;> subst hn <;> rfl
      rw [this]
      exact Lx.sp (Lx.sb (by decide) (Lx.name (t := [117, 54, 52]) (okW (by decide)) (nw_of (by decide)) hl.sp))
    · obtain ⟨v, w, rfl, e1, e2⟩ := map_cons_inv hw
      obtain ⟨u1, w, rfl, e3, e4⟩ := map_cons_inv e2
      rw [List.map_eq_nil_iff] at e4
      subst e4
      exact .long (absT_sign e1) (absT_word e3 (by decide))
def SF (x : Nd) : Prop := ∃ ats, (∀ r ts, Lx r ts → Lx (tx x ++ r) (ats ++ ts)) ∧ ∀ (D : Int) (w rest : List Tok), w.map absT = ats → 2 * sz x + 3 ≤ D → ∃ x', erN x' = erN x ∧ DF D (w ++ rest) x' rest
theorem GF.shown {x : Nd} (h : GF x) : SF x := by
  cases h with
  | @mk a r e t xs b ht hw hr he hxs hb =>
    obtain ⟨a1, h1, h2⟩ := parens_shown fun x hx => (hxs x hx).shown
    obtain ⟨a2, h3, h4⟩ := res_shown hr he rfl
    obtain ⟨a3, _, _, i1, i2, i3⟩ := hb.shown
    obtain ⟨l3, rfl⟩ := i1 rfl
    have e0 : tx ⟨2, a, t, r + e, xs ++ [b]⟩ = (if (r + e) % 2 = 1 then [101, 120, 112, 111, 114, 116, 32] else []) ++ ([102, 110, 32] ++ (t ++ (40 :: (comma (xs.map tx) ++ (41 :: rtx (r + e) (32 :: tx b)))))) := by
      rw [tx_mk]
      show txF _ _ _ = _
      rw [List.map_append, List.map_singleton, txF_eq]
    have hrtx : ∀ (n : Int) (s s' : Str), rtx n s ++ s' = rtx n (s ++ s') := by intro n s s'; unfold rtx; simp [List.append_assoc]
    have core : ∀ s ts, Lx s ts → Lx ([102, 110, 32] ++ (t ++ (40 :: (comma (xs.map tx) ++ (41 :: rtx (r + e) (32 :: (tx b ++ s))))))) ((1, [102, 110], 0) :: (1, t, 0) :: (3, [40], 0) :: (a1 ++ (a2 ++ ((3, [123], 0) :: l3 ++ ts)))) := by
      intro s ts hl
      have := Lx.name (t := [102, 110]) (okW (by decide)) (nw_of (by decide)) (Lx.sp (Lx.name ht (nw_of (by decide)) (h1 _ _ (h3 _ _ (i2 _ _ hl)))))
      simpa [List.append_assoc] using this
    have dcore : ∀ (D : Int) (w rest : List Tok), w.map absT = (1, [102, 110], 0) :: (1, t, 0) :: (3, [40], 0) :: (a1 ++ (a2 ++ ((3, [123], 0) :: l3))) → 2 * (1 + szL (xs ++ [b])) + 3 ≤ D → ∃ f u us xs' b' vs ws, w ++ rest = f :: u :: us ∧ isT f [102, 110] ∧ isN u ∧ u.Text_ = t ∧ DPars true us xs' vs ∧ DRes vs r ws ∧ DS D .block 1 ws [b'] rest ∧ xs'.map erN = xs.map erN ∧ erN b' = erN b := by
      intro D w rest hw' hD
      obtain ⟨v, w, rfl, e1, e2⟩ := map_cons_inv hw'
      obtain ⟨u, w, rfl, e3, e4⟩ := map_cons_inv e2
      rw [show ((3, [40], 0) :: (a1 ++ (a2 ++ ((3, [123], 0) :: l3))) : List AT) = ((3, [40], 0) :: a1) ++ (a2 ++ ((3, [123], 0) :: l3)) from rfl] at e4
      obtain ⟨w1, w2, rfl, e5, e6⟩ := map_app_inv e4
      obtain ⟨w3, w4, rfl, e7, e8⟩ := map_app_inv e6
      have e8' := e8
      obtain ⟨z, w4, rfl, e9, e10⟩ := map_cons_inv e8
      obtain ⟨k1, k2⟩ := absT_name e3 hw
      have p1 := szL_ge xs
      rw [szL_app, szL_1] at hD
      obtain ⟨xs', q1, q2⟩ := h2 w1 (w3 ++ z :: (w4 ++ rest)) e5
      have q3 := h4 w3 z (w4 ++ rest) e7 (absT_sign e9)
      obtain ⟨b', q4, q5⟩ := i3 D 1 (z :: w4) rest e8' (fun h => by cases h) (by omega) (by omega)
      exact ⟨v, u, w1 ++ (w3 ++ z :: (w4 ++ rest)), xs', b', _, _, by simp [List.append_assoc], absT_word e1 (by decide), k1, k2, q2, q3, q5, q1, q4⟩
    rcases he with rfl | rfl
    · have hm : (r + 0) % 2 = 0 := by omega
      refine ⟨(1, [102, 110], 0) :: (1, t, 0) :: (3, [40], 0) :: (a1 ++ (a2 ++ ((3, [123], 0) :: l3))), fun s ts hl => ?_, fun D w rest hw' hD => ?_⟩
      · rw [e0, hm, if_neg (by decide)]
        have := core s ts hl
        simpa [List.append_assoc, hrtx] using this
      · rw [sz_mk] at hD
        obtain ⟨f, u, us, xs', b', vs, ws, q0, q1, q2, q3, q4, q5, q6, q7, q8⟩ := dcore D w rest hw' hD
        refine ⟨⟨2, f.At_, u.Text_, r, xs' ++ [b']⟩, ?_, by rw [q0]; exact .plain q1 q2 q4 q5 q6⟩
        rw [erN_mk, erN_mk, q3, List.map_append, List.map_append, q7, List.map_singleton, List.map_singleton, q8, Int.add_zero]
    · have hm : (r + 1) % 2 = 1 := by omega
      refine ⟨(1, [101, 120, 112, 111, 114, 116], 0) :: (1, [102, 110], 0) :: (1, t, 0) :: (3, [40], 0) :: (a1 ++ (a2 ++ ((3, [123], 0) :: l3))), fun s ts hl => ?_, fun D w rest hw' hD => ?_⟩
      · rw [e0, hm, if_pos rfl]
        have := Lx.name (t := [101, 120, 112, 111, 114, 116]) (okW (by decide)) (nw_of (by decide)) (Lx.sp (core s ts hl))
        simpa [List.append_assoc, hrtx] using this
      · rw [sz_mk] at hD
        obtain ⟨g, w, rfl, e1, e2⟩ := map_cons_inv hw'
        obtain ⟨f, u, us, xs', b', vs, ws, q0, q1, q2, q3, q4, q5, q6, q7, q8⟩ := dcore D w rest e2 hD
        refine ⟨⟨2, g.At_, u.Text_, r + 1, xs' ++ [b']⟩, ?_, by rw [List.cons_append, q0]; exact .exp (absT_word e1 (by decide)) q1 q2 q4 q5 q6⟩
        rw [erN_mk, erN_mk, q3, List.map_append, List.map_append, q7, List.map_singleton, List.map_singleton, q8]
theorem fns_shown : ∀ (xs : List Nd), (∀ x ∈ xs, SF x) → ∃ ats, (∀ r ts, Lx r ts → Lx (sev (xs.map tx) ++ r) (ats ++ ts)) ∧
    ∀ (D : Int) (w rest : List Tok), w.map absT = ats → 2 * szL xs + 3 ≤ D → ∃ xs', xs'.map erN = xs.map erN ∧ DFs D (w ++ rest) xs' rest := by
  intro xs
  induction xs with
  | nil =>
    intro _
    refine ⟨[], fun r ts hl => hl, fun D w rest hw _ => ?_⟩
    rw [List.map_eq_nil_iff] at hw
    subst hw
    exact ⟨[], rfl, .nil⟩
  | cons x xs ih =>
    intro h
    obtain ⟨⟨a1, h2, h3⟩, hs⟩ := List.forall_mem_cons.1 h
    obtain ⟨a2, k2, k3⟩ := ih hs
    refine ⟨a1 ++ a2, fun r ts hl => ?_, fun D w rest hw hD => ?_⟩
    · show Lx ((tx x ++ (10 :: sev (xs.map tx))) ++ r) _
      have := h2 _ _ (Lx.nl (k2 r ts hl))
      simpa [List.append_assoc] using this
    · obtain ⟨w1, w2, rfl, e1, e2⟩ := map_app_inv hw
      have p1 := sz_pos x
      have p2 := szL_ge xs
      rw [szL_cons] at hD
      obtain ⟨x', e, hx⟩ := h3 D w1 (w2 ++ rest) e1 (by omega)
      obtain ⟨xs', e', hxs⟩ := k3 D w2 rest e2 (by omega)
      refine ⟨x' :: xs', by rw [List.map_cons, List.map_cons, e, e'], ?_⟩
      rw [List.append_assoc]
      exact .cons hx hxs
theorem szL_er {l l' : List Nd} (h : l.map erN = l'.map erN) : szL l = szL l' := by
  rw [← szL_map (f := erN) (l := l) fun x _ => sz_er x, h, szL_map fun x _ => sz_er x]
theorem long_parse {n : Nat} {s : Str} (h : 65536 < s.length) : parse_Parse n s = some (⟨0, 0, [], 0, []⟩, 161, 0) := by
  unfold parse_Parse lex_Tokens
  rw [if_pos (by simp only [decide_eq_true_eq]; omega), Option.bind_some, if_pos (by decide)]
/-- what is shown of a parsed program is parsed as it, or a limit is met -/
theorem shows_parse {n m : Nat} {s : Str} {r : T_parse_Node × Int × Int} (hn : 16 * s.length + 200 < n) (h : parse_Parse n s = some r) (he : r.2.1 = 0) (hm : 1048900 < m) :
    ∃ q, parse_Parse m (tx r.1) = some q ∧ (q.2.1 = 111 ∨ q.2.1 = 161 ∨ (q.2.1 = 0 ∧ erN q.1 = erN r.1)) ∧ sz r.1 ≤ 16384 := by
  obtain ⟨l, w, fs, z, t, us, h1, h2, h3, h4, h5, h6⟩ := parse_der hn h he
  have hsz : sz r.1 ≤ 16384 := by rw [h5, sz_mk]; exact h6
  by_cases hl : 65536 < (tx r.1).length
  · exact ⟨_, long_parse hl, .inr (.inl rfl), hsz⟩
  obtain ⟨hs, k, l', e1, e2, e3⟩ := Tokens_tk (by omega) (by omega) h1
  have hk : kts l := by
    rw [e1]
    intro t ht
    rcases List.mem_append.1 ht with ht | ht
    · exact e3.kts (by omega) (by omega) (by omega) t ht
    · rw [List.mem_singleton.1 ht]
      exact ⟨(fun h => by cases h), fun h => by cases h⟩
  have hg := h2.good hk
  obtain ⟨ats, q1, q2⟩ := fns_shown fs fun x hx => (hg x hx).shown
  have etx : tx r.1 = sev (fs.map tx) := by rw [h5, tx_mk]; rfl
  have hlx : Lx (tx r.1) ats := by
    have := q1 [] [] .nil
    rwa [List.append_nil, List.append_nil, ← etx] at this
  obtain ⟨l2, t1, t2⟩ := hlx.tokens (n := m) (by omega) (by omega)
  obtain ⟨fs', d1, d2⟩ := q2 1099511627776 l2 [⟨4, (tx r.1).length, [], 0⟩] t2 (by omega)
  obtain ⟨q, eq, hq⟩ := cParse (D := 1099511627776) (by decide) (by decide) (by omega) t1 d2 rfl
  refine ⟨q, eq, ?_, hsz⟩
  rw [szL_er d1] at hq
  rcases hq with ⟨t', us', _, c1, _⟩ | ⟨_, c2⟩ | ⟨c1, _⟩
  · exact .inr (.inr ⟨by rw [c1], by rw [c1, h5, erN_mk, erN_mk, d1]⟩)
  · omega
  · exact .inl c1
end Go.Proofs.YtolhahlnccekcaaDoor.Abs
