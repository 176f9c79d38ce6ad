/-
  Good expressions: what a source gives, and that what is shown of them is parsed as them.
-/
import Derived.Test.YtolhahlnccekcaaDoorPwSh1
namespace Go.Proofs.YtolhahlnccekcaaDoor.Abs
open Go.RowKit
set_option linter.unusedVariables false
set_option linter.unusedSimpArgs false
/-! the source's tokens -/
def kt (t : Tok) : Prop := (t.Kind_ = 1 → nameOk t.Text_) ∧ (t.Kind_ = 2 → ∃ u : Nat, u ≤ 4294967295 ∧ t.Num_ = u)
theorem value_l1_inr {x : Str × Bool} : ∀ (c : Nat) (a v : Int) {r : Int × Bool}, lex_value_l1 x c a v = some (.inr r) → r.2 = false := by
  intro c
  induction c with
  | zero => intro a v r h; cases h
  | succ c ih =>
    intro a v r h
    unfold lex_value_l1 at h
    split at h
    · unfold need at h
      split at h
      · obtain ⟨y, e, h⟩ := Option.bind_eq_some_iff.1 h
        obtain ⟨z, e, h⟩ := Option.bind_eq_some_iff.1 h
        obtain ⟨q, e, h⟩ := Option.bind_eq_some_iff.1 h
        split at h
        · cases h; rfl
        · exact ih _ _ h
      · cases h
    · cases h
theorem value_l2_inr {x : Str} : ∀ (c : Nat) (a v : Int) {r : Int × Bool}, lex_value_l2 x c a v = some (.inr r) → r.2 = false := by
  intro c
  induction c with
  | zero => intro a v r h; cases h
  | succ c ih =>
    intro a v r h
    unfold lex_value_l2 at h
    split at h
    · unfold need at h
      split at h
      · obtain ⟨y, e, h⟩ := Option.bind_eq_some_iff.1 h
        obtain ⟨z, e, h⟩ := Option.bind_eq_some_iff.1 h
        obtain ⟨q, e, h⟩ := Option.bind_eq_some_iff.1 h
        split at h
        · cases h; rfl
        · exact ih _ _ h
      · cases h
    · cases h
theorem u32_nat (z : Int) : ∃ u : Nat, u ≤ 4294967295 ∧ IntKind.u32.wrap z = u := by
  refine ⟨(IntKind.u32.wrap z).toNat, ?_, ?_⟩ <;> rw [IntKind.wrap_u32] <;> omega
theorem value_rng {n : Nat} {s : Str} {r : Int × Bool} (h : lex_value n s = some r) (hr : r.2 = true) : ∃ u : Nat, u ≤ 4294967295 ∧ r.1 = u := by
  unfold lex_value at h
  obtain ⟨y, e, h⟩ := Option.bind_eq_some_iff.1 h
  split at h
  · obtain ⟨z, e, h⟩ := Option.bind_eq_some_iff.1 h
    cases z with
    | inl z => cases h; exact u32_nat z
    | inr z => cases h; rw [value_l1_inr _ _ _ e] at hr; cases hr
  · obtain ⟨z, e, h⟩ := Option.bind_eq_some_iff.1 h
    cases z with
    | inl z => cases h; exact u32_nat z
    | inr z => cases h; rw [value_l2_inr _ _ _ e] at hr; cases hr
theorem next_kt {n : Nat} {s : Str} {v : Nat} {t : Tok} (hs : s.length < 4611686018427387904) (hn : s.length < n) (hn2 : 26 < n) (hv : v < s.length) (h : lex_next n s v = some (t, 0)) : kt t := by
  obtain ⟨x, hx⟩ : ∃ x, s[v]? = some x := ⟨_, List.getElem?_eq_getElem hv⟩
  have hd : s.drop v = x :: s.drop (v + 1) := by
    obtain ⟨h1, rfl⟩ := List.getElem?_eq_some_iff.1 hx
    exact List.drop_eq_getElem_cons h1
  have hi : idxL s (v : Int) = some x := by
    unfold idxL
    rw [if_pos (by omega), Int.toNat_natCast, hx]
  unfold lex_next at h
  rw [need_of ⟨by omega, by omega⟩, Int.toNat_natCast, word_eq (by rw [List.length_drop]; omega) (by rw [List.length_drop]; omega), Option.bind_some, hi, Option.bind_some, Letter_eq, Option.bind_some] at h
  by_cases h1 : isLet x.toNat = true
  · rw [if_pos h1] at h
    split at h
    · cases h
    · rename_i h2
      cases h
      simp only [decide_eq_true_eq] at h2
      refine ⟨fun _ => ⟨?_, ?_, by simp only; omega⟩, fun h => by cases h⟩
      · rw [hd, List.takeWhile_cons_of_pos (by simp [lod, h1])]
        exact ⟨x, _, rfl, h1⟩
      · have := List.all_takeWhile (p := lod) (l := s.drop v)
        exact fun c hc => List.all_eq_true.1 this c hc
  · rw [if_neg h1, Digit_eq, Option.bind_some] at h
    split at h
    · obtain ⟨y, e, h⟩ := Option.bind_eq_some_iff.1 h
      split at h
      · cases h
      · rename_i h2
        cases h
        exact ⟨(fun h => by cases h), fun _ => value_rng e (by simpa using h2)⟩
    · unfold need at h
      split at h
      · obtain ⟨y, e, h⟩ := Option.bind_eq_some_iff.1 h
        split at h
        · cases h
        · cases h
          exact ⟨(fun h => by cases h), fun h => by cases h⟩
      · cases h
def kts (l : List Tok) : Prop := ∀ t ∈ l, kt t
theorem kts_cons {t : Tok} {l : List Tok} : kts (t :: l) ↔ kt t ∧ kts l := List.forall_mem_cons
theorem Tk.kts {n : Nat} {s : Str} {v : Nat} {l : List Tok} (hs : s.length < 4611686018427387904) (hn : s.length < n) (hn2 : 26 < n) (h : Tk n s v l) : kts l := by
  induction h with
  | nil => intro t ht; cases ht
  | cons h1 h2 _ _ ih => exact kts_cons.2 ⟨next_kt hs hn hn2 h1 h2, ih⟩
/-! good expressions -/
inductive GE : Nd → Prop
  | num {a : Int} {u : Nat} : u ≤ 4294967295 → GE ⟨14, a, [], u, []⟩
  | ref {a : Int} {t : Str} : nameOk t → isWord t = false → GE ⟨15, a, t, 0, []⟩
  | idx {a : Int} {t : Str} {x : Nd} : nameOk t → isWord t = false → GE x → GE ⟨16, a, t, 0, [x]⟩
  | call {a : Int} {t : Str} {xs : List Nd} : nameOk t → isWord t = false → (∀ x ∈ xs, GE x) → GE ⟨17, a, t, 0, xs⟩
  | un {a : Int} {s : Str} {x : Nd} : (s = [126] ∨ s = [45]) → GE x → GE ⟨18, a, s, 0, [x]⟩
  | bin {a : Int} {s : Str} {x y : Nd} {l : Nat} : l < 7 → s ∈ levP l → s ≠ [] → GE x → GE y → GE ⟨19, a, s, 0, [x, y]⟩
theorem allOne {P : Nd → Prop} {x : Nd} (h : ∀ y ∈ [x], P y) : P x := h x (List.mem_singleton.2 rfl)
theorem ofOne {P : Nd → Prop} {x : Nd} (h : P x) : ∀ y ∈ [x], P y := fun y hy => by rw [List.mem_singleton.1 hy]; exact h
theorem DE.good {D : Int} {K d ts xs us} (h : DE D K d ts xs us) : kts ts → (∀ l x, K = .tail l x → GE x) → (∀ x ∈ xs, GE x) ∧ kts us := by
  induction h with
  | paren _ _ _ _ ih =>
    intro hk _
    obtain ⟨h1, h2⟩ := ih (kts_cons.1 hk).2 (fun _ _ e => by cases e)
    exact ⟨h1, (kts_cons.1 h2).2⟩
  | un _ hs _ _ ih =>
    intro hk _
    obtain ⟨h1, h2⟩ := ih (kts_cons.1 hk).2 (fun _ _ e => by cases e)
    exact ⟨ofOne (.un hs (allOne h1)), h2⟩
  | num _ h2 =>
    intro hk _
    obtain ⟨u, hu, e⟩ := (kts_cons.1 hk).1.2 h2
    rw [e]
    exact ⟨ofOne (.num hu), (kts_cons.1 hk).2⟩
  | ref _ h2 =>
    intro hk _
    exact ⟨ofOne (.ref ((kts_cons.1 hk).1.1 h2.1) h2.2), (kts_cons.1 hk).2⟩
  | call _ h2 _ ih =>
    intro hk _
    obtain ⟨h3, h4⟩ := ih (kts_cons.1 hk).2 (fun _ _ e => by cases e)
    exact ⟨ofOne (.call ((kts_cons.1 hk).1.1 h2.1) h2.2 h3), h4⟩
  | index _ h2 _ _ _ ih =>
    intro hk _
    obtain ⟨h3, h4⟩ := ih (kts_cons.1 (kts_cons.1 hk).2).2 (fun _ _ e => by cases e)
    exact ⟨ofOne (.idx ((kts_cons.1 hk).1.1 h2.1) h2.2 (allOne h3)), (kts_cons.1 h4).2⟩
  | last _ ih => exact fun hk _ => ih hk (fun _ _ e => by cases e)
  | lev _ _ _ ih1 ih2 =>
    intro hk _
    obtain ⟨h3, h4⟩ := ih1 hk (fun _ _ e => by cases e)
    exact ih2 h4 (fun _ _ e => by cases e; exact allOne h3)
  | stop _ _ => exact fun hk hx => ⟨ofOne (hx _ _ rfl), hk⟩
  | one h1 h2 _ _ ih =>
    intro hk hx
    obtain ⟨h3, h4⟩ := ih (kts_cons.1 hk).2 (fun _ _ e => by cases e)
    exact ⟨ofOne (.bin (l := 3) (by decide) h1 h2 (hx _ _ rfl) (allOne h3)), h4⟩
  | more h0 _ h1 h2 _ _ _ ih1 ih2 =>
    intro hk hx
    obtain ⟨h3, h4⟩ := ih1 (kts_cons.1 hk).2 (fun _ _ e => by cases e)
    exact ih2 h4 (fun _ _ e => by cases e; exact .bin h0 h1 h2 (hx _ _ rfl) (allOne h3))
  | none _ _ => exact fun hk _ => ⟨(fun x hx => by cases hx), (kts_cons.1 (kts_cons.1 hk).2).2⟩
  | args _ _ _ ih => exact fun hk _ => ih (kts_cons.1 hk).2 (fun _ _ e => by cases e)
  | item _ _ ih =>
    intro hk _
    obtain ⟨h3, h4⟩ := ih hk (fun _ _ e => by cases e)
    exact ⟨h3, (kts_cons.1 h4).2⟩
  | items _ _ _ ih1 ih2 =>
    intro hk _
    obtain ⟨h3, h4⟩ := ih1 hk (fun _ _ e => by cases e)
    obtain ⟨h5, h6⟩ := ih2 (kts_cons.1 h4).2 (fun _ _ e => by cases e)
    exact ⟨List.forall_mem_cons.2 ⟨allOne h3, h5⟩, h6⟩
theorem DE.good0 {D : Int} {d ts x us} (h : DE D (.lev 0) d ts [x] us) (hk : kts ts) : GE x ∧ kts us := by
  obtain ⟨h1, h2⟩ := h.good hk (fun _ _ e => by cases e)
  exact ⟨allOne h1, h2⟩
/-! shown -/
def hx (ats : List AT) (s : Str) : Prop := ∃ k t u l, ats = (k, t, u) :: l ∧ t ≠ s
theorem hx.not {ats : List AT} {s : Str} {w rest : List Tok} (h : hx ats s) (hw : w.map absT = ats) : ¬ hdT (w ++ rest) s := by
  obtain ⟨k, t, u, l, rfl, hne⟩ := h
  obtain ⟨v, w', rfl, hv, _⟩ := map_cons_inv hw
  intro hd
  have h1 := (hdT_head hd).1
  injection hv with _ h2
  injection h2 with h2 _
  exact hne (h2.symm.trans h1)
theorem nhd {v : Tok} {rest : List Tok} {s s' : Str} (h : isT v s) (hne : s ≠ s') : ¬ hdT (v :: rest) s' := fun hd => hne (h.1.symm.trans (hdT_head hd).1)
theorem DE.dn {D d : Int} {ts us : List Tok} {x : Nd} : ∀ (k a : Nat), DE D (.lev (a + k)) d ts [x] us → a + k ≤ 7 → (∀ j : Nat, a ≤ j → j < 7 → ∀ s ∈ levP j, s ≠ [] → ¬ hdT us s) → DE D (.lev a) d ts [x] us := by
  intro k
  induction k with
  | zero => intro a h _ _; exact h
  | succ k ih =>
    intro a h hle hf
    have := ih (a + 1) (by rw [show a + 1 + k = a + (k + 1) by omega]; exact h) (by omega) (fun j h1 h2 => hf j (by omega) h2)
    exact .lev (by omega) this (.stop (by omega) (hf a (Nat.le_refl _) (by omega)))
theorem lev_signs : ∀ l : Nat, l < 7 → ∀ s ∈ levP l, s ≠ [] → s ∈ g_lex_signs ∧ (∀ j : Nat, j < 7 → j ≠ l → s ∉ levP j) ∧ s ≠ [40] ∧ s ≠ [91] := by
  intro l hl
  have : ∀ l : Fin 7, ∀ s ∈ levP (l.val : Nat), s ≠ [] → s ∈ g_lex_signs ∧ (∀ j : Fin 7, j.val ≠ l.val → s ∉ levP (j.val : Nat)) ∧ s ≠ [40] ∧ s ≠ [91] := by decide
  intro s h1 h2
  obtain ⟨a, b, c⟩ := this ⟨l, hl⟩ s h1 h2
  exact ⟨a, fun j hj hne => b ⟨j, hj⟩ hne, c⟩
theorem nameOk.ne {t s : Str} (h : nameOk t) (hs : ∀ b l, s = b :: l → isLet b.toNat = false) : t ≠ s := by
  obtain ⟨⟨b, t', rfl, hb⟩, _⟩ := h
  intro e
  rw [hs b t' e.symm] at hb
  cases hb
theorem nameOk.fst {t : Str} (h : nameOk t) : ∃ c r', t = c :: r' ∧ (c = 40 ∨ lod c = true) := by
  obtain ⟨⟨b, t', rfl, hb⟩, h2, _⟩ := h
  exact ⟨b, t', rfl, .inr (h2 b List.mem_cons_self)⟩
theorem fst_app {t r : Str} (h : ∃ c r', t = c :: r' ∧ (c = 40 ∨ lod c = true)) : ∃ c r', t ++ r = c :: r' ∧ (c = 40 ∨ lod c = true) := by
  obtain ⟨c, r', rfl, h⟩ := h
  exact ⟨c, r' ++ r, rfl, h⟩
theorem dec_ne {u : Nat} {s : Str} (hs : ∀ b l, s = b :: l → isDig b.toNat = false) : Lib.decDigits u ≠ s := by
  obtain ⟨_, h2, h3⟩ := dec_ok u
  cases hd : Lib.decDigits u with
  | nil => exact absurd hd h3
  | cons b l =>
    intro e
    have := h2 b (by rw [hd]; exact List.mem_cons_self)
    rw [hs b l e.symm] at this
    cases this
def SE (x : Nd) : Prop := (∃ c r', tx x = c :: r' ∧ (c = 40 ∨ lod c = true)) ∧ ∃ ats, hx ats [41] ∧ (∀ r ts, fo r → Lx r ts → Lx (tx x ++ r) (ats ++ ts)) ∧
  ∀ (D d : Int) (w rest : List Tok), w.map absT = ats → ¬ hdT rest [40] → ¬ hdT rest [91] → 0 ≤ d → d + 2 * sz x ≤ D → ∃ x', erN x' = erN x ∧ DE D .op d (w ++ rest) [x'] rest
theorem lex_end : ∀ {w : List Tok} {ats : List AT} {a : AT}, w.map absT = ats ++ [a] → ∃ w' v, w = w' ++ [v] ∧ w'.map absT = ats ∧ absT v = a := by
  intro w ats a h
  obtain ⟨w1, w2, rfl, h1, h2⟩ := map_app_inv h
  obtain ⟨v, w3, rfl, h3, h4⟩ := map_cons_inv h2
  rw [List.map_eq_nil_iff] at h4
  subst h4
  exact ⟨w1, v, rfl, h1, h3⟩
theorem items_shown : ∀ (xs : List Nd), xs ≠ [] → (∀ x ∈ xs, SE x) → ∃ ats, hx ats [41] ∧ (∀ r ts, fo r → Lx r ts → Lx (comma (xs.map tx) ++ r) (ats ++ ts)) ∧
    ∀ (D d : Int) (w : List Tok) (t : Tok) (rest : List Tok), w.map absT = ats → isT t [41] → 0 ≤ d → d + 1 + 2 * szL xs ≤ D → ∃ xs', xs'.map erN = xs.map erN ∧ DE D .items d (w ++ t :: rest) xs' rest := by
  intro xs
  induction xs with
  | nil => intro h; exact absurd rfl h
  | cons x xs ih =>
    intro _ h
    obtain ⟨⟨_, a1, h1, h2, h3⟩, hs⟩ := List.forall_mem_cons.1 h
    cases xs with
    | nil =>
      refine ⟨a1, h1, h2, fun D d w t rest hw ht hd hD => ?_⟩
      rw [szL_1] at hD
      obtain ⟨x', e, hx⟩ := h3 D (d + 1) w (t :: rest) hw (nhd ht (by decide)) (nhd ht (by decide)) (by omega) (by omega)
      exact ⟨[x'], by rw [List.map_singleton, List.map_singleton, e], .item (hx.lift0 (noSign_of ht (by decide))) ht⟩
    | cons y ys =>
      obtain ⟨a2, k1, k2, k3⟩ := ih (by simp) hs
      refine ⟨a1 ++ (3, [44], 0) :: a2, ?_, fun r ts hr hl => ?_, fun D d w t rest hw ht hd hD => ?_⟩
      · obtain ⟨k, t, u, l, rfl, hne⟩ := h1
        exact ⟨k, t, u, _, rfl, hne⟩
      · show Lx ((tx x ++ ([44, 32] ++ comma ((y :: ys).map tx))) ++ r) _
        have := h2 _ _ (fo_of (c := 44) (by decide)) (Lx.s1 (c := 44) (by decide) (k2 r ts hr hl).sp)
        simpa [List.append_assoc] using this
      · obtain ⟨w1, w2, rfl, e1, e2⟩ := map_app_inv hw
        obtain ⟨v, w3, rfl, e3, e4⟩ := map_cons_inv e2
        have hv := absT_sign e3
        have p1 := sz_pos x
        have p2 := szL_ge (y :: ys)
        rw [szL_cons] at hD
        obtain ⟨x', e, hx⟩ := h3 D (d + 1) w1 (v :: (w3 ++ t :: rest)) e1 (nhd hv (by decide)) (nhd hv (by decide)) (by omega) (by omega)
        obtain ⟨xs', e', hxs⟩ := k3 D d w3 t rest e4 ht hd (by omega)
        refine ⟨x' :: xs', by rw [List.map_cons, List.map_cons, e, e'], ?_⟩
        have := DE.items (hx.lift0 (noSign_of hv (by decide))) hv hxs
        simpa [List.append_assoc] using this
theorem args_shown {xs : List Nd} (h : ∀ x ∈ xs, SE x) : ∃ ats, (∀ r ts, Lx r ts → Lx (40 :: (comma (xs.map tx) ++ 41 :: r)) ((3, [40], 0) :: (ats ++ ts))) ∧
    ∀ (D d : Int) (w rest : List Tok), w.map absT = (3, [40], 0) :: ats → 0 ≤ d → d + 1 + 2 * szL xs ≤ D → ∃ xs', xs'.map erN = xs.map erN ∧ DE D .args d (w ++ rest) xs' rest := by
  by_cases hn : xs = []
  · subst hn
    refine ⟨[(3, [41], 0)], fun r ts hl => Lx.s1 (by decide) (Lx.s1 (by decide) hl), fun D d w rest hw _ _ => ?_⟩
    obtain ⟨u, w, rfl, e1, e2⟩ := map_cons_inv hw
    obtain ⟨v, w, rfl, e3, e4⟩ := map_cons_inv e2
    rw [List.map_eq_nil_iff] at e4
    subst e4
    exact ⟨[], rfl, .none (absT_sign e1) (absT_sign e3)⟩
  · obtain ⟨a, h1, h2, h3⟩ := items_shown xs hn h
    refine ⟨a ++ [(3, [41], 0)], fun r ts hl => ?_, fun D d w rest hw hd hD => ?_⟩
    · have := Lx.s1 (c := 40) (by decide) (h2 _ _ (fo_of (c := 41) (by decide)) (Lx.s1 (c := 41) (by decide) hl))
      simpa [List.append_assoc] using this
    · obtain ⟨u, w, rfl, e1, e2⟩ := map_cons_inv hw
      obtain ⟨w, v, rfl, e3, e4⟩ := lex_end e2
      have hv := absT_sign e4
      obtain ⟨xs', e, hx⟩ := h3 D d w v rest e3 hv hd hD
      refine ⟨xs', e, ?_⟩
      have := DE.args (absT_sign e1) (by have := h1.not (rest := v :: rest) e3; exact this) hx
      simpa [List.append_assoc] using this
theorem GE.shown {x : Nd} (h : GE x) : SE x := by
  induction h with
  | @num a u hu =>
    have e0 : tx ⟨14, a, [], u, []⟩ = Lib.decDigits u := by rw [tx_mk]; rfl
    refine ⟨?_, [(2, Lib.decDigits u, (u : Int))], ⟨2, _, _, [], rfl, dec_ne (fun b l e => by cases e; rfl)⟩, fun r ts hr hl => ?_, fun D d w rest hw _ _ hd hD => ?_⟩
    · rw [e0]
      obtain ⟨_, h2, h3⟩ := dec_ok u
      cases hd : Lib.decDigits u with
      | nil => exact absurd hd h3
      | cons b l => exact ⟨b, l, rfl, .inr (lod_dig (h2 b (by rw [hd]; exact List.mem_cons_self)))⟩
    · rw [e0]
      exact Lx.num hu hr.nw hl
    · obtain ⟨t, w, rfl, e1, e2⟩ := map_cons_inv hw
      rw [List.map_eq_nil_iff] at e2
      subst e2
      obtain ⟨k1, k2⟩ := absT_num e1
      rw [sz_mk, szL_nil] at hD
      exact ⟨_, by rw [erN_mk, erN_mk, k2], .num (by omega) k1⟩
  | @ref a t ht hw =>
    have e0 : tx ⟨15, a, t, 0, []⟩ = t := by rw [tx_mk]; rfl
    refine ⟨by rw [e0]; exact ht.fst, [(1, t, 0)], ⟨1, _, _, [], rfl, ht.ne (fun b l e => by cases e; rfl)⟩, fun r ts hr hl => ?_, fun D d w rest hw' h1 h2 hd hD => ?_⟩
    · rw [e0]
      exact Lx.name ht hr.nw hl
    · obtain ⟨v, w, rfl, e1, e2⟩ := map_cons_inv hw'
      rw [List.map_eq_nil_iff] at e2
      subst e2
      obtain ⟨k1, k2⟩ := absT_name e1 hw
      rw [sz_mk, szL_nil] at hD
      exact ⟨_, by rw [erN_mk, erN_mk, k2], .ref (by omega) k1 h1 h2⟩
  | @idx a t x ht hw _ ih =>
    obtain ⟨_, a1, h1, h2, h3⟩ := ih
    have e0 : tx ⟨16, a, t, 0, [x]⟩ = t ++ (91 :: (tx x ++ [93])) := by rw [tx_mk]; rfl
    refine ⟨by rw [e0]; exact fst_app ht.fst, (1, t, 0) :: (3, [91], 0) :: (a1 ++ [(3, [93], 0)]), ⟨1, _, _, _, rfl, ht.ne (fun b l e => by cases e; rfl)⟩, fun r ts hr hl => ?_, fun D d w rest hw' g1 g2 hd hD => ?_⟩
    · rw [e0]
      have := Lx.name ht (fun c r' e => by cases e; decide) (Lx.s1 (c := 91) (by decide) (h2 _ _ (fo_of (c := 93) (by decide)) (Lx.s1 (c := 93) (by decide) hl)))
      simpa [List.append_assoc] using this
    · obtain ⟨v, w, rfl, e1, e2⟩ := map_cons_inv hw'
      obtain ⟨u, w, rfl, e3, e4⟩ := map_cons_inv e2
      obtain ⟨w, z, rfl, e5, e6⟩ := lex_end e4
      obtain ⟨k1, k2⟩ := absT_name e1 hw
      have hz := absT_sign e6
      rw [sz_mk, szL_1] at hD
      obtain ⟨x', e, hx⟩ := h3 D (d + 1) w (z :: rest) e5 (nhd hz (by decide)) (nhd hz (by decide)) (by omega) (by omega)
      refine ⟨_, ?_, by
        have p0 := sz_pos x
        have := DE.index (D := D) (d := d) (by omega) k1 (absT_sign e3) (hx.lift0 (noSign_of hz (by decide))) hz
        simpa [List.append_assoc] using this⟩
      rw [erN_mk, erN_mk, k2, List.map_singleton, List.map_singleton, e]
  | @call a t xs ht hw _ ih =>
    obtain ⟨a1, h2, h3⟩ := args_shown ih
    have e0 : tx ⟨17, a, t, 0, xs⟩ = t ++ (40 :: (comma (xs.map tx) ++ [41])) := by rw [tx_mk]; rfl
    refine ⟨by rw [e0]; exact fst_app ht.fst, (1, t, 0) :: (3, [40], 0) :: a1, ⟨1, _, _, _, rfl, ht.ne (fun b l e => by cases e; rfl)⟩, fun r ts hr hl => ?_, fun D d w rest hw' g1 g2 hd hD => ?_⟩
    · rw [e0]
      have := Lx.name ht (fun c r' e => by cases e; decide) (h2 _ _ hl)
      simpa [List.append_assoc] using this
    · obtain ⟨v, w, rfl, e1, e2⟩ := map_cons_inv hw'
      obtain ⟨k1, k2⟩ := absT_name e1 hw
      rw [sz_mk] at hD
      obtain ⟨xs', e, hx⟩ := h3 D d w rest e2 hd (by omega)
      have := szL_ge xs
      refine ⟨_, ?_, .call (by omega) k1 hx⟩
      rw [erN_mk, erN_mk, k2, e]
  | @un a s x hs _ ih =>
    obtain ⟨⟨c, r0, hc, hc2⟩, a1, h1, h2, h3⟩ := ih
    have e0 : tx ⟨18, a, s, 0, [x]⟩ = 40 :: (s ++ (tx x ++ [41])) := by rw [tx_mk]; rfl
    refine ⟨by rw [e0]; exact ⟨40, _, rfl, .inl rfl⟩, (3, [40], 0) :: (3, s, 0) :: (a1 ++ [(3, [41], 0)]), ⟨3, _, _, _, rfl, by decide⟩, fun r ts hr hl => ?_, fun D d w rest hw' g1 g2 hd hD => ?_⟩
    · rw [e0]
      have h4 := h2 _ _ (fo_of (c := 41) (by decide)) (Lx.s1 (c := 41) (by decide) hl)
      rcases hs with rfl | rfl
      · have := Lx.s1 (c := 40) (by decide) (Lx.s1 (c := 126) (by decide) h4)
        simpa [List.append_assoc] using this
      · rw [hc] at h4 ⊢
        have := Lx.s1 (c := 40) (by decide) (Lx.minus hc2 h4)
        simpa [List.append_assoc] using this
    · obtain ⟨v, w, rfl, e1, e2⟩ := map_cons_inv hw'
      obtain ⟨u, w, rfl, e3, e4⟩ := map_cons_inv e2
      obtain ⟨w, z, rfl, e5, e6⟩ := lex_end e4
      have hz := absT_sign e6
      rw [sz_mk, szL_1] at hD
      obtain ⟨x', e, hx⟩ := h3 D (d + 1 + 1) w (z :: rest) e5 (nhd hz (by decide)) (nhd hz (by decide)) (by omega) (by omega)
      have p0 := sz_pos x
      refine ⟨_, ?_, by
        have := DE.paren (D := D) (d := d) (by omega) (absT_sign e1) ((DE.un (D := D) (d := d + 1) (by omega) hs (absT_sign e3) hx).lift0 (noSign_of hz (by decide))) hz
        simpa [List.append_assoc] using this⟩
      rw [erN_mk, erN_mk, List.map_singleton, List.map_singleton, e]
  | @bin a s x y l hl hsl hs0 _ _ ih1 ih2 =>
    obtain ⟨_, a1, h1, h2, h3⟩ := ih1
    obtain ⟨_, a2, i1, i2, i3⟩ := ih2
    obtain ⟨j1, j2, j3, j4⟩ := lev_signs l hl s hsl hs0
    have e0 : tx ⟨19, a, s, 0, [x, y]⟩ = 40 :: (tx x ++ (32 :: (s ++ (32 :: (tx y ++ [41]))))) := by rw [tx_mk]; rfl
    refine ⟨by rw [e0]; exact ⟨40, _, rfl, .inl rfl⟩, (3, [40], 0) :: (a1 ++ (3, s, 0) :: (a2 ++ [(3, [41], 0)])), ⟨3, _, _, _, rfl, by decide⟩, fun r ts hr hlx => ?_, fun D d w rest hw' g1 g2 hd hD => ?_⟩
    · rw [e0]
      have := Lx.s1 (c := 40) (by decide) (h2 _ _ (fo_of (c := 32) (by decide)) (Lx.sp (Lx.sb j1 (i2 _ _ (fo_of (c := 41) (by decide)) (Lx.s1 (c := 41) (by decide) hlx)))))
      simpa [List.append_assoc] using this
    · obtain ⟨v, w, rfl, e1, e2⟩ := map_cons_inv hw'
      obtain ⟨w1, w, rfl, e3, e4⟩ := map_app_inv e2
      obtain ⟨u, w, rfl, e5, e6⟩ := map_cons_inv e4
      obtain ⟨w, z, rfl, e7, e8⟩ := lex_end e6
      have hz := absT_sign e8
      have hu := absT_sign e5
      rw [sz_mk, szL_2] at hD
      have p1 := sz_pos x
      have p2 := sz_pos y
      obtain ⟨x', ex, hx⟩ := h3 D (d + 1) w1 (u :: (w ++ z :: rest)) e3 (nhd hu j3) (nhd hu j4) (by omega) (by omega)
      obtain ⟨y', ey, hy⟩ := i3 D (d + 1) w (z :: rest) e7 (nhd hz (by decide)) (nhd hz (by decide)) (by omega) (by omega)
      have hx1 : DE D (.lev (l + 1)) (d + 1) (w1 ++ u :: (w ++ z :: rest)) [x'] (u :: (w ++ z :: rest)) :=
        DE.dn (7 - (l + 1)) (l + 1) (by rw [show l + 1 + (7 - (l + 1)) = 7 by omega]; exact .last hx) (by omega) fun j q1 q2 s' q3 q4 q5 => by
          have := (hdT_head q5).1.symm.trans hu.1
          rw [this] at q3
          exact j2 j q2 (by omega) q3
      have hns : noSign (z :: rest) := noSign_of hz (by decide)
      have hy1 : DE D (.lev (l + 1)) (d + 1) (w ++ z :: rest) [y'] (z :: rest) :=
        DE.dn (7 - (l + 1)) (l + 1) (by rw [show l + 1 + (7 - (l + 1)) = 7 by omega]; exact .last hy) (by omega) fun j q1 q2 => hns j q2
      have ht : DE D (.tail l x') (d + 1) (u :: (w ++ z :: rest)) [⟨19, u.At_, s, 0, [x', y']⟩] (z :: rest) := by
        by_cases h3 : l = 3
        · subst h3
          exact .one hsl hs0 hu hy1
        · exact .more hl h3 hsl hs0 hu hy1 (.stop hl (hns l hl))
      have hl1 := DE.lev hl hx1 ht
      have hl0 := DE.dn l 0 (by rw [Nat.zero_add]; exact hl1) (by omega) fun j _ q2 => hns j q2
      refine ⟨_, ?_, by
        have := DE.paren (d := d) (by omega) (absT_sign e1) hl0 hz
        simpa [List.append_assoc] using this⟩
      rw [erN_mk, erN_mk, List.map_cons, List.map_singleton, List.map_cons, List.map_singleton, ex, ey]
end Go.Proofs.YtolhahlnccekcaaDoor.Abs
namespace Go.Proofs.YtolhahlnccekcaaDoor.Abs
open Go.RowKit
set_option linter.unusedVariables false
set_option linter.unusedSimpArgs false
inductive GS : Bool → Nd → Prop
  | block {a : Int} {xs : List Nd} : (∀ x ∈ xs, GS false x) → GS true ⟨4, a, [], 0, xs⟩
  | bind {a k : Int} {t : Str} {x : Nd} : (k = 5 ∨ k = 6) → nameOk t → isWord t = false → GE x → GS false ⟨k, a, t, 0, [x]⟩
  | arr {a : Int} {t : Str} {u : Nat} : nameOk t → isWord t = false → u ≤ 4294967295 → GS false ⟨7, a, t, u, []⟩
  | ret {a : Int} {x : Nd} : GE x → GS false ⟨13, a, [], 0, [x]⟩
  | choice {a : Int} {c b : Nd} : GE c → GS true b → GS false ⟨11, a, [], 0, [c, b]⟩
  | choice2 {a : Int} {c b b' : Nd} : GE c → GS true b → GS true b' → GS false ⟨11, a, [], 0, [c, b, b']⟩
  | loop {a : Int} {t : Str} {x y b : Nd} : nameOk t → isWord t = false → GE x → GE y → GS true b → GS false ⟨12, a, t, 0, [x, y, b]⟩
  | call {a : Int} {t : Str} {xs : List Nd} : nameOk t → isWord t = false → (∀ x ∈ xs, GE x) → GS false ⟨10, a, t, 0, xs⟩
  | put {a : Int} {t : Str} {i x : Nd} : nameOk t → isWord t = false → GE i → GE x → GS false ⟨9, a, t, 0, [i, x]⟩
  | set {a : Int} {t : Str} {x : Nd} : nameOk t → isWord t = false → GE x → GS false ⟨8, a, t, 0, [x]⟩
def kb : SK → Bool
  | .block => true
  | _ => false
theorem kts_n {t : Tok} (h : kt t) (hn : isN t) : nameOk t.Text_ := h.1 hn.1
theorem DS.good {D : Int} {K d ts xs us} (h : DS D K d ts xs us) : kts ts → (∀ x ∈ xs, GS (kb K) x) ∧ kts us := by
  induction h with
  | block _ _ _ _ ih =>
    intro hk
    obtain ⟨h1, h2⟩ := ih (kts_cons.1 hk).2
    exact ⟨ofOne (.block h1), (kts_cons.1 h2).2⟩
  | nil _ => exact fun hk => ⟨(fun x hx => by cases hx), hk⟩
  | cons _ _ _ ih1 ih2 =>
    intro hk
    obtain ⟨h1, h2⟩ := ih1 hk
    obtain ⟨h3, h4⟩ := ih2 h2
    exact ⟨List.forall_mem_cons.2 ⟨allOne h1, h3⟩, h4⟩
  | bind hks _ hu _ he _ =>
    intro hk
    have k1 := (kts_cons.1 hk).2
    obtain ⟨h1, h2⟩ := he.good0 (kts_cons.1 (kts_cons.1 k1).2).2
    refine ⟨ofOne (.bind ?_ (kts_n (kts_cons.1 k1).1 hu) hu.2 h1), (kts_cons.1 h2).2⟩
    rcases hks with ⟨h, _⟩ | ⟨h, _⟩
    · exact .inl h
    · exact .inr h
  | arr _ hu _ hw _ _ =>
    intro hk
    have k1 := (kts_cons.1 hk).2
    have k2 := (kts_cons.1 (kts_cons.1 k1).2).2
    obtain ⟨u, h1, e⟩ := (kts_cons.1 k2).1.2 hw
    rw [e]
    exact ⟨ofOne (.arr (kts_n (kts_cons.1 k1).1 hu) hu.2 h1), (kts_cons.1 (kts_cons.1 (kts_cons.1 k2).2).2).2⟩
  | ret _ he _ =>
    intro hk
    obtain ⟨h1, h2⟩ := he.good0 (kts_cons.1 hk).2
    exact ⟨ofOne (.ret h1), (kts_cons.1 h2).2⟩
  | choice _ he _ _ ih =>
    intro hk
    obtain ⟨h1, h2⟩ := he.good0 (kts_cons.1 hk).2
    obtain ⟨h3, h4⟩ := ih h2
    exact ⟨ofOne (.choice h1 (allOne h3)), h4⟩
  | choice2 _ he _ _ _ ih1 ih2 =>
    intro hk
    obtain ⟨h1, h2⟩ := he.good0 (kts_cons.1 hk).2
    obtain ⟨h3, h4⟩ := ih1 h2
    obtain ⟨h5, h6⟩ := ih2 (kts_cons.1 h4).2
    exact ⟨ofOne (.choice2 h1 (allOne h3) (allOne h5)), h6⟩
  | loop _ hu _ he _ he2 _ ih =>
    intro hk
    have k1 := (kts_cons.1 hk).2
    obtain ⟨h1, h2⟩ := he.good0 (kts_cons.1 (kts_cons.1 k1).2).2
    obtain ⟨h3, h4⟩ := he2.good0 (kts_cons.1 h2).2
    obtain ⟨h5, h6⟩ := ih h4
    exact ⟨ofOne (.loop (kts_n (kts_cons.1 k1).1 hu) hu.2 h1 h3 (allOne h5)), h6⟩
  | call hu he _ =>
    intro hk
    obtain ⟨h1, h2⟩ := he.good (kts_cons.1 hk).2 (fun _ _ e => by cases e)
    exact ⟨ofOne (.call (kts_n (kts_cons.1 hk).1 hu) hu.2 h1), (kts_cons.1 h2).2⟩
  | put hu _ he _ _ he2 _ =>
    intro hk
    obtain ⟨h1, h2⟩ := he.good0 (kts_cons.1 (kts_cons.1 hk).2).2
    obtain ⟨h3, h4⟩ := he2.good0 (kts_cons.1 (kts_cons.1 h2).2).2
    exact ⟨ofOne (.put (kts_n (kts_cons.1 hk).1 hu) hu.2 h1 h3), (kts_cons.1 h4).2⟩
  | set hu _ he _ =>
    intro hk
    obtain ⟨h1, h2⟩ := he.good0 (kts_cons.1 (kts_cons.1 hk).2).2
    exact ⟨ofOne (.set (kts_n (kts_cons.1 hk).1 hu) hu.2 h1), (kts_cons.1 h2).2⟩
/-! shown -/
abbrev wElse : Str := [101, 108, 115, 101]
def skb : Bool → SK
  | true => .block
  | false => .stmt
def SS (b : Bool) (x : Nd) : Prop := ∃ ats, hx ats [125] ∧ hx ats wElse ∧ (b = true → ∃ l, ats = (3, [123], 0) :: l) ∧ (∀ r ts, Lx r ts → Lx (tx x ++ r) (ats ++ ts)) ∧
  ∀ (D d : Int) (w rest : List Tok), w.map absT = ats → (b = false → ¬ hdT rest wElse) → 0 ≤ d → d + 2 * sz x + 2 ≤ D → ∃ x', erN x' = erN x ∧ DS D (skb b) d (w ++ rest) [x'] rest
theorem nw_of {c : UInt8} {r : Str} (h : lod c = false) : nw (c :: r) := fun c' r' e => by cases e; exact h
theorem nameOk.nword {t s : Str} (h : isWord t = false) (hs : isWord s = true) : t ≠ s := fun e => by rw [e, hs] at h; cases h
theorem stmts_shown : ∀ (xs : List Nd), (∀ x ∈ xs, SS false x) → ∃ ats, (∀ r ts, Lx r ts → Lx (sev (xs.map tx) ++ r) (ats ++ ts)) ∧ (∀ w rest, w.map absT = ats → hdT rest [125] → ¬ hdT (w ++ rest) wElse) ∧
    ∀ (D d : Int) (w rest : List Tok), w.map absT = ats → hdT rest [125] → 0 ≤ d → d + 2 * szL xs + 2 ≤ D → ∃ xs', xs'.map erN = xs.map erN ∧ DS D .stmts d (w ++ rest) xs' rest := by
  intro xs
  induction xs with
  | nil =>
    intro _
    refine ⟨[], fun r ts hl => hl, fun w rest hw hr => ?_, fun D d w rest hw hr _ _ => ?_⟩
    · rw [List.map_eq_nil_iff] at hw
      subst hw
      obtain ⟨t, l, rfl, ht⟩ := hr
      exact nhd ht (by decide)
    · rw [List.map_eq_nil_iff] at hw
      subst hw
      exact ⟨[], rfl, .nil hr⟩
  | cons x xs ih =>
    intro h
    obtain ⟨⟨a1, h1, h1', _, h2, h3⟩, hs⟩ := List.forall_mem_cons.1 h
    obtain ⟨a2, k1, k2, k3⟩ := ih hs
    refine ⟨a1 ++ a2, fun r ts hl => ?_, fun w rest hw hr => ?_, fun D d w rest hw hr hd hD => ?_⟩
    · show Lx ((tx x ++ (10 :: sev (xs.map tx))) ++ r) _
      have := h2 _ _ (Lx.nl (k1 r ts hl))
      simpa [List.append_assoc] using this
    · obtain ⟨w1, w2, rfl, e1, e2⟩ := map_app_inv hw
      rw [List.append_assoc]
      exact h1'.not e1
    · obtain ⟨w1, w2, rfl, e1, e2⟩ := map_app_inv hw
      have p1 := sz_pos x
      have p2 := szL_ge xs
      rw [szL_cons] at hD
      obtain ⟨x', e, hx⟩ := h3 D d w1 (w2 ++ rest) e1 (fun _ => k2 _ _ e2 hr) hd (by omega)
      obtain ⟨xs', e', hxs⟩ := k3 D d w2 rest e2 hr hd (by omega)
      refine ⟨x' :: xs', by rw [List.map_cons, List.map_cons, e, e'], ?_⟩
      rw [List.append_assoc]
      exact .cons (h1.not e1) hx hxs
theorem SE.lx {x : Nd} {a1 : List AT} (h2 : ∀ r ts, fo r → Lx r ts → Lx (tx x ++ r) (a1 ++ ts)) {c : UInt8} {r : Str} {ts : List AT} (hc : c ∈ ([41, 93, 44, 59, 32, 10] : Str)) (hl : Lx (c :: r) ts) : Lx (tx x ++ c :: r) (a1 ++ ts) := h2 _ _ (fo_of hc) hl
theorem okW {t : Str} (h : isWord t = true) : nameOk t := by
  unfold isWord g_parse_words at h
  simp only [List.any_cons, List.any_nil, Bool.or_false, Bool.or_eq_true, decide_eq_true_eq] at h
  rcases h with rfl | rfl | rfl | rfl | rfl | rfl | rfl | rfl | rfl | rfl | rfl | rfl | rfl <;> exact ⟨⟨_, _, rfl, by decide⟩, by decide, by decide⟩
theorem GS.shown {b : Bool} {x : Nd} (h : GS b x) : SS b x := by
  induction h with
  | @block a xs _ ih =>
    obtain ⟨a1, h2, _, h3⟩ := stmts_shown xs ih
    have e0 : tx ⟨4, a, [], 0, xs⟩ = 123 :: 10 :: (sev (xs.map tx) ++ [125]) := by rw [tx_mk]; rfl
    refine ⟨(3, [123], 0) :: (a1 ++ [(3, [125], 0)]), ⟨3, _, _, _, rfl, by decide⟩, ⟨3, _, _, _, rfl, by decide⟩, fun _ => ⟨_, rfl⟩, fun r ts hl => ?_, fun D d w rest hw _ hd hD => ?_⟩
    · rw [e0]
      have := Lx.s1 (c := 123) (by decide) (Lx.nl (h2 _ _ (Lx.s1 (c := 125) (by decide) hl)))
      simpa [List.append_assoc] using this
    · obtain ⟨v, w, rfl, e1, e2⟩ := map_cons_inv hw
      obtain ⟨w, z, rfl, e3, e4⟩ := lex_end e2
      have hz := absT_sign e4
      rw [sz_mk] at hD
      have p1 := szL_ge xs
      obtain ⟨xs', e, hx⟩ := h3 D d w (z :: rest) e3 ⟨_, _, rfl, hz⟩ hd (by omega)
      refine ⟨_, ?_, by
        have := DS.block (D := D) (d := d) (by omega) (absT_sign e1) hx hz
        simpa [List.append_assoc, skb] using this⟩
      rw [erN_mk, erN_mk, e]
  | @bind a k t x hk ht hw hx =>
    obtain ⟨_, a1, h1, h2, h3⟩ := hx.shown
    obtain ⟨s, hs, hsw, hsk, hse⟩ : ∃ s : Str, tx ⟨k, a, t, 0, [x]⟩ = s ++ (32 :: (t ++ (32 :: 61 :: 32 :: (tx x ++ [59])))) ∧ isWord s = true ∧ (k = 5 ∧ s = [108, 101, 116] ∨ k = 6 ∧ s = [118, 97, 114]) ∧ s ≠ wElse := by
      rcases hk with rfl | rfl
      · exact ⟨_, by rw [tx_mk]; rfl, by decide, .inl ⟨rfl, rfl⟩, by decide⟩
      · exact ⟨_, by rw [tx_mk]; rfl, by decide, .inr ⟨rfl, rfl⟩, by decide⟩
    refine ⟨(1, s, 0) :: (1, t, 0) :: (3, [61], 0) :: (a1 ++ [(3, [59], 0)]), ⟨1, _, _, _, rfl, (okW hsw).ne (fun b l e => by cases e; rfl)⟩, ⟨1, _, _, _, rfl, hse⟩, (fun h => by cases h), fun r ts hl => ?_, fun D d w rest hw' _ hd hD => ?_⟩
    · rw [hs]
      have := Lx.name (okW hsw) (nw_of (by decide)) (Lx.sp (Lx.name ht (nw_of (by decide)) (Lx.sp (Lx.sb (t := [61]) (by decide) (SE.lx h2 (c := 59) (by decide) (Lx.s1 (c := 59) (by decide) hl))))))
      simpa [List.append_assoc] using this
    · obtain ⟨v, w, rfl, e1, e2⟩ := map_cons_inv hw'
      obtain ⟨u, w, rfl, e3, e4⟩ := map_cons_inv e2
      obtain ⟨q, w, rfl, e5, e6⟩ := map_cons_inv e4
      obtain ⟨w, z, rfl, e7, e8⟩ := lex_end e6
      have hz := absT_sign e8
      obtain ⟨k1, k2⟩ := absT_name e3 hw
      rw [sz_mk, szL_1] at hD
      obtain ⟨x', e, hx⟩ := h3 D (d + 1) w (z :: rest) e7 (nhd hz (by decide)) (nhd hz (by decide)) (by omega) (by omega)
      refine ⟨_, ?_, by
        have := DS.bind (D := D) (d := d) hsk (absT_word e1 hsw) k1 (absT_sign e5) (hx.lift0 (noSign_of hz (by decide))) hz
        simpa [List.append_assoc, skb] using this⟩
      rw [erN_mk, erN_mk, k2, List.map_singleton, List.map_singleton, e]
  | @arr a t u ht hw hu =>
    have e0 : tx ⟨7, a, t, u, []⟩ = [97, 114, 114, 32] ++ (t ++ (91 :: (Lib.decDigits u ++ [93, 59]))) := by rw [tx_mk]; rfl
    refine ⟨[(1, [97, 114, 114], 0), (1, t, 0), (3, [91], 0), (2, Lib.decDigits u, (u : Int)), (3, [93], 0), (3, [59], 0)], ⟨1, _, _, _, rfl, by decide⟩, ⟨1, _, _, _, rfl, by decide⟩, (fun h => by cases h), fun r ts hl => ?_, fun D d w rest hw' _ hd hD => ?_⟩
    · rw [e0]
      have := Lx.name (t := [97, 114, 114]) (okW (by decide)) (nw_of (by decide)) (Lx.sp (Lx.name ht (nw_of (by decide)) (Lx.s1 (c := 91) (by decide) (Lx.num hu (nw_of (by decide)) (Lx.s1 (c := 93) (by decide) (Lx.s1 (c := 59) (by decide) hl))))))
      simpa [List.append_assoc] using this
    · obtain ⟨v, w, rfl, e1, e2⟩ := map_cons_inv hw'
      obtain ⟨u1, w, rfl, e3, e4⟩ := map_cons_inv e2
      obtain ⟨q, w, rfl, e5, e6⟩ := map_cons_inv e4
      obtain ⟨q2, w, rfl, e7, e8⟩ := map_cons_inv e6
      obtain ⟨q3, w, rfl, e9, e10⟩ := map_cons_inv e8
      obtain ⟨q4, w, rfl, e11, e12⟩ := map_cons_inv e10
      rw [List.map_eq_nil_iff] at e12
      subst e12
      obtain ⟨k1, k2⟩ := absT_name e3 hw
      obtain ⟨k3, k4⟩ := absT_num e7
      refine ⟨_, ?_, DS.arr (absT_word e1 (by decide)) k1 (absT_sign e5) k3 (absT_sign e9) (absT_sign e11)⟩
      rw [erN_mk, erN_mk, k2, k4]
  | @ret a x hx =>
    obtain ⟨_, a1, h1, h2, h3⟩ := hx.shown
    have e0 : tx ⟨13, a, [], 0, [x]⟩ = [114, 101, 116, 117, 114, 110, 32] ++ (tx x ++ [59]) := by rw [tx_mk]; rfl
    refine ⟨(1, [114, 101, 116, 117, 114, 110], 0) :: (a1 ++ [(3, [59], 0)]), ⟨1, _, _, _, rfl, by decide⟩, ⟨1, _, _, _, rfl, by decide⟩, (fun h => by cases h), fun r ts hl => ?_, fun D d w rest hw' _ hd hD => ?_⟩
    · rw [e0]
      have := Lx.name (t := [114, 101, 116, 117, 114, 110]) (okW (by decide)) (nw_of (by decide)) (Lx.sp (SE.lx h2 (c := 59) (by decide) (Lx.s1 (c := 59) (by decide) hl)))
      simpa [List.append_assoc] using this
    · obtain ⟨v, w, rfl, e1, e2⟩ := map_cons_inv hw'
      obtain ⟨w, z, rfl, e7, e8⟩ := lex_end e2
      have hz := absT_sign e8
      rw [sz_mk, szL_1] at hD
      obtain ⟨x', e, hx⟩ := h3 D (d + 1) w (z :: rest) e7 (nhd hz (by decide)) (nhd hz (by decide)) (by omega) (by omega)
      refine ⟨_, ?_, by
        have := DS.ret (D := D) (d := d) (absT_word e1 (by decide)) (hx.lift0 (noSign_of hz (by decide))) hz
        simpa [List.append_assoc, skb] using this⟩
      rw [erN_mk, erN_mk, List.map_singleton, List.map_singleton, e]
  | @choice a c b hc _ ih =>
    obtain ⟨_, a1, h1, h2, h3⟩ := hc.shown
    obtain ⟨a2, _, _, i1, i2, i3⟩ := ih
    obtain ⟨l2, rfl⟩ := i1 rfl
    have e0 : tx ⟨11, a, [], 0, [c, b]⟩ = [105, 102, 32] ++ (tx c ++ (32 :: (tx b ++ []))) := by rw [tx_mk]; rfl
    refine ⟨(1, [105, 102], 0) :: (a1 ++ (3, [123], 0) :: l2), ⟨1, _, _, _, rfl, by decide⟩, ⟨1, _, _, _, rfl, by decide⟩, (fun h => by cases h), fun r ts hl => ?_, fun D d w rest hw' hr hd hD => ?_⟩
    · rw [e0]
      have := Lx.name (t := [105, 102]) (okW (by decide)) (nw_of (by decide)) (Lx.sp (SE.lx h2 (c := 32) (by decide) (Lx.sp (i2 _ _ hl))))
      simpa [List.append_assoc] using this
    · obtain ⟨v, w, rfl, e1, e2⟩ := map_cons_inv hw'
      obtain ⟨w1, w2, rfl, e3, e4⟩ := map_app_inv e2
      have e4' := e4
      obtain ⟨z, w3, rfl, e5, e6⟩ := map_cons_inv e4
      have hz := absT_sign e5
      rw [sz_mk, szL_2] at hD
      have p1 := sz_pos c
      have p2 := sz_pos b
      obtain ⟨x', e, hx⟩ := h3 D (d + 1) w1 (z :: (w3 ++ rest)) e3 (nhd hz (by decide)) (nhd hz (by decide)) (by omega) (by omega)
      obtain ⟨b', e', hb⟩ := i3 D (d + 1) (z :: w3) rest e4' (fun h => by cases h) (by omega) (by omega)
      refine ⟨_, ?_, by
        have := DS.choice (D := D) (d := d) (absT_word e1 (by decide)) (hx.lift0 (noSign_of hz (by decide))) hb (hr rfl)
        simpa [List.append_assoc, skb] using this⟩
      rw [erN_mk, erN_mk, List.map_cons, List.map_singleton, List.map_cons, List.map_singleton, e, e']
  | @choice2 a c b b' hc _ _ ih ih' =>
    obtain ⟨_, a1, h1, h2, h3⟩ := hc.shown
    obtain ⟨a2, _, _, i1, i2, i3⟩ := ih
    obtain ⟨l2, rfl⟩ := i1 rfl
    obtain ⟨a3, _, _, _, j2, j3⟩ := ih'
    have e0 : tx ⟨11, a, [], 0, [c, b, b']⟩ = [105, 102, 32] ++ (tx c ++ (32 :: (tx b ++ ([32, 101, 108, 115, 101, 32] ++ tx b')))) := by rw [tx_mk]; rfl
    refine ⟨(1, [105, 102], 0) :: (a1 ++ (((3, [123], 0) :: l2) ++ (1, wElse, 0) :: a3)), ⟨1, _, _, _, rfl, by decide⟩, ⟨1, _, _, _, rfl, by decide⟩, (fun h => by cases h), fun r ts hl => ?_, fun D d w rest hw' hr hd hD => ?_⟩
    · rw [e0]
      have := Lx.name (t := [105, 102]) (okW (by decide)) (nw_of (by decide)) (Lx.sp (SE.lx h2 (c := 32) (by decide) (Lx.sp (i2 _ _ (Lx.sp (Lx.name (t := wElse) (okW (by decide)) (nw_of (by decide)) (Lx.sp (j2 _ _ hl))))))))
      simpa [List.append_assoc] using this
    · obtain ⟨v, w, rfl, e1, e2⟩ := map_cons_inv hw'
      obtain ⟨w1, w2, rfl, e3, e4⟩ := map_app_inv e2
      obtain ⟨w3, w4, rfl, e5, e6⟩ := map_app_inv e4
      obtain ⟨q, w5, rfl, e7, e8⟩ := map_cons_inv e6
      have e5' := e5
      obtain ⟨z, w3, rfl, e9, e10⟩ := map_cons_inv e5
      have hz := absT_sign e9
      rw [sz_mk, szL_3] at hD
      have p1 := sz_pos c
      have p2 := sz_pos b
      have p3 := sz_pos b'
      obtain ⟨x', e, hx⟩ := h3 D (d + 1) w1 (z :: (w3 ++ q :: (w5 ++ rest))) e3 (nhd hz (by decide)) (nhd hz (by decide)) (by omega) (by omega)
      obtain ⟨y, e', hb⟩ := i3 D (d + 1) (z :: w3) (q :: (w5 ++ rest)) e5' (fun h => by cases h) (by omega) (by omega)
      obtain ⟨y', e'', hb'⟩ := j3 D (d + 1) w5 rest e8 (fun h => by cases h) (by omega) (by omega)
      refine ⟨_, ?_, by
        have := DS.choice2 (D := D) (d := d) (absT_word e1 (by decide)) (hx.lift0 (noSign_of hz (by decide))) hb (absT_word e7 (by decide)) hb'
        simpa [List.append_assoc, skb] using this⟩
      rw [erN_mk, erN_mk, List.map_cons, List.map_cons, List.map_singleton, List.map_cons, List.map_cons, List.map_singleton, e, e', e'']
  | @loop a t x y b ht hw hx hy _ ih =>
    obtain ⟨_, a1, _, h2, h3⟩ := hx.shown
    obtain ⟨_, a2, _, g2, g3⟩ := hy.shown
    obtain ⟨a3, _, _, i1, i2, i3⟩ := ih
    obtain ⟨l3, rfl⟩ := i1 rfl
    have e0 : tx ⟨12, a, t, 0, [x, y, b]⟩ = [102, 111, 114, 32] ++ (t ++ ([32, 105, 110, 32] ++ (tx x ++ ([32, 46, 46, 32] ++ (tx y ++ (32 :: tx b)))))) := by rw [tx_mk]; rfl
    refine ⟨(1, [102, 111, 114], 0) :: (1, t, 0) :: (1, [105, 110], 0) :: (a1 ++ (3, [46, 46], 0) :: (a2 ++ (3, [123], 0) :: l3)), ⟨1, _, _, _, rfl, by decide⟩, ⟨1, _, _, _, rfl, by decide⟩, (fun h => by cases h), fun r ts hl => ?_, fun D d w rest hw' hr hd hD => ?_⟩
    · rw [e0]
      have := Lx.name (t := [102, 111, 114]) (okW (by decide)) (nw_of (by decide)) (Lx.sp (Lx.name ht (nw_of (by decide)) (Lx.sp (Lx.name (t := [105, 110]) (okW (by decide)) (nw_of (by decide)) (Lx.sp (SE.lx h2 (c := 32) (by decide) (Lx.sp (Lx.sb (t := [46, 46]) (by decide) (SE.lx g2 (c := 32) (by decide) (Lx.sp (i2 _ _ hl)))))))))))
      simpa [List.append_assoc] using this
    · obtain ⟨v, w, rfl, e1, e2⟩ := map_cons_inv hw'
      obtain ⟨u, w, rfl, e3, e4⟩ := map_cons_inv e2
      obtain ⟨q, w, rfl, e5, e6⟩ := map_cons_inv e4
      obtain ⟨w1, w2, rfl, e7, e8⟩ := map_app_inv e6
      obtain ⟨z, w2, rfl, e9, e10⟩ := map_cons_inv e8
      obtain ⟨w3, w4, rfl, e11, e12⟩ := map_app_inv e10
      have e12' := e12
      obtain ⟨z2, w4, rfl, e13, e14⟩ := map_cons_inv e12
      have hz := absT_sign e9
      have hz2 := absT_sign e13
      obtain ⟨k1, k2⟩ := absT_name e3 hw
      rw [sz_mk, szL_3] at hD
      have p1 := sz_pos x
      have p2 := sz_pos y
      have p3 := sz_pos b
      obtain ⟨x', e, hx⟩ := h3 D (d + 1) w1 (z :: (w3 ++ z2 :: (w4 ++ rest))) e7 (nhd hz (by decide)) (nhd hz (by decide)) (by omega) (by omega)
      obtain ⟨y', e', hy⟩ := g3 D (d + 1) w3 (z2 :: (w4 ++ rest)) e11 (nhd hz2 (by decide)) (nhd hz2 (by decide)) (by omega) (by omega)
      obtain ⟨b', e'', hb⟩ := i3 D (d + 1) (z2 :: w4) rest e12' (fun h => by cases h) (by omega) (by omega)
      refine ⟨_, ?_, by
        have := DS.loop (D := D) (d := d) (absT_word e1 (by decide)) k1 (absT_word e5 (by decide)) (hx.lift0 (noSign_of hz (by decide))) hz (hy.lift0 (noSign_of hz2 (by decide))) hb
        simpa [List.append_assoc, skb] using this⟩
      rw [erN_mk, erN_mk, k2, List.map_cons, List.map_cons, List.map_singleton, List.map_cons, List.map_cons, List.map_singleton, e, e', e'']
  | @call a t xs ht hw hxs =>
    obtain ⟨a1, h2, h3⟩ := args_shown fun x hx => (hxs x hx).shown
    have e0 : tx ⟨10, a, t, 0, xs⟩ = t ++ (40 :: (comma (xs.map tx) ++ [41, 59])) := by rw [tx_mk]; rfl
    refine ⟨(1, t, 0) :: (3, [40], 0) :: (a1 ++ [(3, [59], 0)]), ⟨1, _, _, _, rfl, ht.ne (fun b l e => by cases e; rfl)⟩, ⟨1, _, _, _, rfl, nameOk.nword hw (by decide)⟩, (fun h => by cases h), fun r ts hl => ?_, fun D d w rest hw' _ hd hD => ?_⟩
    · rw [e0]
      have := Lx.name ht (nw_of (by decide)) (h2 _ _ (Lx.s1 (c := 59) (by decide) hl))
      simpa [List.append_assoc] using this
    · obtain ⟨v, w, rfl, e1, e2⟩ := map_cons_inv hw'
      rw [show ((3, [40], 0) :: (a1 ++ [(3, [59], 0)]) : List AT) = ((3, [40], 0) :: a1) ++ [(3, [59], 0)] from rfl] at e2
      obtain ⟨w, z, rfl, e3, e4⟩ := lex_end e2
      obtain ⟨k1, k2⟩ := absT_name e1 hw
      rw [sz_mk] at hD
      obtain ⟨xs', e, hx⟩ := h3 D (d + 1) w (z :: rest) e3 (by omega) (by omega)
      refine ⟨_, ?_, by
        have := DS.call (D := D) (d := d) k1 hx (absT_sign e4)
        simpa [List.append_assoc, skb] using this⟩
      rw [erN_mk, erN_mk, k2, e]
  | @put a t i x ht hw hi hx =>
    obtain ⟨_, a1, _, h2, h3⟩ := hi.shown
    obtain ⟨_, a2, _, g2, g3⟩ := hx.shown
    have e0 : tx ⟨9, a, t, 0, [i, x]⟩ = t ++ (91 :: (tx i ++ ([93, 32, 61, 32] ++ (tx x ++ [59])))) := by rw [tx_mk]; rfl
    refine ⟨(1, t, 0) :: (3, [91], 0) :: (a1 ++ (3, [93], 0) :: (3, [61], 0) :: (a2 ++ [(3, [59], 0)])), ⟨1, _, _, _, rfl, ht.ne (fun b l e => by cases e; rfl)⟩, ⟨1, _, _, _, rfl, nameOk.nword hw (by decide)⟩, (fun h => by cases h), fun r ts hl => ?_, fun D d w rest hw' _ hd hD => ?_⟩
    · rw [e0]
      have := Lx.name ht (nw_of (by decide)) (Lx.s1 (c := 91) (by decide) (SE.lx h2 (c := 93) (by decide) (Lx.s1 (c := 93) (by decide) (Lx.sp (Lx.sb (t := [61]) (by decide) (SE.lx g2 (c := 59) (by decide) (Lx.s1 (c := 59) (by decide) hl)))))))
      simpa [List.append_assoc] using this
    · obtain ⟨v, w, rfl, e1, e2⟩ := map_cons_inv hw'
      obtain ⟨u, w, rfl, e3, e4⟩ := map_cons_inv e2
      obtain ⟨w1, w2, rfl, e5, e6⟩ := map_app_inv e4
      obtain ⟨q1, w2, rfl, e7, e8⟩ := map_cons_inv e6
      obtain ⟨q2, w2, rfl, e9, e10⟩ := map_cons_inv e8
      obtain ⟨w3, z, rfl, e11, e12⟩ := lex_end e10
      have hq := absT_sign e7
      have hz := absT_sign e12
      obtain ⟨k1, k2⟩ := absT_name e1 hw
      rw [sz_mk, szL_2] at hD
      have p1 := sz_pos i
      have p2 := sz_pos x
      obtain ⟨i', e, hi⟩ := h3 D (d + 2) w1 (q1 :: q2 :: (w3 ++ z :: rest)) e5 (nhd hq (by decide)) (nhd hq (by decide)) (by omega) (by omega)
      obtain ⟨x', e', hx⟩ := g3 D (d + 1) w3 (z :: rest) e11 (nhd hz (by decide)) (nhd hz (by decide)) (by omega) (by omega)
      refine ⟨_, ?_, by
        have := DS.put (D := D) (d := d) k1 (absT_sign e3) (hi.lift0 (noSign_of hq (by decide))) hq (absT_sign e9) (hx.lift0 (noSign_of hz (by decide))) hz
        simpa [List.append_assoc, skb] using this⟩
      rw [erN_mk, erN_mk, k2, List.map_cons, List.map_singleton, List.map_cons, List.map_singleton, e, e']
  | @set a t x ht hw hx =>
    obtain ⟨_, a2, _, g2, g3⟩ := hx.shown
    have e0 : tx ⟨8, a, t, 0, [x]⟩ = t ++ ([32, 61, 32] ++ (tx x ++ [59])) := by rw [tx_mk]; rfl
    refine ⟨(1, t, 0) :: (3, [61], 0) :: (a2 ++ [(3, [59], 0)]), ⟨1, _, _, _, rfl, ht.ne (fun b l e => by cases e; rfl)⟩, ⟨1, _, _, _, rfl, nameOk.nword hw (by decide)⟩, (fun h => by cases h), fun r ts hl => ?_, fun D d w rest hw' _ hd hD => ?_⟩
    · rw [e0]
      have := Lx.name ht (nw_of (by decide)) (Lx.sp (Lx.sb (t := [61]) (by decide) (SE.lx g2 (c := 59) (by decide) (Lx.s1 (c := 59) (by decide) hl))))
      simpa [List.append_assoc] using this
    · obtain ⟨v, w, rfl, e1, e2⟩ := map_cons_inv hw'
      obtain ⟨q2, w2, rfl, e9, e10⟩ := map_cons_inv e2
      obtain ⟨w3, z, rfl, e11, e12⟩ := lex_end e10
      have hz := absT_sign e12
      obtain ⟨k1, k2⟩ := absT_name e1 hw
      rw [sz_mk, szL_1] at hD
      obtain ⟨x', e', hx⟩ := g3 D (d + 1) w3 (z :: rest) e11 (nhd hz (by decide)) (nhd hz (by decide)) (by omega) (by omega)
      refine ⟨_, ?_, by
        have := DS.set (D := D) (d := d) k1 (absT_sign e9) (hx.lift0 (noSign_of hz (by decide))) hz
        simpa [List.append_assoc, skb] using this⟩
      rw [erN_mk, erN_mk, k2, List.map_singleton, List.map_singleton, e']
end Go.Proofs.YtolhahlnccekcaaDoor.Abs
