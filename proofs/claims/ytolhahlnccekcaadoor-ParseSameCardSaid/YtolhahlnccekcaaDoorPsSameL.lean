/-
  ParseSame: the law.
-/
import Derived.Test.YtolhahlnccekcaaDoorPsJoins
import Derived.Test.YtolhahlnccekcaaDoorPsV5
namespace Go.Proofs.YtolhahlnccekcaaDoor.Abs
open Go.RowKit
set_option linter.unusedVariables false
set_option linter.unusedSimpArgs false
def eF (x : T_remontoireref10_N) : T_remontoireref10_N := { x with At_ := 0 }
theorem eqN_iff {x y : T_remontoireref10_N} : eqN { y with At_ := x.At_ } x = true ↔ eF y = eF x := by
  cases x; cases y
  simp only [eqN, eF, Bool.and_eq_true, beq_iff_eq, decide_eq_true_eq, T_remontoireref10_N.mk.injEq, true_and]
theorem flat_er (x : Nd) : (flatN x).map eF = flatN (erN x) := by
  induction x using Nd_ind with
  | h k a t n l ih =>
    rw [erN_mk, flatN_mk, flatN_mk, List.map_cons, List.length_map]
    congr 1
    induction l with
    | nil => rw [flatL_nil]; rfl
    | cons x l ih2 => rw [flatL_cons, List.map_append, ih x List.mem_cons_self, ih2 fun y hy => ih y (List.mem_cons_of_mem _ hy), List.map_cons, flatL_cons]
theorem flat_inj (x : Nd) : ∀ y r r', flatN x ++ r = flatN y ++ r' → x = y ∧ r = r' := by
  induction x using Nd_ind with
  | h k a t n l ih =>
    intro y r r' e
    cases y with
    | mk k' a' t' n' l' =>
    rw [flatN_mk, flatN_mk, List.cons_append, List.cons_append] at e
    injection e with e1 e2
    injection e1 with e3 e4 e5 e6 e7
    have key : ∀ (l l' : List Nd) (r r' : List T_remontoireref10_N), (∀ x ∈ l, ∀ y r r', flatN x ++ r = flatN y ++ r' → x = y ∧ r = r') → l.length = l'.length → flatL l ++ r = flatL l' ++ r' → l = l' ∧ r = r' := by
      intro l
      induction l with
      | nil =>
        intro l' r r' _ hl e
        obtain rfl : l' = [] := List.eq_nil_of_length_eq_zero hl.symm
        exact ⟨rfl, by simpa [flatL_nil] using e⟩
      | cons x l ih2 =>
        intro l' r r' h hl e
        cases l' with
        | nil => cases hl
        | cons y l' =>
          rw [flatL_cons, flatL_cons, List.append_assoc, List.append_assoc] at e
          obtain ⟨e1, e2⟩ := h x List.mem_cons_self y _ _ e
          obtain ⟨e3, e4⟩ := ih2 l' r r' (fun z hz => h z (List.mem_cons_of_mem _ hz)) (by simpa using hl) e2
          exact ⟨by rw [e1, e3], e4⟩
    obtain ⟨h1, h2⟩ := key l l' r r' ih (by omega) e2
    exact ⟨by rw [e3, e4, e5, e6, h1], h2⟩
theorem er_flat {x y : Nd} : (flatN x).map eF = (flatN y).map eF ↔ erN x = erN y := by
  rw [flat_er, flat_er]
  constructor
  · intro e
    exact (flat_inj (erN x) (erN y) [] [] (by rw [e])).1
  · intro e; rw [e]
theorem Psame_ok {l mm : List T_remontoireref10_N} (hl : l.length ≤ 1000000) (hm : mm.length ≤ 1000000) : ∀ (c i : Nat) (lc : List T_remontoireref10_N) (s : Bool), lc.length = l.length → lc.drop i = l.drop i → i ≤ min l.length mm.length → min l.length mm.length < i + c →
    Tot (Psame_l1 mm (min (l.length : Int) (mm.length : Int)) c lc i s) fun z => (z.2 = true ↔ s = true ∧ ∀ j, i ≤ j → j < l.length → j < mm.length → (l[j]?).map eF = (mm[j]?).map eF) := by
  intro c
  induction c with
  | zero =>
    intro i lc s _ _ h0 h
    omega
  | succ c ih =>
    intro i lc s hlc hd h0 h
    unfold Psame_l1
    refine Tot.iteb (fun h1 => ?_) fun h1 => .some ?_
    · simp only [decide_eq_true_eq] at h1
      have hi1 : i < l.length := by omega
      have hi2 : i < mm.length := by omega
      refine Tot.bind' (Tot.idx (by omega) (by omega) fun x hx => Tot.bind' (Tot.idx (by omega) (by omega) fun y hy => ?_))
      rw [Int.toNat_natCast] at hx hy
      have hy' : l[i]? = some y := by
        have h2 := congrArg (fun m => m[0]?) hd
        simp only [List.getElem?_drop, Nat.add_zero] at h2
        rw [← h2]; exact hy
      rw [wrap64 (by omega) (by omega), Int.toNat_natCast]
      refine (ih (i + 1) _ _ (by rw [List.length_set]; exact hlc) ?_ (by omega) (by omega)).mono fun z hz => ?_
      · apply List.ext_getElem?
        intro j
        have h2 := congrArg (fun m => m[j + 1]?) hd
        simp only [List.getElem?_drop] at h2 ⊢
        rw [List.getElem?_set_ne (by omega), show i + 1 + j = i + (j + 1) by omega]
        exact h2
      · rw [hz, Bool.and_eq_true, eqN_iff]
        constructor
        · rintro ⟨⟨h2, h3⟩, h4⟩
          refine ⟨h2, fun j h5 h6 h7 => ?_⟩
          by_cases hj : j = i
          · subst hj
            rw [hy', hx, Option.map_some, Option.map_some, h3]
          · exact h4 j (by omega) h6 h7
        · rintro ⟨h2, h3⟩
          refine ⟨⟨h2, ?_⟩, fun j h5 => h3 j (by omega)⟩
          have := h3 i (Nat.le_refl _) hi1 hi2
          rw [hy', hx] at this
          simpa using this
    · simp only [decide_eq_false_iff_not] at h1
      constructor
      · intro hs
        exact ⟨hs, fun j h2 h3 h4 => by omega⟩
      · exact fun hs => hs.1
theorem same_true (a b : Str) : remontoirelaw10_ParseSame 100000 a b = some true := by
  unfold remontoirelaw10_ParseSame
  rw [anchor_joins, Option.bind_some, if_neg (by decide)]
  by_cases ha : (2000 : Int) < a.length
  · rw [if_pos (by simpa using ha), Option.bind_some, if_pos rfl]
  rw [if_neg (by simpa using ha), Option.bind_some]
  by_cases hb : (2000 : Int) < b.length
  · rw [if_pos (by simpa using hb)]
  rw [if_neg (by simpa using hb)]
  obtain ⟨ra, ea, _⟩ := Parse_tot (n := 100000) (s := a) (by omega)
  obtain ⟨rb, eb, _⟩ := Parse_tot (n := 100000) (s := b) (by omega)
  rw [ea, Option.bind_some, eb, Option.bind_some]
  by_cases h1 : ra.2.1 = 0
  rotate_left
  · rw [if_pos (by simpa using h1), Option.bind_some, if_pos rfl]
  rw [if_neg (by simpa using h1), Option.bind_some]
  by_cases h2 : rb.2.1 = 0
  rotate_left
  · rw [if_pos (by simpa using h2)]
  rw [if_neg (by simpa using h2)]
  have hsa : sz ra.1 ≤ 16384 := by
    obtain ⟨la, wa, fa, za, ta, ua, a1, a2, a3, a4, a5, a6⟩ := parse_der (by omega) ea h1
    rw [a5, sz_mk]; exact a6
  have hsb : sz rb.1 ≤ 16384 := by
    obtain ⟨la, wa, fa, za, ta, ua, a1, a2, a3, a4, a5, a6⟩ := parse_der (by omega) eb h2
    rw [a5, sz_mk]; exact a6
  have hfa : (flatN ra.1).length = sz ra.1 := rfl
  have hfb : (flatN rb.1).length = sz rb.1 := rfl
  rw [flat_eq 100000 ra.1 0 (by omega) (by omega) (by omega), Option.bind_some, flat_eq 100000 rb.1 0 (by omega) (by omega) (by omega), Option.bind_some]
  obtain ⟨z, ez, hz⟩ := Psame_ok (l := flatN ra.1) (mm := flatN rb.1) (by omega) (by omega) 100000 0 (flatN ra.1) (((flatN ra.1).length : Int) == ((flatN rb.1).length : Int)) rfl rfl (by omega) (by omega)
  rw [show ((0 : Nat) : Int) = 0 from rfl] at ez
  rw [ez, Option.bind_some]
  obtain ⟨x, ex, hx⟩ := Same_ok (n := 100000) (x := ra.1) (y := rb.1) (by omega) (by omega)
  obtain ⟨y, ey, hy⟩ := Same_ok (n := 100000) (x := ra.1) (y := ra.1) (by omega) (by omega)
  rw [ex, Option.bind_some, ey, Option.bind_some, hy.2 rfl]
  have hzx : z.2 = true ↔ erN ra.1 = erN rb.1 := by
    rw [hz, ← er_flat]
    constructor
    · rintro ⟨h3, h4⟩
      have h5 : (flatN ra.1).length = (flatN rb.1).length := Int.ofNat_inj.1 (beq_iff_eq.1 h3)
      apply List.ext_getElem?
      intro j
      rw [List.getElem?_map, List.getElem?_map]
      by_cases hj : j < (flatN ra.1).length
      · exact h4 j (Nat.zero_le _) hj (by omega)
      · rw [List.getElem?_eq_none (by omega), List.getElem?_eq_none (by omega)]
    · intro e
      have h5 := congrArg List.length e
      rw [List.length_map, List.length_map] at h5
      refine ⟨beq_iff_eq.2 (Int.ofNat_inj.2 h5), fun j _ _ _ => ?_⟩
      have := congrArg (fun m => m[j]?) e
      simpa only [List.getElem?_map] using this
  rw [if_pos]
  rw [beq_iff_eq]
  cases hxx : x with
  | true => exact (hzx.2 (hx.1 hxx)).symm
  | false =>
    cases hzz : z.2 with
    | false => rfl
    | true => rw [hx.2 (hzx.1 hzz)] at hxx; cases hxx
theorem same_ex : ∃ n, ∀ a b : Str, remontoirelaw10_ParseSame n a b = some true := ⟨100000, same_true⟩
end Go.Proofs.YtolhahlnccekcaaDoor.Abs
