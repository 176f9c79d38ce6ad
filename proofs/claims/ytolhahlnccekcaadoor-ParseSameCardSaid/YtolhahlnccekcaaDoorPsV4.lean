/-
  Own helper theorems of no one function: a region whose order is drawn, order by order.
-/
import Derived.Test.YtolhahlnccekcaaDoorPsV1
namespace Go.Proofs.YtolhahlnccekcaaDoor.Abs
open Go.RowKit
set_option linter.unusedVariables false
def PAny (P : Program) (full : Array Oper) (π : Pa) (k : Nat) (K : Nat → Env → M → Prop) : Nat → Array Bool → Env → M → Prop
  | 0, listed, E, m => Region.ready .any full listed = [] ∧ K (k + full.size) E m
  | n + 1, listed, E, m => (Region.ready .any full listed = [] → K (k + full.size) E m) ∧ ∀ i ∈ Region.ready .any full listed, ∃ o, full[i]? = some o ∧ o.guard = none ∧
      POps P full.toList π (fun _ E' m' => PAny P full π k K n (listed.setIfInBounds i true) E' m') [o] (k + i) E m
section
variable {P : Program} {N : Nat} {π : Pa} {k : Nat}
theorem PAny_ok {full : Array Oper} {K : Nat → Env → M → Prop} {Q : Exit → Act → World → Prop} {c0 : Conc} {m0 : M} {w0 : World} {a0 : Act} {W : Nat → Bool} {E0 : Env} (hQ : ∀ a' w', PostW π N W E0 c0 m0 w0 a0 K a' w' → Q .normal a' w') (hfit : fitsOps N full.toList = true) (hW : ∀ o ∈ full.toList, ∀ d, o.dst = some d → W d = true) :
    ∀ (n : Nat) (listed : Array Bool) (E : Env) (c : Conc) (m : M) (w : World) (a : Act), PAny P full π k K n listed E m → Rep c m w → EnvOk c E a N → (∀ i, i < full.size → listed.getD i true = false → FreshU c ((k + i) :: π)) → FreshK c π (k + full.size) → Ext π c0 m0 w0 c m w → a.defers = a0.defers → (∀ t, W t = false → E t = E0 t) → wpAny P .any full Q n listed a w := by
  intro n
  induction n with
  | zero =>
    intro listed E c m w a hs hR hE hF hFK hX hd hU
    exact ⟨hs.1, hQ a w ⟨c, _, E, m, hs.2, hR, hX, hE, hFK, hd, hU⟩⟩
  | succ n ih =>
    intro listed E c m w a hs hR hE hF hFK hX hd hU
    refine ⟨fun h0 => hQ a w ⟨c, _, E, m, hs.1 h0, hR, hX, hE, hFK, hd, hU⟩, fun i hi => ?_⟩
    obtain ⟨o, ho, hg, hp⟩ := hs.2 i hi
    have hmem : o ∈ full.toList := by
      obtain ⟨h1, h2⟩ := Array.getElem?_eq_some_iff.1 ho
      rw [← h2]; exact Array.getElem_mem_toList h1
    obtain ⟨hlt, hun⟩ : i < full.size ∧ listed.getD i true = false := by
      unfold Region.ready at hi
      simp only [List.mem_filter, List.mem_range, Bool.and_eq_true, Bool.not_eq_true'] at hi
      exact ⟨hi.1, hi.2.1⟩
    have hfo : ∀ d, o.dst = some d → d < N := by
      intro d h
      have := List.all_eq_true.1 (show full.toList.all _ = true from hfit) o hmem
      rw [h] at this; simpa using this
    simp only [POps, hg] at hp
    unfold wpOp
    rw [ho]
    simp only
    rw [if_pos (by simp [Region.wanted, hg])]
    refine .inl (Oper.wp_mono ?_ (stepOp_ok (N := N) hp hR hE (hF i hlt hun) hfo Q))
    rintro a' w' ⟨c', v, m', hC, h1, h2, h3, h4⟩
    refine ih _ _ c' m' w' a' hC h1 h3 (fun j hj hl => ?_) (fun j hj => ?_) (hX.trans h2.up) (h4.trans hd) (fun t ht => ?_)
    · have hne : j ≠ i := by
        rintro rfl
        rw [Array.getD_eq_getD_getElem?, Array.getElem?_setIfInBounds] at hl
        split at hl
        · split at hl <;> simp_all
        · simp_all
      have hl' : listed.getD j true = false := by
        rw [Array.getD_eq_getD_getElem?, Array.getElem?_setIfInBounds_ne (by omega)] at hl
        rw [Array.getD_eq_getD_getElem?]; exact hl
      exact fun id hid => h2.fresh id (not_under hid (by omega)) (hF j hj hl' id hid)
    · exact fun id hid => h2.fresh id (not_under hid (by omega)) (hFK j hj id hid)
    · cases hdo : o.dst with
      | none => exact hU t ht
      | some d =>
        have := hW o hmem d hdo
        show (if t = d then v else E t) = E0 t
        rw [if_neg (by rintro rfl; rw [ht] at this; cases this)]; exact hU t ht
/-- a region whose order is drawn: each order is looked at -/
theorem SW_any {E : Env} {m : M} {Q : Exit → Nat → Env → M → Prop} {id : Nat} {ops : Array Oper} (hm : P.follows .mixedOrders = true) (h : PAny P ops π k (Q .normal) ops.size (Array.replicate ops.size false) E m) : SW P N π (.region id ops true) k E m Q := by
  intro hf c a w h1 h2 h3
  refine wp_region_any hm ?_
  have hw : ({ w with drawn := w.drawn + 1 } : World) = w.drewN 1 := rfl
  rw [hw]
  refine PAny_ok (W := wr (.region id ops true)) (E0 := E) (c0 := c) (m0 := m) (w0 := w) (a0 := a) (Q := fun e a' w' => PostW π N (wr (.region id ops true)) E c m w a (Q e) a' w') (fun a' w' hp => hp) hf (fun o ho d hd => ?_) _ _ E c m (w.drewN 1) a h (h1.drewN 1) h2 (fun i _ _ => h3 _ (by omega)) (fun j hj => h3 j (by omega)) (Ext.drewN π c m w 1) rfl (fun _ _ => rfl)
  simp only [wr, List.any_eq_true, beq_iff_eq]
  exact ⟨o, ho, hd⟩
end
end Go.Proofs.YtolhahlnccekcaaDoor.Abs
