/-
  Own helper theorems of no one function: the rule of a region whose order is drawn.
-/
import Derived.Test.YtolhahlnccekcaaDoorPwA18
namespace Go.Proofs.YtolhahlnccekcaaDoor.Abs
open Go.RowKit

theorem countP_ins {D : Nat → Bool} {k : Nat} {L : List Nat} (hk : k ∈ L) (hu : D k = false) : L.countP (fun i => !(ins D k i)) < L.countP (fun i => !(D i)) := by
  have hle : ∀ L : List Nat, L.countP (fun i => !(ins D k i)) ≤ L.countP (fun i => !(D i)) := fun L => List.countP_mono_left fun x _ hx => by
    simp only [ins, Bool.not_eq_true', Bool.or_eq_false_iff] at hx
    simp [hx.1]
  induction L with
  | nil => cases hk
  | cons x L ih =>
    rw [List.countP_cons, List.countP_cons]
    by_cases hx : x = k
    · subst hx
      have h1 : (!(ins D x x)) = false := by simp [ins]
      have h2 : (!(D x)) = true := by simp [hu]
      rw [h1, h2]
      have := hle L
      simp only [Bool.false_eq_true, if_false, if_true]
      omega
    · have := ih ((List.mem_cons.1 hk).resolve_left (fun e => hx e.symm))
      rw [ins_ne hx]
      split <;> omega

section
variable {P : Program} {full : List Oper} {π : Pa} {k0 N : Nat} {tr : List Ev} {tbl : List Nat} {E0 : Env} {m0 : M} {c0 : Conc} {w0 : World} {a0 : Act}
theorem Inv.congr {D D' : Nat → Bool} {c : Conc} {a : Act} {w : World} (h : Inv P full π k0 N tr tbl E0 m0 c0 w0 a0 D c a w) (hD : D = D') : Inv P full π k0 N tr tbl E0 m0 c0 w0 a0 D' c a w := hD ▸ h
theorem ready_mem {listed : Array Bool} {i : Nat} : i ∈ Region.ready .any full.toArray listed ↔ i < full.length ∧ listed.getD i true = false ∧ ∃ o, full[i]? = some o ∧ ∀ e ∈ o.after.toList, Region.binds .any e = true → listed.getD e.on false = true := by
  unfold Region.ready
  simp only [List.mem_filter, List.mem_range, List.size_toArray, Bool.and_eq_true, Bool.not_eq_true', List.getElem?_toArray]
  refine and_congr_right fun hi => and_congr_right fun _ => ?_
  have ho : full[i]? = some full[i] := List.getElem?_eq_getElem hi
  rw [ho]
  constructor
  · intro h
    refine ⟨_, rfl, fun e he hb => ?_⟩
    simp only [Option.map_some, Option.getD_some] at h
    have := Array.all_eq_true'.1 h e (by simpa using he)
    simpa [hb] using this
  · rintro ⟨o, ho', h⟩
    injection ho' with ho'
    subst ho'
    simp only [Option.map_some, Option.getD_some]
    refine Array.all_eq_true'.2 fun e he => ?_
    cases hb : Region.binds .any e with
    | false => rfl
    | true => simpa using h e (by simpa using he) hb

theorem Inv.all {Q : Exit → Act → World → Prop} (g : Given P full π k0 N tr tbl E0 m0) (ht : tblChk full tbl = true) (hall : ∀ i, i < full.length → ∃ e ∈ tr, e.i = i)
    (hQ : ∀ c a w, Rep c (endM tr m0) w → Ext π c0 m0 w0 c (endM tr m0) w → EnvOk c (endE tr E0) a N → FreshK c π (k0 + full.length) → a.defers = a0.defers → Q .normal a w) :
    ∀ (fuel : Nat) (listed : Array Bool) (c : Conc) (a : Act) (w : World), listed.size = full.length → (List.range full.length).countP (fun i => !(listed.getD i false)) ≤ fuel → Inv P full π k0 N tr tbl E0 m0 c0 w0 a0 (fun i => listed.getD i false) c a w → wpAny P .any full.toArray Q fuel listed a w := by
  -- all is done
  have hdone : ∀ (listed : Array Bool) (c : Conc) (a : Act) (w : World), (∀ i, i < full.length → listed.getD i false = true) → Inv P full π k0 N tr tbl E0 m0 c0 w0 a0 (fun i => listed.getD i false) c a w → Q .normal a w := by
    intro listed c a w hl hI
    have hD : ∀ e ∈ tr, listed.getD e.i false = true := fun e he => hl _ (List.getElem?_eq_some_iff.1 (g.fact e he).1).1
    obtain ⟨_, ⟨A1, A2, S, htr, hA1, hA1e, hA2, hS, hSe, hRep, hExt, hHalf, hblank⟩, hEnv, hfr, hfrK, hdef⟩ := hI
    have hS0 : S = [] := by
      rcases hSe with h | ⟨e, S1, h, hef⟩
      · exact h
      · have h1 := hS e (by rw [h]; simp) hef
        have h2 := hD e (by rw [htr, h]; simp)
        have h1' : listed.getD e.i false = false := h1
        rw [h2] at h1'; cases h1'
    have hf2 : A2.filter (alD fun i => listed.getD i false) = A2.filter Ev.al := List.filter_congr fun x hx => by
      have := hD x (by rw [htr]; simp [hx])
      simp only [alD, this, Bool.and_true]
    have hlk : Lnk (A1 ++ (A2 ++ [])) E0 m0 [] := by rw [← hS0, ← htr]; exact g.lnk
    obtain ⟨h1, hlk1, _⟩ := hlk.right
    have hseg := seg_mem (P := P) (full := full) (π := π) (k0 := k0) hlk1 (fun x hx => g.fact x (by rw [htr]; simp [hx])) hA2
    have hm : setAll (endM A1 m0) ((A2.filter (alD fun i => listed.getD i false)).map (pv π k0)) = endM tr m0 := by
      rw [hf2, ← hseg, htr, hS0, List.append_nil, endM_app]
    have hE : tr.filter (fun x => listed.getD x.i false) = tr := List.filter_eq_self.2 fun x hx => hD x hx
    rw [hm] at hRep hExt
    have hEnv' : EnvOk c (endE (tr.filter (fun x => listed.getD x.i false)) E0) a N := hEnv
    rw [hE] at hEnv'
    exact hQ c a w hRep hExt hEnv' hfrK hdef
  have hready : ∀ listed : Array Bool, listed.size = full.length → Region.ready .any full.toArray listed = [] → ∀ i, i < full.length → listed.getD i false = true := by
    intro listed hsz hr i
    induction i using Nat.strongRecOn with
    | ind i ih =>
      intro hi
      cases hx : listed.getD i false with
      | true => rfl
      | false =>
        exfalso
        have hmem : i ∈ Region.ready .any full.toArray listed := by
          refine ready_mem.2 ⟨hi, ?_, _, List.getElem?_eq_getElem hi, fun e he hb => ?_⟩
          · rw [Array.getD_eq_getD_getElem?] at hx ⊢
            rw [Array.getElem?_eq_getElem (by omega)] at hx ⊢
            exact hx
          · have hlt := edge_lt ht (List.getElem?_eq_getElem hi) he hb
            exact ih e.on hlt (by omega)
        rw [hr] at hmem; cases hmem
  intro fuel
  induction fuel with
  | zero =>
    intro listed c a w hsz hc hI
    have hl : ∀ i, i < full.length → listed.getD i false = true := by
      intro i hi
      have := List.countP_eq_zero.1 (Nat.le_zero.1 hc) i (List.mem_range.2 hi)
      simpa using this
    refine ⟨?_, hdone listed c a w hl hI⟩
    apply List.eq_nil_iff_forall_not_mem.2
    intro i hi
    obtain ⟨h1, h2, _⟩ := ready_mem.1 hi
    have := hl i h1
    rw [Array.getD_eq_getD_getElem?] at h2 this
    rw [Array.getElem?_eq_getElem (by omega)] at h2 this
    simp only [Option.getD_some] at h2 this
    rw [h2] at this; cases this
  | succ fuel ih =>
    intro listed c a w hsz hc hI
    refine ⟨fun hr => hdone listed c a w (hready listed hsz hr) hI, fun i hi => ?_⟩
    obtain ⟨h1, h2, o, ho, h3⟩ := ready_mem.1 hi
    obtain ⟨e, he, rfl⟩ := hall i h1
    have hu : listed.getD e.i false = false := by
      rw [Array.getD_eq_getD_getElem?] at h2 ⊢
      rw [Array.getElem?_eq_getElem (by omega)] at h2 ⊢
      exact h2
    refine hI.step g he hu (fun j hb => ?_) fun c' a' w' hI' => ?_
    · obtain ⟨ed, hed, hbd, hj⟩ := tbl_edge ht ho hb
      have := h3 ed hed hbd
      rcases hj with hj | hj
      · rw [← hj]; exact this
      · exact hI.closed _ _ this hj
    · have hD : ins (fun i => listed.getD i false) e.i = fun i => (listed.setIfInBounds e.i true).getD i false := by
        funext j
        by_cases hj : j = e.i
        · subst hj
          rw [ins_self, Array.getD_eq_getD_getElem?, Array.getElem?_setIfInBounds_self_of_lt (by omega)]; rfl
        · rw [ins_ne hj, Array.getD_eq_getD_getElem?, Array.getD_eq_getD_getElem?, Array.getElem?_setIfInBounds_ne (fun e' => hj e'.symm)]
      refine ih _ c' a' w' (by simpa using hsz) ?_ (hI'.congr hD)
      have hlt := countP_ins (D := fun i => listed.getD i false) (List.mem_range.2 h1) hu
      have heq : (fun i => !((listed.setIfInBounds e.i true).getD i false)) = fun i => !(ins (fun i => listed.getD i false) e.i i) := by
        rw [hD]
      rw [heq]
      omega
end

theorem SW_draw {P : Program} {N : Nat} {π : Pa} {k : Nat} {E : Env} {m : M} {Q : Exit → Nat → Env → M → Prop} {id : Nat} {ops : Array Oper} {tbl : List Nat} {ord : List (Nat × Nat)} (hm : P.follows .mixedOrders = true) (hc : dOk ops.toList tbl ord = true)
    (h : PD P ops.toList π k (Q .normal) ord [] E m) : SW P N π (.region id ops true) k E m Q := by
  intro hf c a w h1 h2 h3
  obtain ⟨tr, t1, t2, t3, t4⟩ := PD_trace ord [] E m h
  simp only [dOk, Bool.and_eq_true, List.all_eq_true, List.mem_range] at hc
  obtain ⟨⟨⟨c1, c2⟩, c3⟩, c4⟩ := hc
  have hkeys : keys ops.toList ord = tr.map Ev.key := by
    rw [← t1]
    unfold keys
    rw [List.map_map]
    refine List.map_congr_left fun e he => ?_
    have := (t3 e he).1
    show (e.i, e.f, ops.toList.getD e.i default) = (e.i, e.f, e.o)
    rw [List.getD_eq_getElem?_getD, this]; rfl
  rw [hkeys] at c2 c3
  have hmem : ∀ e ∈ tr, e.o ∈ ops.toList := fun e he => List.mem_of_getElem? (t3 e he).1
  have g : Given P ops.toList π k N tr tbl E m := ⟨t2, t3, c2, c3, fun e he d hd => by
    have hf' : fitsOps N ops.toList = true := hf
    have := List.all_eq_true.1 hf' e.o (hmem e he)
    rw [hd] at this; simpa using this⟩
  have hall : ∀ i, i < ops.toList.length → ∃ e ∈ tr, e.i = i := by
    intro i hi
    have := c1 i hi
    rw [List.contains_iff_mem, ← t1, List.map_map] at this
    obtain ⟨e, he, rfl⟩ := List.mem_map.1 this
    exact ⟨e, he, rfl⟩
  refine wp_region_any hm ?_
  have hR := h1.drewN 1
  have hw : ({ w with drawn := w.drawn + 1 } : World) = w.drewN 1 := rfl
  rw [hw]
  have hcl0 : ∀ i j, (Array.replicate ops.size false).getD i false = true → bef tbl j i = true → (Array.replicate ops.size false).getD j false = true := by
    intro i j hi _
    exfalso
    rw [Array.getD_eq_getD_getElem?, Array.getElem?_replicate] at hi
    split at hi <;> cases hi
  have hfold := Inv.all (P := P) (c0 := c) (w0 := w.drewN 1) (a0 := a) (Q := fun e a' w' => PostW π N (wr (.region id ops true)) E c m w a (Q e) a' w') g c4 hall (fun c' a' w' g1 g2 g3 g4 g5 =>
    ⟨c', _, endE tr E, endM tr m, t4, g1, (Ext.drewN π c m w 1).trans g2, g3, g4, g5, fun t ht => endE_ne fun e he hd => by
      have : wr (.region id ops true) t = true := by
        simp only [wr, List.any_eq_true, beq_iff_eq]
        exact ⟨e.o, hmem e he, hd⟩
      rw [ht] at this; cases this⟩)
    ops.size (Array.replicate ops.size false) c a (w.drewN 1) (by simp) (by
      refine Nat.le_trans List.countP_le_length ?_
      simp) ⟨hcl0, ?_, ?_, fun e he _ => ?_, fun j hj => h3 j (by omega), rfl⟩
  · simpa using hfold
  · have hfalse : ∀ i, (Array.replicate ops.size false).getD i false = false := by
      intro i
      rw [Array.getD_eq_getD_getElem?, Array.getElem?_replicate]
      split <;> rfl
    obtain ⟨A2, S, hs, hA2, hSe⟩ : ∃ A2 S, tr = A2 ++ S ∧ (∀ x ∈ A2, x.ef = false) ∧ (S = [] ∨ ∃ x S3, S = x :: S3 ∧ x.ef = true) := by
      clear g t2 t3 t4 t1 hall hmem hkeys c2 c3 hfalse
      induction tr with
      | nil => exact ⟨[], [], rfl, by simp, .inl rfl⟩
      | cons x S1 ih =>
        cases hxe : x.ef with
        | true => exact ⟨[], x :: S1, rfl, by simp, .inr ⟨x, S1, rfl, hxe⟩⟩
        | false =>
          obtain ⟨T, S2, h1, h2, h3⟩ := ih
          exact ⟨x :: T, S2, by rw [h1]; rfl, fun y hy => (List.mem_cons.1 hy).elim (fun h => by rw [h]; exact hxe) (h2 y), h3⟩
    have hno : ∀ L : List Ev, L.filter (alD fun i => (Array.replicate ops.size false).getD i false) = [] := fun L => List.filter_eq_nil_iff.2 fun x _ => by
      simp only [alD, hfalse, Bool.and_false, Bool.false_eq_true, not_false_eq_true]
    refine ⟨[], A2, S, hs, by simp, .inl rfl, hA2, fun x _ _ => hfalse x.i, hSe, ?_, ?_, ?_, fun x _ hx => ?_⟩
    · rw [hno]; exact hR
    · rw [hno]; exact .refl π c m _
    · have hno2 : (S.filter (alD fun i => (Array.replicate ops.size false).getD i false)).map (pv π k) = [] := by rw [hno]; rfl
      rw [hno, hno2]
      exact ⟨fun x hx => (List.not_mem_nil hx).elim, fun x hx => (List.not_mem_nil hx).elim⟩
    · simp only [alD, hfalse, Bool.and_false] at hx; cases hx
  · have : tr.filter (fun x => (Array.replicate ops.size false).getD x.i false) = [] := List.filter_eq_nil_iff.2 fun x _ => by
      rw [Array.getD_eq_getD_getElem?, Array.getElem?_replicate]
      split <;> simp
    rw [this]; exact h2
  · exact h3 _ (by omega)
end Go.Proofs.YtolhahlnccekcaaDoor.Abs
