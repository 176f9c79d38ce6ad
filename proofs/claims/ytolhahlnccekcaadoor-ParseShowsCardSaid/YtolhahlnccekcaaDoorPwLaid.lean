/-
  Own helper theorems of no one function: what the laid package variables read as; a claim's start with them.
-/
import Derived.Test.YtolhahlnccekcaaDoorPwS5
import Derived.Test.YtolhahlnccekcaaDoorPwA21
import Derived.OpenShut
import Derived.ChangeArms
namespace Go.Proofs.YtolhahlnccekcaaDoor.Abs
open Go.RowKit

section
variable {H : Type} {enc : TypeId × Value → H} {P : Program} {w : World} {base : Nat} {spare : Nat → Bool} {held : Bool} {fuel : Nat}
theorem chunk_one {α : Type} {l : List α} {i : Nat} {x : α} (h : (l.drop i).take 1 = [x]) : l[i]? = some x := by
  rw [← List.head?_drop]
  cases hd : l.drop i with
  | nil => rw [hd] at h; cases h
  | cons y r => rw [hd] at h; simp at h; simp [h]
/-- a table of strings -/
theorem tabS {t e n : Nat} {l : List Str} {cs : List Value} {p : List MemPlace} (ht : P.underlying t = some (.array n e)) (he : P.underlying e = some .string) (hce : P.cellsOf e = 1) (hct : P.cellsOf t = n) (hl : l.length = n)
    (h : DataW.trod enc P w base spare held fuel t cs = some (.agg (l.map fun s => .lit (.string s)), p)) : cs = l.map fun s => Value.string (bs s) := by
  obtain ⟨xs, m, _, hx, hlen, hn, hel⟩ := DataW.trod_array ht h
  simp only [Prod.mk.injEq, DataW.agg.injEq] at hx
  rw [hct] at hlen
  apply List.ext_getElem?
  intro i
  by_cases hi : i < n
  · have h1 := hel i hi
    rw [hce, Nat.mul_one] at h1
    obtain ⟨x, hxi⟩ : ∃ x, xs[i]? = some x := ⟨xs[i], List.getElem?_eq_getElem (by omega)⟩
    rw [hxi] at h1
    obtain ⟨s, h2, h3, _⟩ := DataW.trod_string he h1
    rw [chunk_one h2, List.getElem?_map]
    obtain ⟨y, hy⟩ : ∃ y, l[i]? = some y := ⟨l[i], List.getElem?_eq_getElem (by omega)⟩
    have h4 : (l.map fun s => (DataW.lit (.string s) : DataW H))[i]? = (xs.map (·.1))[i]? := by rw [hx.1]
    rw [List.getElem?_map, List.getElem?_map, hy, hxi, h3] at h4
    simp only [Option.map_some, Option.some.injEq, DataW.lit.injEq, Lit.string.injEq] at h4
    rw [hy, Option.map_some, h4]
    cases s; rfl
  · rw [List.getElem?_eq_none (by omega), List.getElem?_eq_none (by simp; omega)]
/-- chunks of one width, one behind the other -/
theorem chunks {α : Type} {k : Nat} {cs : List α} {l : List (List α)} (hlen : cs.length = l.length * k) (hk : ∀ i, i < l.length → ∃ y, l[i]? = some y ∧ (cs.drop (i * k)).take k = y) : cs = l.flatten := by
  induction l generalizing cs with
  | nil =>
    rw [List.length_nil, Nat.zero_mul] at hlen
    rw [List.eq_nil_of_length_eq_zero hlen]; rfl
  | cons y l ih =>
    obtain ⟨y', h1, h2⟩ := hk 0 (by simp)
    obtain rfl : y = y' := by simpa using h1
    rw [Nat.zero_mul, List.drop_zero] at h2
    have h3 := ih (cs := cs.drop k) (by rw [List.length_drop, hlen, List.length_cons, Nat.succ_mul]; omega) (fun i hi => by
      obtain ⟨z, h4, h5⟩ := hk (i + 1) (by simpa using hi)
      refine ⟨z, by simpa using h4, ?_⟩
      rw [List.drop_drop, ← h5, Nat.succ_mul, Nat.add_comm])
    rw [List.flatten_cons, ← h3, ← h2, List.take_append_drop]
/-- a table of tables of strings -/
theorem tabSS {t a e n k : Nat} {l : List (List Str)} {cs : List Value} {p : List MemPlace} (ht : P.underlying t = some (.array n a)) (ha : P.underlying a = some (.array k e)) (he : P.underlying e = some .string) (hce : P.cellsOf e = 1) (hca : P.cellsOf a = k) (hct : P.cellsOf t = n * k)
    (hl : l.length = n) (hk : ∀ x ∈ l, x.length = k)
    (h : DataW.trod enc P w base spare held fuel t cs = some (.agg (l.map fun x => .agg (x.map fun s => .lit (.string s))), p)) : cs = (l.map fun x => x.map fun s => Value.string (bs s)).flatten := by
  obtain ⟨xs, m, _, hx, hlen, hn, hel⟩ := DataW.trod_array ht h
  simp only [Prod.mk.injEq, DataW.agg.injEq] at hx
  rw [hct] at hlen
  refine chunks (k := k) (by rw [hlen, List.length_map, hl]) ?_
  intro i hi
  rw [List.length_map, hl] at hi
  have h1 := hel i hi
  rw [hca] at h1
  obtain ⟨x, hxi⟩ : ∃ x, xs[i]? = some x := ⟨xs[i], List.getElem?_eq_getElem (by omega)⟩
  obtain ⟨y, hy⟩ : ∃ y, l[i]? = some y := ⟨l[i], List.getElem?_eq_getElem (by omega)⟩
  have h4 : (l.map fun x => (DataW.agg (x.map fun s => .lit (.string s)) : DataW H))[i]? = (xs.map (·.1))[i]? := by rw [hx.1]
  rw [List.getElem?_map, List.getElem?_map, hy, hxi] at h4
  simp only [Option.map_some, Option.some.injEq] at h4
  rw [hxi] at h1
  obtain ⟨x1, x2⟩ := x
  simp only at h4
  subst h4
  refine ⟨_, by rw [List.getElem?_map, hy]; rfl, ?_⟩
  exact tabS ha he hce hca (hk y (List.mem_of_getElem? hy)) h1
end
/-! The tables, as a book, and what the package variables are at the start. -/
def tabsG (ts : List (Nat × List Value)) : GG := fun b o => (ts.find? (·.1 == b)).bind fun t => t.2[o]?
def tabsV (ts : List (Nat × List Value)) : Nat → V := fun g => match ts.find? (·.1 == g) with | some t => .eptr [t.2.map V.lit] 0 0 | none => .top
theorem tabsG_com {w : World} {ts : List (Nat × List Value)} (h : ∀ t ∈ ts, ∀ o, w.cell? ⟨t.1, o, none⟩ = t.2[o]?) : Com w (tabsG ts) := by
  intro b o v hv
  unfold tabsG at hv
  cases hf : ts.find? (·.1 == b) with
  | none => rw [hf] at hv; cases hv
  | some t =>
    rw [hf] at hv
    have h1 := List.find?_some hf
    have h2 := List.mem_of_find?_eq_some hf
    simp only [beq_iff_eq] at h1
    rw [← h1, h t h2 o]; exact hv
theorem lits_cr {c : Conc} (l : List Value) : CR c (l.map V.lit) l := by
  induction l with
  | nil => exact .nil
  | cons v l ih => exact .lit ih
theorem tabsV_cr {c : Conc} {ts : List (Nat × List Value)} (hG : ∀ b o v, tabsG ts b o = some v → c.G b o = some v) (h1 : (ts.all fun t => t.2.all Value.oneCell') = true) (g : Nat) : CR c [tabsV ts g] [.pointer (some ⟨g, 0, none⟩)] := by
  unfold tabsV
  cases hf : ts.find? (·.1 == g) with
  | none => exact .top .nil
  | some t =>
    have h3 := List.mem_of_find?_eq_some hf
    have := CR.eptr (c := c) (rows := [t.2.map V.lit]) (es := t.2) (sz := (t.2.map V.lit).length) (i := 0) (off := 0) (b := g) (o := 0) (vs := []) (cs := []) (by simpa using lits_cr t.2) (by simp) (fun j u hu => hG _ _ _ (by simp only [tabsG, hf, Option.bind_some, Nat.zero_add, hu])) (fun u hu => by
      have := List.all_eq_true.1 h1 t h3
      exact List.all_eq_true.1 this u hu) .nil
    simpa using this
def M.startG (gl : Nat → V) : M := { M.start with gl := gl }
section
variable {P : Program} {w : World} {G : GG}
theorem start_repG {gl : Nat → V} (hC : Com w G) (hg : ∀ g, CR (Conc.start w G) [gl g] [.pointer (some ⟨g, 0, none⟩)]) : Rep (Conc.start w G) (M.startG gl) w :=
  ⟨hC, fun _ _ h => none_some h, fun _ _ _ h => absurd rfl h, fun s b cap sz len _ hk => none_some hk, fun s s' b cap sz len cap' sz' len' _ _ hk => none_some hk, fun _ _ _ h => absurd rfl h, hg, fun _ _ => ⟨fun _ => rfl, fun _ => rfl⟩, Nat.le_refl _, fun _ h => h.elim⟩
theorem start_ownedG {gl : Nat → V} (b : Nat) : ¬ Owned (Conc.start w G) (M.startG gl) b := by
  rintro (⟨id, h, _⟩ | ⟨s, cap, sz, len, _, hk⟩)
  · exact h rfl
  · cases hk
theorem Ext.belowG {q : Pa} {c' : Conc} {m' : M} {w' : World} {gl : Nat → V} (h : Ext q (Conc.start w G) (M.startG gl) w c' m' w') : Below w.heap.size w w' :=
  ⟨h.os, h.tape, h.output, h.size, fun b hb => h.heap b hb (start_ownedG b) (.inl hb)⟩
/-- a claim's walk, with package variables -/
theorem SC.claimG {f : FuncId} {args : List V} {xs : List Value} {R : M → Prop} {gl : Nat → V} (hen : ∀ (xs : Array Value) (w : World), (callFunc f xs).run P w = .ok (.enter f xs) w) (h : SC P f args [] (M.startG gl) (fun r m' => r = .lit (.bool true) ∧ R m')) (hC : Com w G) (hg : ∀ g, CR (Conc.start w G) [gl g] [.pointer (some ⟨g, 0, none⟩)]) (ha : CR (Conc.start w G) args xs) :
    Calls P f xs.toArray w fun e w' => e = .returned (.bool true) ∧ Below w.heap.size w w' := by
  rcases h (Conc.start w G) xs w (start_repG hC hg) ha (start_fresh []) with ⟨_, k⟩ | ⟨x, w', k, _⟩
  · refine k.mono fun _ _ ⟨x, c', r, m', e, ⟨hr, _⟩, _, hX, hv⟩ => ?_
    subst e hr
    exact ⟨by rw [hv.inv_lit], hX.belowG⟩
  · rw [hen] at k; cases k
end
end Go.Proofs.YtolhahlnccekcaaDoor.Abs
