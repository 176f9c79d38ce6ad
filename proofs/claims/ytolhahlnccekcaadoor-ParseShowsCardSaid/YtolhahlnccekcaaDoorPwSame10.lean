/-
  Trees without their offsets; parse.Same is their equality.
-/
import Derived.Test.YtolhahlnccekcaaDoorPwTr1
import Derived.Test.YtolhahlnccekcaaDoorPwJoi1
namespace Go.Proofs.YtolhahlnccekcaaDoor.Abs
open Go.RowKit
set_option linter.unusedVariables false
set_option linter.unusedSimpArgs false
theorem Nd_ind {P : Nd → Prop} (h : ∀ k a t n l, (∀ x ∈ l, P x) → P ⟨k, a, t, n, l⟩) : ∀ x, P x := by
  have key : ∀ (m : Nat) (x : Nd), sz x ≤ m → P x := by
    intro m
    induction m with
    | zero => intro x hx; have := sz_pos x; omega
    | succ m ih =>
      intro x hx
      cases x with
      | mk k a t n l =>
        refine h k a t n l fun y hy => ih y ?_
        have := sz_mem hy
        rw [sz_mk] at hx
        omega
  intro x
  exact key (sz x).toNat x (by have := sz_pos x; omega)
mutual
def erN : Nd → Nd
  | ⟨k, _, t, n, l⟩ => ⟨k, 0, t, n, erL l⟩
def erL : List Nd → List Nd
  | [] => []
  | x :: l => erN x :: erL l
end
theorem erL_map (l : List Nd) : erL l = l.map erN := by
  induction l with
  | nil => rw [erL]; rfl
  | cons x l ih => rw [erL, ih]; rfl
theorem erN_mk (k a : Int) (t : Str) (n : Int) (l : List Nd) : erN ⟨k, a, t, n, l⟩ = ⟨k, 0, t, n, l.map erN⟩ := by rw [erN, erL_map]
theorem szL_map {f : Nd → Nd} {l : List Nd} (h : ∀ x ∈ l, sz (f x) = sz x) : szL (l.map f) = szL l := by
  induction l with
  | nil => rfl
  | cons x l ih => rw [List.map_cons, szL_cons, szL_cons, h x List.mem_cons_self, ih fun y hy => h y (List.mem_cons_of_mem _ hy)]
theorem sz_er (x : Nd) : sz (erN x) = sz x := by
  induction x using Nd_ind with
  | h k a t n l ih => rw [erN_mk, sz_mk, sz_mk, szL_map ih]
theorem EqF_l1 {f : Nd → Nd → Option Bool} {l l' : List Nd} (hl : l.length = l'.length) (hb : l.length ≤ 1073741824) (hf : ∀ x ∈ l, ∀ y, Tot (f x y) fun b => (b = true ↔ erN x = erN y)) :
    ∀ (c v : Nat), l.length < v + c → v ≤ l.length → (l.take v).map erN = (l'.take v).map erN → Tot (slices_EqualFunc_L_parse_Node_L_parse_Node_parse_Node_parse_Node__Same_l1 f l l' c v) fun r => match r with | .inl _ => l.map erN = l'.map erN | .inr b => b = false ∧ l.map erN ≠ l'.map erN := by
  intro c
  induction c with
  | zero => intro v h1 h2; omega
  | succ c ih =>
    intro v h1 h2 h3
    unfold slices_EqualFunc_L_parse_Node_L_parse_Node_parse_Node_parse_Node__Same_l1
    refine Tot.iteb (fun h4 => ?_) (fun h4 => .some ?_)
    · simp only [decide_eq_true_eq] at h4
      refine Tot.bind' (Tot.idx (by omega) h4 fun x hx => Tot.bind' (Tot.idx (by omega) (by omega) fun y hy => ?_))
      rw [Int.toNat_natCast] at hx hy
      refine (hf x (List.mem_of_getElem? hx) y).bind fun b hb' => ?_
      refine Tot.iteb (fun h5 => .some ⟨rfl, fun e => ?_⟩) (fun h5 => ?_)
      · have h6 := congrArg (fun m => m[v]?) e
        simp only [List.getElem?_map, hx, hy, Option.map_some, Option.some.injEq] at h6
        rw [hb'.2 h6] at h5
        cases h5
      · rw [wrap64 (by omega) (by omega)]
        refine ih (v + 1) (by omega) (by omega) ?_
        rw [take_step' hx, take_step' hy, List.map_append, List.map_append, h3]
        congr 1
        simp only [List.map_cons, List.map_nil]
        rw [hb'.1 (by simpa using h5)]
    · simp only [decide_eq_false_iff_not] at h4
      rw [List.take_of_length_le (by omega), List.take_of_length_le (by omega)] at h3
      exact h3
theorem Same_grp_ok : ∀ n : Nat, (∀ x y, 2 * sz x + 1 ≤ n → sz x ≤ 1000000 → Tot ((parse_Same_grp n).1 x y) fun b => (b = true ↔ erN x = erN y)) ∧ (∀ l l', 2 * szL l + 2 ≤ n → szL l ≤ 1000000 → Tot ((parse_Same_grp n).2 l l') fun b => (b = true ↔ l.map erN = l'.map erN)) := by
  intro n
  induction n with
  | zero =>
    refine ⟨fun x y h => ?_, fun l l' h => ?_⟩
    · have := sz_pos x; omega
    · have := szL_ge l; omega
  | succ n ih =>
    obtain ⟨i1, i2⟩ := ih
    refine ⟨fun x y h hb => ?_, fun l l' h hb => ?_⟩
    · show Tot (parse_Same_b _ n x y) _
      unfold parse_Same_b
      have h1 := sz_eq x
      cases x with
      | mk k a t u l =>
      cases y with
      | mk k' a' t' u' l' =>
      rw [erN_mk, erN_mk]
      refine Tot.bind (P := fun b => (b = true ↔ (⟨k, 0, t, u, l.map erN⟩ : Nd) = ⟨k', 0, t', u', l'.map erN⟩)) ?_ fun b hb => .some hb
      refine Tot.iteb (fun c1 => ?_) fun c1 => .some ⟨fun e => (by cases e), fun e => by injection e with e1; rw [e1] at c1; simp at c1⟩
      refine Tot.iteb (fun c2 => ?_) fun c2 => .some ⟨fun e => (by cases e), fun e => by injection e with _ _ e3; rw [e3] at c2; simp at c2⟩
      refine Tot.iteb (fun c3 => ?_) fun c3 => .some ⟨fun e => (by cases e), fun e => by injection e with _ _ _ e4; rw [e4] at c3; simp at c3⟩
      simp only [beq_iff_eq, decide_eq_true_eq] at c1 c2 c3
      refine (i2 l l' (by simp only at h1; omega) (by simp only at h1; omega)).bind fun b hb => .some (hb.trans ⟨fun e => by rw [c1, c2, c3, e], fun e => by injection e⟩)
    · show Tot (slices_EqualFunc_L_parse_Node_L_parse_Node_parse_Node_parse_Node__Same_b _ n l l') _
      unfold slices_EqualFunc_L_parse_Node_L_parse_Node_parse_Node_parse_Node__Same_b
      have h1 := szL_ge l
      refine Tot.iteb (fun c1 => .some ⟨fun e => (by cases e), fun e => ?_⟩) fun c1 => ?_
      · have := congrArg List.length e
        rw [List.length_map, List.length_map] at this
        rw [this] at c1
        simp at c1
      · have hl : l.length = l'.length := by
          simp only [bne_eq_false_iff_eq] at c1
          omega
        refine (EqF_l1 hl (by omega) (fun x hx y => i1 x y (by have := sz_mem hx; omega) (by have := sz_mem hx; omega)) n 0 (by omega) (by omega) rfl).bind fun r hr => ?_
        cases r with
        | inl _ => exact .some ⟨fun _ => hr, fun _ => rfl⟩
        | inr b => exact .some ⟨fun e => (by rw [hr.1] at e; cases e), fun e => absurd e hr.2⟩
theorem Same_ok {n : Nat} {x y : Nd} (h : 2 * sz x + 1 ≤ n) (hb : sz x ≤ 1000000) : Tot (parse_Same n x y) fun b => (b = true ↔ erN x = erN y) := (Same_grp_ok n).1 x y h hb
end Go.Proofs.YtolhahlnccekcaaDoor.Abs
