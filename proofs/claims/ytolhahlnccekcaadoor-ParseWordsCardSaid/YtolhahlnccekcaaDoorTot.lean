/-
  Own helper theorems of no one function: that a model gives something, and what holds of it.
-/
import Derived.Test.YtolhahlnccekcaaDoorS5
namespace Go.Proofs.YtolhahlnccekcaaDoor.Abs
open Go.RowKit
def Tot {α : Type} (o : Option α) (Q : α → Prop) : Prop := ∃ r, o = some r ∧ Q r
section
variable {α β : Type} {o : Option α} {Q P : α → Prop}
theorem Tot.some {r : α} (h : Q r) : Tot (some r) Q := ⟨r, rfl, h⟩
theorem Tot.mono (h : Tot o P) (k : ∀ x, P x → Q x) : Tot o Q := by obtain ⟨r, e, hr⟩ := h; exact ⟨r, e, k r hr⟩
theorem Tot.bind {f : α → Option β} {R : β → Prop} (h : Tot o P) (k : ∀ x, P x → Tot (f x) R) : Tot (o.bind f) R := by
  obtain ⟨r, e, hr⟩ := h; subst e; exact k r hr
theorem Tot.bind' {f : α → Option β} {R : β → Prop} (h : Tot o fun x => Tot (f x) R) : Tot (o.bind f) R := h.bind fun _ k => k
theorem Tot.eqn {v : α} {f : α → Option β} {R : β → Prop} (h : o = Option.some v) (k : Tot (f v) R) : Tot (o.bind f) R := by subst h; exact k
theorem Tot.need {c : Prop} [Decidable c] (hc : c) (h : Tot o Q) : Tot (need c o) Q := by rw [need_of hc]; exact h
theorem Tot.ite {c : Prop} [Decidable c] {a b : Option α} (h1 : c → Tot a Q) (h2 : ¬ c → Tot b Q) : Tot (if c then a else b) Q := by
  split
  · exact h1 ‹_›
  · exact h2 ‹_›
theorem Tot.iteb {b : Bool} {x y : Option α} (h1 : b = true → Tot x Q) (h2 : b = false → Tot y Q) : Tot (if b = true then x else y) Q := by
  cases b
  · exact h2 rfl
  · exact h1 rfl
theorem Tot.elim {γ : Type} {s : β ⊕ γ} {f : β → Option α} {g : γ → Option α} (h1 : ∀ x, s = .inl x → Tot (f x) Q) (h2 : ∀ x, s = .inr x → Tot (g x) Q) : Tot (s.elim f g) Q := by
  cases s
  · exact h1 _ rfl
  · exact h2 _ rfl
theorem Tot.idx {l : List α} {i : Int} (h0 : 0 ≤ i) (h1 : i < l.length) (k : ∀ x, l[i.toNat]? = Option.some x → Q x) : Tot (idxL l i) Q := by
  unfold idxL
  rw [if_pos h0]
  refine ⟨l[i.toNat]'(by omega), List.getElem?_eq_getElem (by omega), k _ (List.getElem?_eq_getElem (by omega))⟩
theorem Tot.get (h : Tot o Q) {r : α} (e : o = Option.some r) : Q r := by
  obtain ⟨x, e', hx⟩ := h; rw [e] at e'; cases e'; exact hx
theorem Tot.and (h : Tot o Q) (k : Tot o P) : Tot o fun x => Q x ∧ P x := by
  obtain ⟨x, e, hx⟩ := h; exact ⟨x, e, hx, k.get e⟩
end
theorem wrap64 {n : Int} (h1 : -9223372036854775808 ≤ n) (h2 : n ≤ 9223372036854775807) : IntKind.i64.wrap n = n := by
  rw [IntKind.wrap_i64]; omega
theorem take_step' {α : Type} {l : List α} {j : Nat} {x : α} (h : l[j]? = some x) : l.take (j + 1) = l.take j ++ [x] := by
  rw [List.take_add_one, h]; rfl
theorem takeWhile_at {α : Type} {p : α → Bool} {s : List α} {v : Nat} {x : α} (h : ∀ y ∈ s.take v, p y = true) (hx : s[v]? = some x) (hp : p x = false) : s.takeWhile p = s.take v := by
  obtain ⟨hv, rfl⟩ := List.getElem?_eq_some_iff.1 hx
  have h1 : (s.take v ++ s.drop v).takeWhile p = s.take v ++ (s.drop v).takeWhile p := List.takeWhile_append_of_pos h
  rw [List.take_append_drop] at h1
  rw [h1, List.drop_eq_getElem_cons hv, List.takeWhile_cons_of_neg (by simp [hp]), List.append_nil]
theorem find_at {α : Type} {p : α → Bool} {s : List α} {v : Nat} {x : α} (h : ∀ y ∈ s.take v, p y = false) (hx : s[v]? = some x) (hp : p x = true) : s.find? p = some x := by
  obtain ⟨hv, rfl⟩ := List.getElem?_eq_some_iff.1 hx
  have h1 : (s.take v ++ s.drop v).find? p = (s.drop v).find? p := by
    rw [List.find?_append, List.find?_eq_none.2 (fun y hy => by simp [h y hy])]; rfl
  rw [List.take_append_drop] at h1
  rw [h1, List.drop_eq_getElem_cons hv, List.find?_cons_of_pos (by simp [hp])]
theorem takeWhile_whole {α : Type} {p : α → Bool} {s : List α} (h : ∀ y ∈ s, p y = true) : s.takeWhile p = s := by
  have := List.takeWhile_append_of_pos (l₂ := []) h
  simpa using this
end Go.Proofs.YtolhahlnccekcaaDoor.Abs
