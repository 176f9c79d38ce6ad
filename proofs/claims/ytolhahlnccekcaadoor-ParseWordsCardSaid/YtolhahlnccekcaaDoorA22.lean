/-
  Own helper theorems of no one function: where ways meet; loops; what is under a path.
-/
import Derived.Test.YtolhahlnccekcaaDoorA21
namespace Go.Proofs.YtolhahlnccekcaaDoor.Abs
open Go.RowKit

section
variable {P : Program} {N : Nat} {π : Pa} {k : Nat} {E : Env} {m : M} {Q : Exit → Nat → Env → M → Prop}
/-- where ways meet -/
theorem SW_join {x : Code} (J : Env → M → Prop) (h : SW P N π x k E m (thenQ (fun _ E' m' => J E' m') Q)) (h2 : ∀ k' E' m', J E' m' → (∀ t, wr x t = false → E' t = E t) → Q .normal k' E' m') : SW P N π x k E m Q := by
  intro hf c a w g1 g2 g3
  refine wp_mono (h hf c a w g1 g2 g3) fun e a' w' hp => ?_
  obtain ⟨c', k', E', m', q1, q2, q3, q4, q5, q6, q7⟩ := hp
  cases e with
  | normal => exact ⟨c', k', E', m', h2 k' E' m' q1 q7, q2, q3, q4, q5, q6, q7⟩
  | _ => exact ⟨c', k', E', m', q1, q2, q3, q4, q5, q6, q7⟩
/-- a loop: Inv is what holds at each round's head -/
theorem SW_rounds {body : Code} (Inv : Env → M → Prop) (μ : Env → M → Nat) (h0 : Inv E m)
    (step : ∀ (i : Nat) (E' : Env) (m' : M), Inv E' m' → (∀ t, wr body t = false → E' t = E t) → SW P N (i :: k :: π) body 0 E' m' (thenQ (fun _ E2 m2 => Inv E2 m2 ∧ μ E2 m2 < μ E' m') fun e _ E2 m2 => Q e (k + 1) E2 m2)) :
    SW P N π (.loop body) k E m Q := by
  refine SW_loop Inv μ h0 fun i E' m' hI hf => SW_mono (step i E' m' hI hf) fun e k2 E2 m2 h => ?_
  cases e <;> exact h

/-- slots and memory are told by facts from here on -/
theorem SW_gen {x : Code} (J : Env → M → Prop) (hJ : J E m) (h : ∀ E' m', J E' m' → SW P N π x k E' m' Q) : SW P N π x k E m Q := h E m hJ
theorem SW_mem {x : Code} (J : M → Prop) (hJ : J m) (h : ∀ m', J m' → SW P N π x k E m' Q) : SW P N π x k E m Q := h m hJ
/-- what isn't named yet is blank -/
def Fresh (m : M) (π : Pa) (k : Nat) : Prop := ∀ j, k ≤ j → ∀ id, (j :: π) <:+ id → m.blk id = none ∧ (∀ off, m.ver id off = 0) ∧ ∀ i, m.tok id i = false
theorem SW_fresh {x : Code} (h : Fresh m π k → SW P N π x k E m Q) : SW P N π x k E m Q := by
  intro hf c a w h1 h2 h3
  exact h (fun j hj id hid => ⟨h1.fresh_blk (h3 j hj id hid), (h1.ver0 id (h3 j hj id hid)).1, (h1.ver0 id (h3 j hj id hid)).2⟩) hf c a w h1 h2 h3
theorem Fresh.at_ {j : Nat} (h : Fresh m π k) (hj : k ≤ j) : m.blk (j :: π) = none ∧ (∀ off, m.ver (j :: π) off = 0) ∧ ∀ i, m.tok (j :: π) i = false := h j hj _ (List.suffix_refl _)

/-! what changes under a path is forgotten at a function's end -/
theorem back_self (q : Pa) (m : M) : m.back q m = m := by
  cases m; simp [M.back]
theorem back_set {q id : Pa} {m m' : M} {vs : List V} (h : q <:+ id) : m.back q (m'.set id vs) = m.back q m' := by
  have hs : q.isSuffixOf id = true := List.isSuffixOf_iff_suffix.2 h
  unfold M.back
  congr 1
  funext i
  show (if q.isSuffixOf i then m.blk i else if i = id then some vs else m'.blk i) = _
  split
  · rfl
  · rename_i hi
    rw [if_neg (by rintro rfl; exact hi hs)]
theorem back_tokset {q id : Pa} {m m' : M} {n : Nat} {b : Bool} (h : q <:+ id) : m.back q (m'.tokset id n b) = m.back q m' := by
  have hs : q.isSuffixOf id = true := List.isSuffixOf_iff_suffix.2 h
  unfold M.back
  congr 1
  funext i
  show (if q.isSuffixOf i then m.tok i else fun j => if i = id ∧ j = n then b else m'.tok i j) = _
  split
  · rfl
  · rename_i hi
    funext j
    rw [if_neg (by rintro ⟨rfl, _⟩; exact hi hs)]
theorem back_bump {q id : Pa} {m m' : M} {off : Nat} (h : q <:+ id) : m.back q (m'.bump id off) = m.back q m' := by
  have hs : q.isSuffixOf id = true := List.isSuffixOf_iff_suffix.2 h
  unfold M.back
  congr 1
  funext i
  show (if q.isSuffixOf i then m.ver i else fun o => if i = id ∧ o = off then m'.ver i o + 1 else m'.ver i o) = _
  split
  · rfl
  · rename_i hi
    funext j
    rw [if_neg (by rintro ⟨rfl, _⟩; exact hi hs)]
theorem suf_self {q : Pa} : q <:+ q := List.suffix_refl q
theorem suf_cons {q p : Pa} {n : Nat} (h : q <:+ p) : q <:+ (n :: p) := h.trans (List.suffix_cons n p)
def natOf : V → Nat
  | .lit (.int _ i) => i.toNat
  | _ => 0
@[go_sem] theorem natOf_nat {k : IntKind} {n : Nat} : natOf (.lit (.int k (n : Int))) = n := by simp [natOf]
/-- a list whose spare room is this function's own -/
def Mine (q : Pa) (m : M) (o : Own) : Prop := o = .exact ∨ ∃ id j, o = .st (.anon id j) ∧ m.tok id j = true ∧ q <:+ id
theorem Mine.exact {q : Pa} {m : M} : Mine q m .exact := .inl rfl
theorem Mine.app {q : Pa} {m : M} {o : Own} {rows : List (List V)} (h : Mine q m o) : appendable m o rows = true := by
  rcases h with rfl | ⟨id, j, rfl, ht, _⟩
  · rfl
  · show (rows.isEmpty || m.tok id j) = true
    rw [ht, Bool.or_true]
theorem Mine.set {q id : Pa} {m : M} {o : Own} {vs : List V} (h : Mine q m o) : Mine q (m.set id vs) o := h
theorem Mine.bump {q id : Pa} {m : M} {o : Own} {off : Nat} (h : Mine q m o) : Mine q (m.bump id off) o := h
theorem Mine.of {q : Pa} {m m2 : M} {o : Own} (h : Mine q m o) (ht : ∀ id j, m.tok id j = true → m2.tok id j = true) : Mine q m2 o := by
  rcases h with rfl | ⟨id, j, rfl, h1, h2⟩
  · exact .inl rfl
  · exact .inr ⟨id, j, rfl, ht id j h1, h2⟩
theorem Mine.next {q p : Pa} {m : M} {o : Own} (hp : q <:+ p) : Mine q ((m.drop o).tokset p 0 true) (.st (.anon p 0)) :=
  .inr ⟨p, 0, rfl, by show (if p = p ∧ 0 = 0 then true else _) = true; rw [if_pos ⟨rfl, rfl⟩], hp⟩
theorem Mine.back {q p : Pa} {m0 m : M} {o : Own} (h : Mine q m o) (hp : q <:+ p) : m0.back q ((m.drop o).tokset p 0 true) = m0.back q m := by
  rw [back_tokset hp]
  rcases h with rfl | ⟨id, j, rfl, _, hid⟩
  · rfl
  · exact back_tokset hid
theorem Mine.blk {q p id : Pa} {m : M} {o : Own} (h : Mine q m o) : ((m.drop o).tokset p 0 true).blk id = m.blk id := by
  rcases h with rfl | ⟨_, _, rfl, _, _⟩ <;> rfl
theorem drop_anon {m : M} {id : Pa} {j : Nat} : m.drop (.st (.anon id j)) = m.tokset id j false := _root_.id rfl
end
end Go.Proofs.YtolhahlnccekcaaDoor.Abs
