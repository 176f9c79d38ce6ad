/-
  Own helper theorems of no one function: what the written models of functions are made of, and rules for their walks.
-/
import Derived.Test.YtolhahlnccekcaaDoorS1
namespace Go.Proofs.YtolhahlnccekcaaDoor.Abs
open Go.RowKit

/-! the parts of a model -/
def need {α : Type} (p : Prop) [Decidable p] (x : Option α) : Option α := if p then x else none
theorem need_some {α : Type} {p : Prop} [Decidable p] {x : Option α} {r : α} (h : need p x = some r) : p ∧ x = some r := by
  unfold need at h
  split at h
  · rename_i hp; exact ⟨hp, h⟩
  · cases h
theorem need_of {α : Type} {p : Prop} [Decidable p] {x : Option α} (hp : p) : need p x = x := if_pos hp
theorem bind_some {α β : Type} {x : Option α} {f : α → Option β} {r : β} (h : x.bind f = some r) : ∃ a, x = some a ∧ f a = some r := Option.bind_eq_some_iff.1 h
theorem bool_or (b : Bool) : b = true ∨ b = false := by cases b <;> simp
def idxL {α : Type} (l : List α) (i : Int) : Option α := if 0 ≤ i then l[i.toNat]? else none
theorem idxL_some {α : Type} {l : List α} {i : Int} {x : α} (h : idxL l i = some x) : 0 ≤ i ∧ i < l.length ∧ l[i.toNat]? = some x := by
  unfold idxL at h
  split at h
  · rename_i h0
    obtain ⟨h1, _⟩ := List.getElem?_eq_some_iff.1 h
    exact ⟨h0, by omega, h⟩
  · cases h
theorem idxL_nat {α : Type} {l : List α} {i : Nat} : idxL l (i : Int) = l[i]? := by
  unfold idxL
  rw [if_pos (by omega), Int.toNat_natCast]
theorem ite_t {α : Type} {b : Bool} {x y : α} {r : α} (hb : b = true) (h : (if b = true then x else y) = r) : x = r := by rw [hb] at h; exact h
theorem ite_f {α : Type} {b : Bool} {x y : α} {r : α} (hb : b = false) (h : (if b = true then x else y) = r) : y = r := by rw [hb] at h; exact h
theorem some_eq {α : Type} {x y : α} (h : some x = some y) : x = y := by injection h

section
variable {P : Program} {N : Nat} {π : Pa} {k : Nat} {E : Env} {m : M} {Q : Exit → Nat → Env → M → Prop} {q p : Pa} {f : FuncId} {args : List V} {R : V → M → Prop}
theorem least {p : Nat → Prop} (h : ∃ c, p c) : ∃ c, p c ∧ ∀ d, p d → c ≤ d := by
  obtain ⟨c, hc⟩ := h
  induction c using Nat.strongRecOn with
  | _ c ih =>
    by_cases hx : ∃ d, d < c ∧ p d
    · obtain ⟨d, hd, hp⟩ := hx; exact ih d hd hp
    · exact ⟨c, hc, fun d hd => Nat.le_of_not_lt fun hlt => hx ⟨d, hlt, hd⟩⟩
/-- a loop whose rounds are counted down -/
theorem SW_count {body : Code} (Inv : Nat → Env → M → Prop) (c0 : Nat) (h0 : Inv c0 E m)
    (step : ∀ (i c : Nat) (E' : Env) (m' : M), Inv c E' m' → (∀ t, wr body t = false → E' t = E t) → SW P N (i :: k :: π) body 0 E' m' (thenQ (fun _ E2 m2 => ∃ c', c' < c ∧ Inv c' E2 m2) fun e _ E2 m2 => Q e (k + 1) E2 m2)) :
    SW P N π (.loop body) k E m Q := by
  have hμ : ∀ (E : Env) (m : M), ∃ c, (∃ c', Inv c' E m) → Inv c E m ∧ ∀ d, Inv d E m → c ≤ d := by
    intro E m
    by_cases h : ∃ c', Inv c' E m
    · obtain ⟨c, h1, h2⟩ := least h; exact ⟨c, fun _ => ⟨h1, h2⟩⟩
    · exact ⟨0, fun h' => absurd h' h⟩
  refine SW_rounds (fun E m => ∃ c, Inv c E m) (fun E m => Classical.choose (hμ E m)) ⟨c0, h0⟩ fun i E' m' hI hf => ?_
  obtain ⟨h1, h2⟩ := Classical.choose_spec (hμ E' m') hI
  refine SW_mono (step i _ E' m' h1 hf) fun e k2 E2 m2 h => ?_
  cases e with
  | normal =>
    obtain ⟨c', hc, hI2⟩ := h
    obtain ⟨h3, h4⟩ := Classical.choose_spec (hμ E2 m2) ⟨c', hI2⟩
    exact ⟨⟨c', hI2⟩, Nat.lt_of_le_of_lt (h4 c' hI2) hc⟩
  | _ => exact h
/-- a block that is there lies apart from what is made now -/
theorem SC.apart {cs : List V} (hm : m.blk p = some cs) (h : ¬ q <:+ p → SC P f args q m R) : SC P f args q m R := by
  intro c xs w h1 h2 h3
  refine h (fun hs => ?_) c xs w h1 h2 h3
  have := h1.fresh_blk (h3 p hs)
  rw [hm] at this; cases this
theorem pa1 (hp : ¬ q <:+ p) {a : Nat} : (a :: q = p) = False := eq_false fun h => hp (h ▸ suf_cons suf_self)
theorem pa2 (hp : ¬ q <:+ p) {a b : Nat} : (a :: b :: q = p) = False := eq_false fun h => hp (h ▸ suf_cons (suf_cons suf_self))
theorem pa3 (hp : ¬ q <:+ p) {a b c : Nat} : (a :: b :: c :: q = p) = False := eq_false fun h => hp (h ▸ suf_cons (suf_cons (suf_cons suf_self)))
theorem pa4 (hp : ¬ q <:+ p) {a b c d : Nat} : (a :: b :: c :: d :: q = p) = False := eq_false fun h => hp (h ▸ suf_cons (suf_cons (suf_cons (suf_cons suf_self))))
theorem pa5 (hp : ¬ q <:+ p) {a b c d e : Nat} : (a :: b :: c :: d :: e :: q = p) = False := eq_false fun h => hp (h ▸ suf_cons (suf_cons (suf_cons (suf_cons (suf_cons suf_self)))))
theorem pb1 (hp : ¬ q <:+ p) {a : Nat} : (p = a :: q) = False := eq_false fun h => hp (h ▸ suf_cons suf_self)
theorem pb2 (hp : ¬ q <:+ p) {a b : Nat} : (p = a :: b :: q) = False := eq_false fun h => hp (h ▸ suf_cons (suf_cons suf_self))
theorem pb3 (hp : ¬ q <:+ p) {a b c : Nat} : (p = a :: b :: c :: q) = False := eq_false fun h => hp (h ▸ suf_cons (suf_cons (suf_cons suf_self)))
theorem pb4 (hp : ¬ q <:+ p) {a b c d : Nat} : (p = a :: b :: c :: d :: q) = False := eq_false fun h => hp (h ▸ suf_cons (suf_cons (suf_cons (suf_cons suf_self))))
theorem pb5 (hp : ¬ q <:+ p) {a b c d e : Nat} : (p = a :: b :: c :: d :: e :: q) = False := eq_false fun h => hp (h ▸ suf_cons (suf_cons (suf_cons (suf_cons (suf_cons suf_self)))))
@[go_sem] theorem sf1 {a : Nat} : (q <:+ a :: q) = True := eq_true (suf_cons suf_self)
@[go_sem] theorem sf2 {a b : Nat} : (q <:+ a :: b :: q) = True := eq_true (suf_cons (suf_cons suf_self))
@[go_sem] theorem sf3 {a b c : Nat} : (q <:+ a :: b :: c :: q) = True := eq_true (suf_cons (suf_cons (suf_cons suf_self)))
@[go_sem] theorem sf4 {a b c d : Nat} : (q <:+ a :: b :: c :: d :: q) = True := eq_true (suf_cons (suf_cons (suf_cons (suf_cons suf_self))))
@[go_sem] theorem sf5 {a b c d e : Nat} : (q <:+ a :: b :: c :: d :: e :: q) = True := eq_true (suf_cons (suf_cons (suf_cons (suf_cons (suf_cons suf_self)))))
end

/-! rows of bytes -/
@[go_sem] theorem byteRows_len {l : Str} : (byteRows l).length = l.length := by simp [byteRows]
@[go_sem] theorem byteRows_get {l : Str} {i : Nat} : (byteRows l)[i]? = (l[i]?).map fun b => [V.lit (.int .u8 (b.toNat : Int))] := by simp [byteRows]
@[go_sem] theorem byteRows_all {l : Str} : (∀ r ∈ byteRows l, r.length = 1) = True := by
  apply eq_true
  intro r hr
  obtain ⟨b, _, rfl⟩ := List.mem_map.1 hr
  rfl
@[go_sem] theorem nat0 : ((0 : Nat) : Int) = 0 := _root_.id rfl
@[go_sem] theorem int0 : Int.toNat 0 = 0 := _root_.id rfl
attribute [go_sem] Nat.zero_le Nat.zero_ne_one Nat.one_ne_zero Nat.le_refl Int.le_refl and_self
end Go.Proofs.YtolhahlnccekcaaDoor.Abs
