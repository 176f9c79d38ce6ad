/-
  Own helper theorems of no one function: what an operation does, seen from above (stepOp), and that it is so.
-/
import Derived.Test.YtolhahlnccekcaaDoorPsA6
namespace Go.Proofs.YtolhahlnccekcaaDoor.Abs
open Go.RowKit

abbrev Env := Nat → V
def upd (E : Env) (d : Nat) (v : V) : Env := fun t => if t = d then v else E t
def putE (d : Option Nat) (v : V) (E : Env) : Env := match d with | some d => upd E d v | none => E

/-- a value of one cell, or of none, as it is laid down in the text -/
def of1 : Value → V
  | .slice .none 0 0 => .list .exact []
  | v => .lit v
def ofV : Value → V
  | .agg cs => if cs.toList.all (fun u => u.oneCell') then .agg (cs.toList.map of1) else .lit (.agg cs)
  | v => of1 v
def ev (m : M) (E : Env) : Operand → V
  | .tmp t => E t
  | .const v => ofV v
  | .global g => m.gl g
  | .func f => .fn (.func f) [] []

structure EnvOk (c : Conc) (E : Env) (a : Act) (N : Nat) : Prop where
  size : N ≤ a.tmps.size
  at_ : ∀ t, CR c [E t] [a.tmps.getD t undef]

section
variable {c c' : Conc} {m m' : M} {w w' : World} {E : Env} {a : Act} {N : Nat}

theorem of1_ok (c : Conc) (v : Value) : CR c [of1 v] [v] := by
  unfold of1
  split
  · exact .list (es := []) (sz := 1) .nil (by simp) (by decide) (Nat.le_refl _) (by decide) (by simp) (fun h => by simp at h) (by simp) ⟨rfl, fun _ h => by cases h⟩ .nil
  · exact .lit .nil
theorem ofs_ok (c : Conc) (vs : List Value) : CR c (vs.map of1) vs := by
  induction vs with
  | nil => exact .nil
  | cons v vs ih => exact (of1_ok c v).cons ih
theorem ofV_ok (c : Conc) (v : Value) : CR c [ofV v] [v] := by
  unfold ofV
  split
  · rename_i cs
    split
    · rename_i h
      have := CR.agg (us := cs.toList.map of1) (xs := cs.toList) (ofs_ok c cs.toList) (List.all_eq_true.1 h) .nil
      simpa using this
    · exact .lit .nil
  · exact of1_ok c v
theorem EnvOk.mono (hl : Le c c') (h : EnvOk c E a N) : EnvOk c' E a N := ⟨h.size, fun t => (h.at_ t).mono hl⟩
theorem EnvOk.put (h : EnvOk c E a N) {v : V} {x : Value} (hx : CR c [v] [x]) {d : Option Nat} (hd : ∀ i, d = some i → i < N) : EnvOk c (putE d v E) (a.put d x) N := by
  cases d with
  | none => exact h
  | some d =>
    have hdn := hd d rfl
    have hs := h.size
    refine ⟨by simpa [Act.put] using hs, fun t => ?_⟩
    show CR c [if t = d then v else E t] [(a.tmps.setIfInBounds d x).getD t undef]
    by_cases e : t = d
    · subst e
      rw [if_pos rfl]
      have : (a.tmps.setIfInBounds t x).getD t undef = x := by simp [show t < a.tmps.size by omega]
      rw [this]; exact hx
    · rw [if_neg e]
      have : (a.tmps.setIfInBounds d x).getD t undef = a.tmps.getD t undef := by simp [Array.getElem?_setIfInBounds_ne (fun e2 => e e2.symm)]
      rw [this]; exact h.at_ t
theorem EnvOk.ev (h : EnvOk c E a N) (hR : Rep c m w) (x : Operand) : CR c [ev m E x] [a.eval x] := by
  cases x with
  | tmp t => exact h.at_ t
  | const v => exact ofV_ok c v
  | global g => exact hR.gl g
  | func f => exact .fn .nil .nil .nil

/-- the cells of a value -/
def V.cells : V → List V
  | .agg vs => vs
  | v => [v]
/-- a value that is one cell, to be seen from above -/
def V.one : V → Bool
  | .lit v => v.oneCell'
  | .ptr _ _ | .list _ _ | .eptr _ _ _ | .arr _ _ _ _ | .fn _ _ _ => true
  | _ => false
def V.cellsOk : V → Bool
  | .agg _ => true
  | v => v.one
theorem V.one_ok {v : V} {x : Value} (h : CR c [v] [x]) (ho : v.one = true) : x.oneCell' = true := by
  cases h <;> first | exact ho | rfl | cases ho
theorem cells_ok {v : V} {x : Value} (h : CR c [v] [x]) (ho : v.cellsOk = true) : CR c v.cells x.cells.toList ∧ ∀ u ∈ x.cells.toList, u.oneCell' = true := by
  cases v with
  | agg vs =>
    obtain ⟨xs, rfl, h1, h2⟩ := h.inv_agg
    exact ⟨by simpa [Value.cells, V.cells] using h1, by simpa [Value.cells] using h2⟩
  | top => cases ho
  | tup vs => cases ho
  | _ =>
    have h1 := V.one_ok h ho
    have hc : x.cells.toList = [x] := by cases x <;> first | rfl | cases h1
    rw [hc]
    exact ⟨h, by simpa using h1⟩

/-! ### operators -/
/-- an effect-free computation's answer -/
def pureS {α : Type} (P : Program) : Sem α → Option α
  | .pure a => some a
  | .program k => pureS P (k P)
  | _ => none
theorem pureS_run {α : Type} {P : Program} {s : Sem α} {r : α} (h : pureS P s = some r) (w : World) : s.run P w = .ok r w := by
  induction s with
  | pure a => simp only [pureS, Option.some.injEq] at h; subst h; rfl
  | program k ih => exact ih P h
  | _ => cases h

/-- two operands' answer: C is what must be of it -/
def sbin (P : Program) (op : BinOp) (T : TypeId) (x y : Operand) (u v : V) (C : V → Prop) : Prop :=
  match op, u, v with
  | .add, .lit (.int k a), .lit (.int k' b) => k = k' ∧ C (.lit (.int k (k.wrap (a + b))))
  | .sub, .lit (.int k a), .lit (.int k' b) => k = k' ∧ C (.lit (.int k (k.wrap (a - b))))
  | .mul, .lit (.int k a), .lit (.int k' b) => k = k' ∧ C (.lit (.int k (k.wrap (a * b))))
  | .quo, .lit (.int k a), .lit (.int k' b) => k = k' ∧ b ≠ 0 ∧ C (.lit (.int k (k.wrap (a.tdiv b))))
  | .rem, .lit (.int k a), .lit (.int k' b) => k = k' ∧ b ≠ 0 ∧ C (.lit (.int k (a.tmod b)))
  | .shl, .lit (.int k a), .lit (.int _ b) => 0 ≤ b ∧ C (.lit (.int k (k.wrap (a * 2 ^ (min b.toNat k.bits)))))
  | .shr, .lit (.int k a), .lit (.int _ b) => 0 ≤ b ∧ C (.lit (.int k (a.fdiv (2 ^ (min b.toNat k.bits)))))
  | .and, .lit (.int k a), .lit (.int k' b) => k = k' ∧ C (.lit (.int k (k.wrap (BitVec.ofInt k.bits a &&& BitVec.ofInt k.bits b).toNat)))
  | .or, .lit (.int k a), .lit (.int k' b) => k = k' ∧ C (.lit (.int k (k.wrap (BitVec.ofInt k.bits a ||| BitVec.ofInt k.bits b).toNat)))
  | .xor, .lit (.int k a), .lit (.int k' b) => k = k' ∧ C (.lit (.int k (k.wrap (BitVec.ofInt k.bits a ^^^ BitVec.ofInt k.bits b).toNat)))
  | .andNot, .lit (.int k a), .lit (.int k' b) => k = k' ∧ C (.lit (.int k (k.wrap (BitVec.ofInt k.bits a &&& ~~~ BitVec.ofInt k.bits b).toNat)))
  | .eql, .lit (.int k a), .lit (.int k' b) => k = k' ∧ C (.lit (.bool (a == b)))
  | .neq, .lit (.int k a), .lit (.int k' b) => k = k' ∧ C (.lit (.bool (a != b)))
  | .lss, .lit (.int k a), .lit (.int k' b) => k = k' ∧ C (.lit (.bool (decide (a < b))))
  | .leq, .lit (.int k a), .lit (.int k' b) => k = k' ∧ C (.lit (.bool (decide (a ≤ b))))
  | .gtr, .lit (.int k a), .lit (.int k' b) => k = k' ∧ C (.lit (.bool (decide (a > b))))
  | .geq, .lit (.int k a), .lit (.int k' b) => k = k' ∧ C (.lit (.bool (decide (a ≥ b))))
  | .add, .lit (.string a), .lit (.string b) => a.size + b.size ≤ 4611686018427387904 ∧ C (.lit (.string (a ++ b)))
  | .eql, .lit (.string a), .lit (.string b) => C (.lit (.bool (a.toList == b.toList)))
  | .neq, .lit (.string a), .lit (.string b) => C (.lit (.bool (!(a.toList == b.toList))))
  | op, .lit a, .lit b => ∃ r, pureS P (do eqGuard op T x y a b; binOp op T a b) = some r ∧ C (.lit r)
  | op, .agg us, .agg vs => ∃ (xs ys : List Value) (r : Value), us = xs.map V.lit ∧ vs = ys.map V.lit ∧ pureS P (do eqGuard op T x y (.agg xs.toArray) (.agg ys.toArray); binOp op T (.agg xs.toArray) (.agg ys.toArray)) = some r ∧ C (.lit r)
  | _, _, _ => False

theorem CR.lits {xs ys : List Value} (h : CR c (xs.map V.lit) ys) : ys = xs := by
  induction xs generalizing ys with
  | nil => exact h.inv_nil
  | cons x xs ih =>
    obtain ⟨y, ys, rfl, h1, h2⟩ := h.uncons
    rw [ih h2, h1.inv_lit]
theorem run_str_add (P : Program) (T : TypeId) (x y : Operand) {a b : ByteArray} (w : World) (h : a.size + b.size ≤ 4611686018427387904) : (do eqGuard .add T x y (.string a) (.string b); binOp .add T (.string a) (.string b) : Sem Value).run P w = .ok (.string (a ++ b)) w := by
  have h1 : ¬ (9223372036854775807 < (a.size : Int) + (b.size : Int)) := by omega
  have : IntKind.i64.max = 9223372036854775807 := by decide
  simp [eqGuard, binOp, Op.stringOp, this, h1]
theorem sbin_ok {P : Program} {op : BinOp} {T : TypeId} {x y : Operand} {u v : V} {C : V → Prop} (h : sbin P op T x y u v C) {a b : Value} (hu : CR c [u] [a]) (hv : CR c [v] [b]) (w : World) :
    ∃ r, C r ∧ ∃ z, (do eqGuard op T x y a b; binOp op T a b : Sem Value).run P w = .ok z w ∧ CR c [r] [z] := by
  unfold sbin at h
  split at h
  all_goals first
    | exact h.elim
    | (obtain rfl := hu.inv_lit
       obtain rfl := hv.inv_lit
       first
         | (refine ⟨_, h, _, ?_, .lit .nil⟩
            simp [eqGuard, binOp, Op.stringOp]
            done)
         | (have hr := h.choose_spec.1
            exact ⟨_, h.choose_spec.2, _, pureS_run hr w, .lit .nil⟩)
         | (have h1 := h.1
            have h2 := h.2
            first
              | (subst h1
                 refine ⟨_, h2, _, ?_, .lit .nil⟩
                 simp [eqGuard, binOp, Op.intArith, Op.intBits, Op.intCmp]
                 done)
              | (subst h1
                 have h3 := h2.1
                 refine ⟨_, h2.2, _, ?_, .lit .nil⟩
                 simp [eqGuard, binOp, Op.intDiv, h3]
                 done)
              | (refine ⟨_, h2, _, ?_, .lit .nil⟩
                 have h3 := Int.not_lt.2 h1
                 simp [eqGuard, binOp, Op.shift, h3]
                 done)
              | (refine ⟨_, h2, _, ?_, .lit .nil⟩
                 exact run_str_add P T x y w h1)))
    | (obtain ⟨xs, ys, r, rfl, rfl, hr, hC⟩ := h
       obtain ⟨xs', rfl, h1, _⟩ := hu.inv_agg
       obtain ⟨ys', rfl, h2, _⟩ := hv.inv_agg
       rw [h1.lits, h2.lits]
       exact ⟨_, hC, r, pureS_run hr w, .lit .nil⟩)
end
end Go.Proofs.YtolhahlnccekcaaDoor.Abs
