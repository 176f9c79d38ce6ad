/-
  Own helper theorems of no one function: the equations by which a drawn region is evaluated.
-/
import Derived.Test.YtolhahlnccekcaaDoorA20
namespace Go.Proofs.YtolhahlnccekcaaDoor.Abs
open Go.RowKit

/-- a value that is told by an equation -/
def dt (S : V → Prop) (C : V → Prop) : Prop := ∃ v, S v ∧ C v
@[go_sem] theorem dt_eq {a : V} {C : V → Prop} : dt (fun v => a = v) C = C a := propext ⟨fun ⟨_, h, hc⟩ => h ▸ hc, fun h => ⟨a, rfl, h⟩⟩
@[go_sem] theorem dt_and {p : Prop} {S C : V → Prop} : dt (fun v => p ∧ S v) C = (p ∧ dt S C) := propext ⟨fun ⟨v, ⟨hp, hs⟩, hc⟩ => ⟨hp, v, hs, hc⟩, fun ⟨hp, v, hs, hc⟩ => ⟨v, ⟨hp, hs⟩, hc⟩⟩
@[go_sem] theorem dt_ex {q : Prop} {S : q → V → Prop} {C : V → Prop} : dt (fun v => ∃ h, S h v) C = (∃ h, dt (S h) C) := propext ⟨fun ⟨v, ⟨h, hs⟩, hc⟩ => ⟨h, v, hs, hc⟩, fun ⟨h, v, hs, hc⟩ => ⟨v, ⟨h, hs⟩, hc⟩⟩
@[congr] theorem dt_congr {S S' : V → Prop} {C : V → Prop} (h : ∀ v, S v = S' v) : dt S C = dt S' C := by rw [show S = S' from funext h]
/-- the same with a memory -/
def dm (S : V → M → Prop) (m : M) (C : V → M → Prop) : Prop := ∃ v m', S v m' ∧ m'.gl = m.gl ∧ C v m'
@[go_sem] theorem dm_eq {a : V} {b m : M} {C : V → M → Prop} : dm (fun v m' => a = v ∧ b = m') m C = (b.gl = m.gl ∧ C a b) := propext ⟨fun ⟨_, _, ⟨h1, h2⟩, hg, hc⟩ => by subst h1 h2; exact ⟨hg, hc⟩, fun ⟨hg, h⟩ => ⟨a, b, ⟨rfl, rfl⟩, hg, h⟩⟩
@[go_sem] theorem dm_and {p : Prop} {S : V → M → Prop} {m : M} {C : V → M → Prop} : dm (fun v m' => p ∧ S v m') m C = (p ∧ dm S m C) := propext ⟨fun ⟨v, m', ⟨hp, hs⟩, hc⟩ => ⟨hp, v, m', hs, hc⟩, fun ⟨hp, v, m', hs, hc⟩ => ⟨v, m', ⟨hp, hs⟩, hc⟩⟩
@[congr] theorem dm_congr {S S' : V → M → Prop} {m : M} {C : V → M → Prop} (h : ∀ v m', S v m' = S' v m') : dm S m C = dm S' m C := by rw [show S = S' from funext fun v => funext fun m' => h v m']
/-- a call in a drawn region: a contract that tells result and memory -/
def dcall (P : Program) (f : V) (args : List V) (q : Pa) (m : M) (C : V → M → Prop) : Prop := ∃ v m', sfn P f args q m (fun r m1 => r = v ∧ m1 = m') ∧ m'.gl = m.gl ∧ C v m'
theorem dcall_of {P : Program} {g : FuncId} {first captured args : List V} {q : Pa} {m m' : M} {v : V} {C : V → M → Prop} (h : SC P g (first ++ args ++ captured) q m (fun r m1 => r = v ∧ m1 = m')) (hg : m'.gl = m.gl) (hc : C v m') : dcall P (.fn (.func g) first captured) args q m C := ⟨v, m', h, hg, hc⟩
@[congr] theorem dcall_congr {P : Program} {f f' : V} {as as' : List V} {q : Pa} {m : M} {C : V → M → Prop} (h1 : f = f') (h2 : as = as') : dcall P f as q m C = dcall P f' as' q m C := by rw [h1, h2]

def dpick (P : Program) (full : List Oper) (π : Pa) (k0 : Nat) (K : Nat → Env → M → Prop) (i f : Nat) (rest : List (Nat × Nat)) (hist : List M) (E : Env) (m : M) (o : Oper) : Prop :=
  match o.guard with
  | none => dop P o.op o f ((k0 + i) :: π) hist E m (fun v m' hist' => PD P full π k0 K rest hist' (putE o.dst v E) m')
  | some (j, b) =>
    match (full[j]?).bind (·.dst) with
    | none => False
    | some d =>
      match E d with
      | .lit (.bool t) => if t = b then dop P o.op o f ((k0 + i) :: π) hist E m (fun v m' hist' => PD P full π k0 K rest hist' (putE o.dst v E) m') else PD P full π k0 K rest (if isEf o.op then m :: hist else hist) (putE o.dst (.lit undef) E) m
      | .lit (.tuple _) => PD P full π k0 K rest (if isEf o.op then m :: hist else hist) (putE o.dst (.lit undef) E) m
      | _ => False
def nthO (os : List Oper) (i : Nat) (C : Oper → Prop) : Prop := match os[i]? with | some o => C o | none => False
@[go_sem] theorem nthO_zero {o : Oper} {os : List Oper} {C : Oper → Prop} : nthO (o :: os) 0 C = C o := _root_.id rfl
@[go_sem] theorem nthO_succ {o : Oper} {os : List Oper} {i : Nat} {C : Oper → Prop} : nthO (o :: os) (i + 1) C = nthO os i C := by
  unfold nthO; rw [List.getElem?_cons_succ]
@[congr] theorem nthO_congr {os : List Oper} {i : Nat} {C : Oper → Prop} : nthO os i C = nthO os i C := _root_.id rfl
@[congr] theorem PD_congr {P : Program} {full : List Oper} {π : Pa} {k0 : Nat} {K : Nat → Env → M → Prop} {ord : List (Nat × Nat)} {hist : List M} {E : Env} {m : M} : PD P full π k0 K ord hist E m = PD P full π k0 K ord hist E m := _root_.id rfl
/-- what comes behind -/
def don (P : Program) (full : List Oper) (π : Pa) (k0 : Nat) (K : Nat → Env → M → Prop) (rest : List (Nat × Nat)) (hist : List M) (E : Env) (m : M) (d : Option Nat) (v : V) : Prop := PD P full π k0 K rest hist (putE d v E) m
def donM (P : Program) (full : List Oper) (π : Pa) (k0 : Nat) (K : Nat → Env → M → Prop) (rest : List (Nat × Nat)) (hist : List M) (E : Env) (d : Option Nat) (v : V) (m : M) : Prop := PD P full π k0 K rest hist (putE d v E) m
def donL (P : Program) (T : TypeId) (u : V) (hist : List M) (C : V → Prop) (v : V) : Prop := (∀ m1 ∈ hist, sload P m1 T u (fun r => r = v)) ∧ C v
def dgon (P : Program) (full : List Oper) (π : Pa) (k0 : Nat) (K : Nat → Env → M → Prop) (i f : Nat) (rest : List (Nat × Nat)) (hist : List M) (E : Env) (m : M) (d : Option Nat) (op : Op) (ty : TypeId) (pos : String) (after : Array Edge) (b : Bool) (v : V) : Prop :=
  gsel v b (dpick P full π k0 K i f rest hist E m ⟨d, op, ty, pos, after, none⟩) (PD P full π k0 K rest (if isEf op then m :: hist else hist) (putE d (.lit undef) E) m)
section
variable {P : Program} {full : List Oper} {π : Pa} {k0 : Nat} {K : Nat → Env → M → Prop} {i f : Nat} {rest : List (Nat × Nat)} {hist : List M} {E : Env} {m : M} {d : Option Nat} {ty : TypeId} {pos : String} {after : Array Edge} {v : V}
@[go_sem] theorem pd_nil : PD P full π k0 K [] hist E m = K (k0 + full.length) E m := _root_.id rfl
@[go_sem] theorem pd_cons : PD P full π k0 K ((i, f) :: rest) hist E m = nthO full i (dpick P full π k0 K i f rest hist E m) := by
  simp only [PD, nthO]
  cases full[i]? with
  | none => rfl
  | some o => rfl
@[go_sem] theorem don_at : don P full π k0 K rest hist E m d v = PD P full π k0 K rest hist (putE d v E) m := _root_.id rfl
@[go_sem] theorem donM_at : donM P full π k0 K rest hist E d v m = PD P full π k0 K rest hist (putE d v E) m := _root_.id rfl
@[go_sem] theorem donL_nil {T : TypeId} {u : V} {C : V → Prop} : donL P T u [] C v = C v := by simp [donL]
@[go_sem] theorem donL_cons {T : TypeId} {u : V} {C : V → Prop} {m1 : M} {hs : List M} : donL P T u (m1 :: hs) C v = (sload P m1 T u (fun r => r = v) ∧ donL P T u hs C v) := by simp [donL, and_assoc]
@[go_sem] theorem dgon_tt {op : Op} : dgon P full π k0 K i f rest hist E m d op ty pos after true (.lit (.bool true)) = dpick P full π k0 K i f rest hist E m ⟨d, op, ty, pos, after, none⟩ := _root_.id rfl
@[go_sem] theorem dgon_ff {op : Op} : dgon P full π k0 K i f rest hist E m d op ty pos after false (.lit (.bool false)) = dpick P full π k0 K i f rest hist E m ⟨d, op, ty, pos, after, none⟩ := _root_.id rfl
@[go_sem] theorem dgon_tf {op : Op} : dgon P full π k0 K i f rest hist E m d op ty pos after false (.lit (.bool true)) = PD P full π k0 K rest (if isEf op then m :: hist else hist) (putE d (.lit undef) E) m := _root_.id rfl
@[go_sem] theorem dgon_ft {op : Op} : dgon P full π k0 K i f rest hist E m d op ty pos after true (.lit (.bool false)) = PD P full π k0 K rest (if isEf op then m :: hist else hist) (putE d (.lit undef) E) m := _root_.id rfl
@[go_sem] theorem dgon_undef {op : Op} {b : Bool} : dgon P full π k0 K i f rest hist E m d op ty pos after b (.lit undef) = PD P full π k0 K rest (if isEf op then m :: hist else hist) (putE d (.lit undef) E) m := _root_.id rfl
@[go_sem] theorem dp_guard {op : Op} {j : Nat} {b : Bool} : dpick P full π k0 K i f rest hist E m ⟨d, op, ty, pos, after, some (j, b)⟩ = gslot full j E (dgon P full π k0 K i f rest hist E m d op ty pos after b) := by
  unfold dpick gslot dgon gsel
  simp only
  cases (full[j]?).bind (·.dst) with
  | none => rfl
  | some d' =>
    simp only
    generalize E d' = v
    cases v with
    | lit u => cases u <;> rfl
    | _ => rfl
@[go_sem] theorem dp_load {T : TypeId} {x : Operand} : dpick P full π k0 K i f rest hist E m ⟨d, .load T x, ty, pos, after, none⟩ = dt (fun v => sload P m T (ev m E x) (fun r => r = v)) (donL P T (ev m E x) (hist.take f) (don P full π k0 K rest hist E m d)) := _root_.id rfl
@[go_sem] theorem dp_alloc {T : TypeId} : dpick P full π k0 K i f rest hist E m ⟨d, .alloc T, ty, pos, after, none⟩ = salloc (zcells P T) (fun zs => don P full π k0 K rest hist E (m.set ((k0 + i) :: π) (zs.map V.raw0)) d (.ptr ((k0 + i) :: π) 0)) := by
  apply propext
  show (∃ vs, zcells P T = some vs ∧ _) ↔ _
  unfold salloc
  constructor
  · rintro ⟨vs, h, hc⟩; rw [h]; exact hc
  · intro h
    cases hz : zcells P T with
    | none => rw [hz] at h; exact h.elim
    | some vs => rw [hz] at h; exact ⟨vs, rfl, h⟩
@[go_sem] theorem dp_box {T : TypeId} {x : Operand} : dpick P full π k0 K i f rest hist E m ⟨d, .box T x, ty, pos, after, none⟩ = ((ev m E x).cellsOk = true ∧ don P full π k0 K rest hist E (m.set ((k0 + i) :: π) ((ev m E x).cells.map V.raw0)) d (.ptr ((k0 + i) :: π) 0)) := _root_.id rfl
@[go_sem] theorem dp_move {x : Operand} : dpick P full π k0 K i f rest hist E m ⟨d, .move x, ty, pos, after, none⟩ = don P full π k0 K rest hist E m d (ev m E x) := dt_eq
@[go_sem] theorem dp_assign {x : Operand} : dpick P full π k0 K i f rest hist E m ⟨d, .assign x, ty, pos, after, none⟩ = don P full π k0 K rest hist E m d (ev m E x) := dt_eq
@[go_sem] theorem dp_makeFunc {g : Fn} {xs ys : Array Operand} : dpick P full π k0 K i f rest hist E m ⟨d, .makeFunc g xs ys, ty, pos, after, none⟩ = don P full π k0 K rest hist E m d (.fn g (xs.toList.map (ev m E)) (ys.toList.map (ev m E))) := dt_eq
@[go_sem] theorem dp_pick {t x y : Operand} : dpick P full π k0 K i f rest hist E m ⟨d, .pick t x y, ty, pos, after, none⟩ = dt (fun v => spick (ev m E t) (ev m E x) (ev m E y) (fun r => r = v)) (don P full π k0 K rest hist E m d) := _root_.id rfl
@[go_sem] theorem dp_build {T : TypeId} {ps : Array (Nat × Operand)} : dpick P full π k0 K i f rest hist E m ⟨d, .build T ps, ty, pos, after, none⟩ = dt (fun v => sbuild P T (ps.toList.map fun p => (p.1, ev m E p.2)) (fun r => r = v)) (don P full π k0 K rest hist E m d) := _root_.id rfl
@[go_sem] theorem dp_buildSlice {T : TypeId} {n : Nat} {ps : Array (Nat × Operand)} : dpick P full π k0 K i f rest hist E m ⟨d, .buildSlice T n ps, ty, pos, after, none⟩ = dt (fun v => sbuildSlice P T n (ps.toList.map fun p => (p.1, ev m E p.2)) (fun r => r = v)) (don P full π k0 K rest hist E m d) := _root_.id rfl
@[go_sem] theorem dp_nilCheck {x : Operand} : dpick P full π k0 K i f rest hist E m ⟨d, .nilCheck x, ty, pos, after, none⟩ = dt (fun v => snil (ev m E x) (fun r => r = v)) (don P full π k0 K rest hist E m d) := by
  have : ∀ v, pop P (.nilCheck x) (ev m E) (fun r => r = v) = snil (ev m E x) (fun r => r = v) := by
    intro v
    simp only [pop, snil]
    generalize ev m E x = u
    cases u <;> rfl
  show dt (fun v => pop P (.nilCheck x) (ev m E) (fun r => r = v)) _ = _
  rw [funext this]; rfl
@[go_sem] theorem dp_binOp {op : BinOp} {T T' : TypeId} {x y : Operand} : dpick P full π k0 K i f rest hist E m ⟨d, .binOp op T x y T', ty, pos, after, none⟩ = dt (fun v => sbin P op T x y (ev m E x) (ev m E y) (fun r => r = v)) (don P full π k0 K rest hist E m d) := _root_.id rfl
@[go_sem] theorem dp_unOp {op : UnOp} {T : TypeId} {x : Operand} : dpick P full π k0 K i f rest hist E m ⟨d, .unOp op T x, ty, pos, after, none⟩ = dt (fun v => sun op (ev m E x) (fun r => r = v)) (don P full π k0 K rest hist E m d) := _root_.id rfl
@[go_sem] theorem dp_convert {s t : TypeId} {x : Operand} : dpick P full π k0 K i f rest hist E m ⟨d, .convert s t x, ty, pos, after, none⟩ = dt (fun v => sconv P s t (ev m E x) (fun r => r = v)) (don P full π k0 K rest hist E m d) := _root_.id rfl
@[go_sem] theorem dp_slice {T : TypeId} {x : Operand} {lo hi : Option Operand} : dpick P full π k0 K i f rest hist E m ⟨d, .slice T x lo hi none, ty, pos, after, none⟩ = dt (fun v => sslice P T (ev m E x) (lo.map (ev m E)) (hi.map (ev m E)) (fun r => r = v)) (don P full π k0 K rest hist E m d) := _root_.id rfl
@[go_sem] theorem dp_fieldAddr {T g : Nat} {x : Operand} : dpick P full π k0 K i f rest hist E m ⟨d, .fieldAddr T x g, ty, pos, after, none⟩ = dt (fun v => sfieldA P T g (ev m E x) (fun r => r = v)) (don P full π k0 K rest hist E m d) := _root_.id rfl
@[go_sem] theorem dp_field {T g : Nat} {x : Operand} : dpick P full π k0 K i f rest hist E m ⟨d, .field T x g, ty, pos, after, none⟩ = dt (fun v => sfield P T g (ev m E x) (fun r => r = v)) (don P full π k0 K rest hist E m d) := _root_.id rfl
@[go_sem] theorem dp_indexAddr {T : TypeId} {x y : Operand} : dpick P full π k0 K i f rest hist E m ⟨d, .indexAddr T x y, ty, pos, after, none⟩ = dt (fun v => sindexA P T (ev m E x) (ev m E y) (fun r => r = v)) (don P full π k0 K rest hist E m d) := _root_.id rfl
@[go_sem] theorem dp_index {T : TypeId} {x y : Operand} : dpick P full π k0 K i f rest hist E m ⟨d, .index T x y, ty, pos, after, none⟩ = dt (fun v => sindex P T (ev m E x) (ev m E y) (fun r => r = v)) (don P full π k0 K rest hist E m d) := _root_.id rfl
@[go_sem] theorem dp_extract {t : Operand} {n : Nat} : dpick P full π k0 K i f rest hist E m ⟨d, .extract t n, ty, pos, after, none⟩ = dt (fun v => sextract (ev m E t) n (fun r => r = v)) (don P full π k0 K rest hist E m d) := by
  have : ∀ v, pop P (.extract t n) (ev m E) (fun r => r = v) = sextract (ev m E t) n (fun r => r = v) := by
    intro v
    simp only [pop, sextract]
    generalize ev m E t = u
    cases u with
    | tup vs => cases vs[n]? <;> rfl
    | _ => rfl
  show dt (fun v => pop P (.extract t n) (ev m E) (fun r => r = v)) _ = _
  rw [funext this]; rfl
@[go_sem] theorem dp_len {T : TypeId} {x : Operand} : dpick P full π k0 K i f rest hist E m ⟨d, .call ⟨.builtin .len, #[x], #[T]⟩, ty, pos, after, none⟩ = dt (fun v => slen P T (ev m E x) (fun r => r = v)) (don P full π k0 K rest hist E m d) := _root_.id rfl
@[go_sem] theorem dp_min {x y : Operand} {ts : Array TypeId} : dpick P full π k0 K i f rest hist E m ⟨d, .call ⟨.builtin .min, #[x, y], ts⟩, ty, pos, after, none⟩ = dt (fun v => sminmax false (ev m E x) (ev m E y) (fun r => r = v)) (don P full π k0 K rest hist E m d) := _root_.id rfl
@[go_sem] theorem dp_max {x y : Operand} {ts : Array TypeId} : dpick P full π k0 K i f rest hist E m ⟨d, .call ⟨.builtin .max, #[x, y], ts⟩, ty, pos, after, none⟩ = dt (fun v => sminmax true (ev m E x) (ev m E y) (fun r => r = v)) (don P full π k0 K rest hist E m d) := _root_.id rfl
@[go_sem] theorem dp_append {t u : TypeId} {s x : Operand} : dpick P full π k0 K i f rest hist E m ⟨d, .call ⟨.builtin .append, #[s, x], #[t, u]⟩, ty, pos, after, none⟩ = dm (fun v m' => sappend P ((k0 + i) :: π) m t u (ev m E s) (ev m E x) (fun r m1 => r = v ∧ m1 = m')) m (donM P full π k0 K rest (m :: hist) E d) := _root_.id rfl
@[go_sem] theorem dp_store {T : TypeId} {x y : Operand} : dpick P full π k0 K i f rest hist E m ⟨d, .store T x y, ty, pos, after, none⟩ = dm (fun v m' => sstore P m T (ev m E x) (ev m E y) (fun m1 => .lit undef = v ∧ m1 = m')) m (donM P full π k0 K rest (m :: hist) E d) := _root_.id rfl
@[go_sem] theorem dp_call {g : Operand} {xs : Array Operand} {ts : Array TypeId} : dpick P full π k0 K i f rest hist E m ⟨d, .call ⟨.value g, xs, ts⟩, ty, pos, after, none⟩ = dcall P (ev m E g) (xs.toList.map (ev m E)) ((k0 + i) :: π) m (donM P full π k0 K rest (m :: hist) E d) := by
  have : ∀ v m', stepOp P ⟨d, .call ⟨.value g, xs, ts⟩, ty, pos, after, none⟩ ((k0 + i) :: π) E m (fun r m1 => r = v ∧ m1 = m') = sfn P (ev m E g) (xs.toList.map (ev m E)) ((k0 + i) :: π) m (fun r m1 => r = v ∧ m1 = m') := by
    intro v m'
    simp only [stepOp, scall, sfn]
    generalize ev m E g = u
    cases u with
    | fn g _ _ => cases g <;> rfl
    | _ => rfl
  show (∃ v m', stepOp P ⟨d, .call ⟨.value g, xs, ts⟩, ty, pos, after, none⟩ ((k0 + i) :: π) E m (fun r m1 => r = v ∧ m1 = m') ∧ _) = _
  simp only [this]
  rfl
@[go_sem] theorem take_zero {hs : List M} : hs.take 0 = [] := List.take_zero
@[go_sem] theorem take_cons {m1 : M} {hs : List M} {n : Nat} : (m1 :: hs).take (n + 1) = m1 :: hs.take n := _root_.id rfl
end
end Go.Proofs.YtolhahlnccekcaaDoor.Abs
