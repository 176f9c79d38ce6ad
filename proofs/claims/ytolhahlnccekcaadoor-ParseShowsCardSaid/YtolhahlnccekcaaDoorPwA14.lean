/-
  Own helper theorems of no one function: the equations by which a region is evaluated.
-/
import Derived.Test.YtolhahlnccekcaaDoorPwA13
namespace Go.Proofs.YtolhahlnccekcaaDoor.Abs
open Go.RowKit

def gsel (v : V) (b : Bool) (yes no : Prop) : Prop :=
  match v with
  | .lit (.bool t) => if t = b then yes else no
  | .lit (.tuple _) => no
  | _ => False
def gslot (full : List Oper) (j : Nat) (E : Env) (C : V → Prop) : Prop :=
  match (full[j]?).bind (·.dst) with
  | some d => C (E d)
  | none => False
@[go_sem] theorem gslot_zero {os : List Oper} {d : Nat} {op : Op} {t : TypeId} {p : String} {a : Array Edge} {g : Option (Nat × Bool)} {E : Env} {C : V → Prop} : gslot (⟨some d, op, t, p, a, g⟩ :: os) 0 E C = C (E d) := _root_.id rfl
@[go_sem] theorem gslot_succ {o : Oper} {os : List Oper} {j : Nat} {E : Env} {C : V → Prop} : gslot (o :: os) (j + 1) E C = gslot os j E C := _root_.id rfl

/-! what comes behind an operation, under names: the evaluation doesn't look into it -/
def kon (P : Program) (full : List Oper) (π : Pa) (K : Nat → Env → M → Prop) (os : List Oper) (k : Nat) (d : Option Nat) (E : Env) (m : M) (v : V) : Prop := POps P full π K os (k + 1) (putE d v E) m
def konM (P : Program) (full : List Oper) (π : Pa) (K : Nat → Env → M → Prop) (os : List Oper) (k : Nat) (d : Option Nat) (E : Env) (m : M) : Prop := POps P full π K os (k + 1) (putE d (.lit undef) E) m
def konVM (P : Program) (full : List Oper) (π : Pa) (K : Nat → Env → M → Prop) (os : List Oper) (k : Nat) (d : Option Nat) (E : Env) (v : V) (m : M) : Prop := POps P full π K os (k + 1) (putE d v E) m
def konZ (P : Program) (full : List Oper) (π : Pa) (K : Nat → Env → M → Prop) (os : List Oper) (k : Nat) (d : Option Nat) (E : Env) (m : M) (zs : List V) : Prop := POps P full π K os (k + 1) (putE d (.ptr (k :: π) 0) E) (m.set (k :: π) (zs.map V.raw0))
def gon (P : Program) (full : List Oper) (π : Pa) (K : Nat → Env → M → Prop) (os : List Oper) (k : Nat) (d : Option Nat) (op : Op) (ty : TypeId) (pos : String) (after : Array Edge) (b : Bool) (E : Env) (m : M) (v : V) : Prop :=
  gsel v b (POps P full π K (⟨d, op, ty, pos, after, none⟩ :: os) k E m) (POps P full π K os (k + 1) (putE d (.lit undef) E) m)
section
variable {P : Program} {full os : List Oper} {π : Pa} {K : Nat → Env → M → Prop} {k : Nat} {E : Env} {m : M} {d : Option Nat} {ty : TypeId} {pos : String} {after : Array Edge} {g : Option (Nat × Bool)} {q : Pa}

@[go_sem] theorem kon_at {v : V} : kon P full π K os k d E m v = POps P full π K os (k + 1) (putE d v E) m := _root_.id rfl
@[go_sem] theorem konM_at : konM P full π K os k d E m = POps P full π K os (k + 1) (putE d (.lit undef) E) m := _root_.id rfl
@[go_sem] theorem konVM_at {v : V} : konVM P full π K os k d E v m = POps P full π K os (k + 1) (putE d v E) m := _root_.id rfl
@[go_sem] theorem konZ_at {zs : List V} : konZ P full π K os k d E m zs = POps P full π K os (k + 1) (putE d (.ptr (k :: π) 0) E) (m.set (k :: π) (zs.map V.raw0)) := _root_.id rfl
@[go_sem] theorem gon_tt {op : Op} : gon P full π K os k d op ty pos after true E m (.lit (.bool true)) = POps P full π K (⟨d, op, ty, pos, after, none⟩ :: os) k E m := _root_.id rfl
@[go_sem] theorem gon_ff {op : Op} : gon P full π K os k d op ty pos after false E m (.lit (.bool false)) = POps P full π K (⟨d, op, ty, pos, after, none⟩ :: os) k E m := _root_.id rfl
@[go_sem] theorem gon_tf {op : Op} : gon P full π K os k d op ty pos after false E m (.lit (.bool true)) = POps P full π K os (k + 1) (putE d (.lit undef) E) m := _root_.id rfl
@[go_sem] theorem gon_ft {op : Op} : gon P full π K os k d op ty pos after true E m (.lit (.bool false)) = POps P full π K os (k + 1) (putE d (.lit undef) E) m := _root_.id rfl
@[go_sem] theorem gon_undef {op : Op} {b : Bool} : gon P full π K os k d op ty pos after b E m (.lit undef) = POps P full π K os (k + 1) (putE d (.lit undef) E) m := _root_.id rfl
@[go_sem] theorem pops_nil : POps P full π K [] k E m = K k E m := _root_.id rfl
@[go_sem] theorem pops_guard {op : Op} {j : Nat} {b : Bool} : POps P full π K (⟨d, op, ty, pos, after, some (j, b)⟩ :: os) k E m =
    gslot full j E (gon P full π K os k d op ty pos after b E m) := by
  conv => lhs; unfold POps
  unfold gslot gon gsel
  simp only
  cases (full[j]?).bind (·.dst) with
  | none => rfl
  | some d' =>
    simp only
    generalize E d' = v
    cases v with
    | lit u => cases u <;> rfl
    | _ => rfl
@[go_sem] theorem pops_move {x : Operand} : POps P full π K (⟨d, .move x, ty, pos, after, none⟩ :: os) k E m = POps P full π K os (k + 1) (putE d (ev m E x) E) m := _root_.id rfl
@[go_sem] theorem pops_assign {x : Operand} : POps P full π K (⟨d, .assign x, ty, pos, after, none⟩ :: os) k E m = POps P full π K os (k + 1) (putE d (ev m E x) E) m := _root_.id rfl
def spick (u x y : V) (C : V → Prop) : Prop := match u with | .lit (.bool b) => C (if b then x else y) | _ => False
@[go_sem] theorem spick_tt {x y : V} {C : V → Prop} : spick (.lit (.bool true)) x y C = C x := _root_.id rfl
@[go_sem] theorem spick_ff {x y : V} {C : V → Prop} : spick (.lit (.bool false)) x y C = C y := _root_.id rfl
@[go_sem] theorem pops_pick {t x y : Operand} : POps P full π K (⟨d, .pick t x y, ty, pos, after, none⟩ :: os) k E m = spick (ev m E t) (ev m E x) (ev m E y) (kon P full π K os k d E m) := _root_.id rfl
def salloc (o : Option (List V)) (C : List V → Prop) : Prop := match o with | some zs => C zs | none => False
@[go_sem] theorem salloc_some {zs : List V} {C : List V → Prop} : salloc (some zs) C = C zs := _root_.id rfl
@[go_sem] theorem pops_alloc {T : TypeId} : POps P full π K (⟨d, .alloc T, ty, pos, after, none⟩ :: os) k E m = salloc (zcells P T) (konZ P full π K os k d E m) := by
  conv => lhs; unfold POps
  simp only [stepOp, salloc]
  cases zcells P T <;> rfl
@[go_sem] theorem pops_box {T : TypeId} {x : Operand} : POps P full π K (⟨d, .box T x, ty, pos, after, none⟩ :: os) k E m = ((ev m E x).cellsOk = true ∧ POps P full π K os (k + 1) (putE d (.ptr (k :: π) 0) E) (m.set (k :: π) ((ev m E x).cells.map V.raw0))) := _root_.id rfl
@[go_sem] theorem pops_build {T : TypeId} {ps : Array (Nat × Operand)} : POps P full π K (⟨d, .build T ps, ty, pos, after, none⟩ :: os) k E m = sbuild P T (ps.toList.map fun p => (p.1, ev m E p.2)) (kon P full π K os k d E m) := _root_.id rfl
@[go_sem] theorem pops_buildSlice {T : TypeId} {n : Nat} {ps : Array (Nat × Operand)} : POps P full π K (⟨d, .buildSlice T n ps, ty, pos, after, none⟩ :: os) k E m = sbuildSlice P T n (ps.toList.map fun p => (p.1, ev m E p.2)) (kon P full π K os k d E m) := _root_.id rfl
@[go_sem] theorem pops_load {T : TypeId} {x : Operand} : POps P full π K (⟨d, .load T x, ty, pos, after, none⟩ :: os) k E m = sload P m T (ev m E x) (kon P full π K os k d E m) := _root_.id rfl
@[go_sem] theorem pops_store {T : TypeId} {x y : Operand} : POps P full π K (⟨d, .store T x y, ty, pos, after, none⟩ :: os) k E m = sstore P m T (ev m E x) (ev m E y) (konM P full π K os k d E) := _root_.id rfl
def snil (v : V) (C : V → Prop) : Prop := match v with | .ptr id off => C (.ptr id off) | .eptr rows i off => C (.eptr rows i off) | _ => False
@[go_sem] theorem snil_ptr {id : Pa} {off : Nat} {C : V → Prop} : snil (.ptr id off) C = C (.ptr id off) := _root_.id rfl
@[go_sem] theorem pops_nilCheck {x : Operand} : POps P full π K (⟨d, .nilCheck x, ty, pos, after, none⟩ :: os) k E m = snil (ev m E x) (kon P full π K os k d E m) := by
  conv => lhs; unfold POps
  simp only [stepOp, snil]
  generalize ev m E x = v
  cases v <;> rfl
@[go_sem] theorem pops_binOp {op : BinOp} {T T' : TypeId} {x y : Operand} : POps P full π K (⟨d, .binOp op T x y T', ty, pos, after, none⟩ :: os) k E m = sbin P op T x y (ev m E x) (ev m E y) (kon P full π K os k d E m) := _root_.id rfl
@[go_sem] theorem pops_unOp {op : UnOp} {T : TypeId} {x : Operand} : POps P full π K (⟨d, .unOp op T x, ty, pos, after, none⟩ :: os) k E m = sun op (ev m E x) (kon P full π K os k d E m) := _root_.id rfl
@[go_sem] theorem pops_convert {s t : TypeId} {x : Operand} : POps P full π K (⟨d, .convert s t x, ty, pos, after, none⟩ :: os) k E m = sconv P s t (ev m E x) (kon P full π K os k d E m) := _root_.id rfl
@[go_sem] theorem pops_makeFunc {f : Fn} {xs ys : Array Operand} : POps P full π K (⟨d, .makeFunc f xs ys, ty, pos, after, none⟩ :: os) k E m = POps P full π K os (k + 1) (putE d (.fn f (xs.toList.map (ev m E)) (ys.toList.map (ev m E))) E) m := _root_.id rfl
@[go_sem] theorem pops_slice {T : TypeId} {x : Operand} {lo hi : Option Operand} : POps P full π K (⟨d, .slice T x lo hi none, ty, pos, after, none⟩ :: os) k E m = sslice P T (ev m E x) (lo.map (ev m E)) (hi.map (ev m E)) (kon P full π K os k d E m) := _root_.id rfl
@[go_sem] theorem pops_fieldAddr {T f : Nat} {x : Operand} : POps P full π K (⟨d, .fieldAddr T x f, ty, pos, after, none⟩ :: os) k E m = sfieldA P T f (ev m E x) (kon P full π K os k d E m) := _root_.id rfl
@[go_sem] theorem pops_field {T f : Nat} {x : Operand} : POps P full π K (⟨d, .field T x f, ty, pos, after, none⟩ :: os) k E m = sfield P T f (ev m E x) (kon P full π K os k d E m) := _root_.id rfl
@[go_sem] theorem pops_indexAddr {T : TypeId} {x i : Operand} : POps P full π K (⟨d, .indexAddr T x i, ty, pos, after, none⟩ :: os) k E m = sindexA P T (ev m E x) (ev m E i) (kon P full π K os k d E m) := _root_.id rfl
@[go_sem] theorem pops_index {T : TypeId} {x i : Operand} : POps P full π K (⟨d, .index T x i, ty, pos, after, none⟩ :: os) k E m = sindex P T (ev m E x) (ev m E i) (kon P full π K os k d E m) := _root_.id rfl
def sextract (t : V) (i : Nat) (C : V → Prop) : Prop := match t with | .tup vs => (match vs[i]? with | some v => C v | none => False) | _ => False
@[go_sem] theorem sextract_0 {v : V} {vs : List V} {C : V → Prop} : sextract (.tup (v :: vs)) 0 C = C v := _root_.id rfl
@[go_sem] theorem sextract_1 {u v : V} {vs : List V} {C : V → Prop} : sextract (.tup (u :: v :: vs)) 1 C = C v := _root_.id rfl
@[go_sem] theorem sextract_2 {t u v : V} {vs : List V} {C : V → Prop} : sextract (.tup (t :: u :: v :: vs)) 2 C = C v := _root_.id rfl
@[go_sem] theorem pops_extract {t : Operand} {i : Nat} : POps P full π K (⟨d, .extract t i, ty, pos, after, none⟩ :: os) k E m = sextract (ev m E t) i (kon P full π K os k d E m) := by
  conv => lhs; unfold POps
  simp only [stepOp, sextract]
  generalize ev m E t = v
  cases v with
  | tup vs => cases vs[i]? <;> rfl
  | _ => rfl
/-- a call of a function: left as it stands for a contract -/
def sfn (P : Program) (f : V) (args : List V) (q : Pa) (m : M) (C : V → M → Prop) : Prop :=
  match f with
  | .fn (.func g) first captured => SC P g (first ++ args ++ captured) q m C
  | _ => False
@[go_sem] theorem sfn_fn {g : Nat} {first captured args : List V} {C : V → M → Prop} : sfn P (.fn (.func g) first captured) args q m C = SC P g (first ++ args ++ captured) q m C := _root_.id rfl
@[go_sem] theorem pops_call {f : Operand} {xs : Array Operand} {ts : Array TypeId} : POps P full π K (⟨d, .call ⟨.value f, xs, ts⟩, ty, pos, after, none⟩ :: os) k E m = sfn P (ev m E f) (xs.toList.map (ev m E)) (k :: π) m (konVM P full π K os k d E) := by
  conv => lhs; unfold POps
  simp only [stepOp, scall, sfn]
  generalize ev m E f = v
  cases v with
  | fn g _ _ => cases g <;> rfl
  | _ => rfl
@[go_sem] theorem pops_len {T : TypeId} {x : Operand} : POps P full π K (⟨d, .call ⟨.builtin .len, #[x], #[T]⟩, ty, pos, after, none⟩ :: os) k E m = slen P T (ev m E x) (kon P full π K os k d E m) := _root_.id rfl
@[go_sem] theorem pops_max {x y : Operand} {ts : Array TypeId} : POps P full π K (⟨d, .call ⟨.builtin .max, #[x, y], ts⟩, ty, pos, after, none⟩ :: os) k E m = sminmax true (ev m E x) (ev m E y) (kon P full π K os k d E m) := _root_.id rfl
@[go_sem] theorem pops_append {t u : TypeId} {s x : Operand} : POps P full π K (⟨d, .call ⟨.builtin .append, #[s, x], #[t, u]⟩, ty, pos, after, none⟩ :: os) k E m = sappend P (k :: π) m t u (ev m E s) (ev m E x) (konVM P full π K os k d E) := _root_.id rfl

/-! ### operands and slots -/
@[go_sem] theorem ev_tmp {t : Nat} : ev m E (.tmp t) = E t := _root_.id rfl
@[go_sem] theorem ev_int {kk : IntKind} {n : Int} : ev m E (.const (.int kk n)) = .lit (.int kk n) := _root_.id rfl
@[go_sem] theorem ev_bool {b : Bool} : ev m E (.const (.bool b)) = .lit (.bool b) := _root_.id rfl
@[go_sem] theorem ev_nils : ev m E (.const (.slice none 0 0)) = .list .exact [] := _root_.id rfl
@[go_sem] theorem ev_func {f : Nat} : ev m E (.func f) = .fn (.func f) [] [] := _root_.id rfl
@[go_sem] theorem ev_global {gg : Nat} : ev m E (.global gg) = m.gl gg := _root_.id rfl
@[go_sem] theorem putE_some {i : Nat} {v : V} : putE (some i) v E = upd E i v := _root_.id rfl
@[go_sem] theorem putE_none {v : V} : putE none v E = E := _root_.id rfl
@[go_sem] theorem upd_at {i j : Nat} {v : V} : upd E i v j = if j = i then v else E j := _root_.id rfl
@[go_sem] theorem ini_0 {v : V} {vs : List V} : ini (v :: vs) 0 = v := _root_.id rfl
@[go_sem] theorem ini_1 {u v : V} {vs : List V} : ini (u :: v :: vs) 1 = v := _root_.id rfl
@[go_sem] theorem ini_2 {t u v : V} {vs : List V} : ini (t :: u :: v :: vs) 2 = v := _root_.id rfl
/-! ### operators -/
section
variable {T : TypeId} {x y : Operand} {C : V → Prop} {kk : IntKind} {a b : Int}
@[go_sem] theorem sbin_add : sbin P .add T x y (.lit (.int kk a)) (.lit (.int kk b)) C = C (.lit (.int kk (kk.wrap (a + b)))) := by simp [sbin]
@[go_sem] theorem sbin_sub : sbin P .sub T x y (.lit (.int kk a)) (.lit (.int kk b)) C = C (.lit (.int kk (kk.wrap (a - b)))) := by simp [sbin]
@[go_sem] theorem sbin_mul : sbin P .mul T x y (.lit (.int kk a)) (.lit (.int kk b)) C = C (.lit (.int kk (kk.wrap (a * b)))) := by simp [sbin]
@[go_sem] theorem sbin_eql : sbin P .eql T x y (.lit (.int kk a)) (.lit (.int kk b)) C = C (.lit (.bool (a == b))) := by simp [sbin]
@[go_sem] theorem sbin_neq : sbin P .neq T x y (.lit (.int kk a)) (.lit (.int kk b)) C = C (.lit (.bool (a != b))) := by simp [sbin]
@[go_sem] theorem sbin_lss : sbin P .lss T x y (.lit (.int kk a)) (.lit (.int kk b)) C = C (.lit (.bool (decide (a < b)))) := by simp [sbin]
@[go_sem] theorem sbin_leq : sbin P .leq T x y (.lit (.int kk a)) (.lit (.int kk b)) C = C (.lit (.bool (decide (a ≤ b)))) := by simp [sbin]
@[go_sem] theorem sbin_gtr : sbin P .gtr T x y (.lit (.int kk a)) (.lit (.int kk b)) C = C (.lit (.bool (decide (b < a)))) := by simp [sbin]
@[go_sem] theorem sbin_geq : sbin P .geq T x y (.lit (.int kk a)) (.lit (.int kk b)) C = C (.lit (.bool (decide (b ≤ a)))) := by simp [sbin]
@[go_sem] theorem sbin_sadd {s t : ByteArray} : sbin P .add T x y (.lit (.string s)) (.lit (.string t)) C = (s.size + t.size ≤ 4611686018427387904 ∧ C (.lit (.string (s ++ t)))) := by simp [sbin]
theorem byteArray_toList_inj {s t : ByteArray} (h : s.toList = t.toList) : s = t := by
  have h1 : s.data.toList = t.data.toList := by rw [← Go.ByteArray.toList_eq, ← Go.ByteArray.toList_eq, h]
  cases s; cases t; simp at h1; simp [h1]
@[go_sem] theorem sbin_seql {s t : ByteArray} : sbin P .eql T x y (.lit (.string s)) (.lit (.string t)) C = C (.lit (.bool (decide (s = t)))) := by
  have : (s.toList == t.toList) = decide (s = t) := by
    by_cases h : s = t
    · subst h; simp
    · have : ¬ s.toList = t.toList := fun e => h (byteArray_toList_inj e)
      simp [h, this]
  simp [sbin, this]
end
end

/-! ### where the evaluation looks: at values, never into what comes behind -/
section
variable {P : Program} {C : V → Prop} {CM : V → M → Prop} {Cm : M → Prop} {Cl : List V → Prop} {m : M} {E : Env}
@[congr] theorem sbin_congr {op : BinOp} {T : TypeId} {x y : Operand} {u u' v v' : V} (h1 : u = u') (h2 : v = v') : sbin P op T x y u v C = sbin P op T x y u' v' C := by rw [h1, h2]
@[congr] theorem sun_congr {op : UnOp} {u u' : V} (h1 : u = u') : sun op u C = sun op u' C := by rw [h1]
@[congr] theorem sload_congr {T : TypeId} {u u' : V} (h1 : u = u') : sload P m T u C = sload P m T u' C := by rw [h1]
@[congr] theorem sstore_congr {T : TypeId} {u u' v v' : V} (h1 : u = u') (h2 : v = v') : sstore P m T u v Cm = sstore P m T u' v' Cm := by rw [h1, h2]
@[congr] theorem spick_congr {t t' u u' v v' : V} (h0 : t = t') (h1 : u = u') (h2 : v = v') : spick t u v C = spick t' u' v' C := by rw [h0, h1, h2]
@[congr] theorem snil_congr {u u' : V} (h1 : u = u') : snil u C = snil u' C := by rw [h1]
@[congr] theorem sextract_congr {u u' : V} {i : Nat} (h1 : u = u') : sextract u i C = sextract u' i C := by rw [h1]
@[congr] theorem sfn_congr {f f' : V} {as as' : List V} {q : Pa} (h1 : f = f') (h2 : as = as') : sfn P f as q m CM = sfn P f' as' q m CM := by rw [h1, h2]
@[congr] theorem SC_congr {f : FuncId} {as as' : List V} {q : Pa} (h2 : as = as') : SC P f as q m CM = SC P f as' q m CM := by rw [h2]
@[congr] theorem sappend_congr {q : Pa} {t u : TypeId} {s s' x x' : V} (h1 : s = s') (h2 : x = x') : sappend P q m t u s x CM = sappend P q m t u s' x' CM := by rw [h1, h2]
@[congr] theorem slen_congr {T : TypeId} {u u' : V} (h1 : u = u') : slen P T u C = slen P T u' C := by rw [h1]
@[congr] theorem sminmax_congr {b : Bool} {u u' v v' : V} (h1 : u = u') (h2 : v = v') : sminmax b u v C = sminmax b u' v' C := by rw [h1, h2]
@[congr] theorem sslice_congr {T : TypeId} {u u' : V} {lo lo' hi hi' : Option V} (h1 : u = u') (h2 : lo = lo') (h3 : hi = hi') : sslice P T u lo hi C = sslice P T u' lo' hi' C := by rw [h1, h2, h3]
@[congr] theorem sindexA_congr {T : TypeId} {u u' v v' : V} (h1 : u = u') (h2 : v = v') : sindexA P T u v C = sindexA P T u' v' C := by rw [h1, h2]
@[congr] theorem sindex_congr {T : TypeId} {u u' v v' : V} (h1 : u = u') (h2 : v = v') : sindex P T u v C = sindex P T u' v' C := by rw [h1, h2]
@[congr] theorem sfieldA_congr {T f : Nat} {u u' : V} (h1 : u = u') : sfieldA P T f u C = sfieldA P T f u' C := by rw [h1]
@[congr] theorem sfield_congr {T f : Nat} {u u' : V} (h1 : u = u') : sfield P T f u C = sfield P T f u' C := by rw [h1]
@[congr] theorem sconv_congr {s t : TypeId} {u u' : V} (h1 : u = u') : sconv P s t u C = sconv P s t u' C := by rw [h1]
@[congr] theorem sbuild_congr {T : TypeId} {ps ps' : List (Nat × V)} (h1 : ps = ps') : sbuild P T ps C = sbuild P T ps' C := by rw [h1]
@[congr] theorem sbuildSlice_congr {T n : Nat} {ps ps' : List (Nat × V)} (h1 : ps = ps') : sbuildSlice P T n ps C = sbuildSlice P T n ps' C := by rw [h1]
@[congr] theorem salloc_congr {o o' : Option (List V)} (h1 : o = o') : salloc o Cl = salloc o' Cl := by rw [h1]
end
/-- a region, its rest under a name -/
theorem SW_reg {P : Program} {N : Nat} {π : Pa} {k : Nat} {E : Env} {m : M} {Q : Exit → Nat → Env → M → Prop} {id : Nat} {ops : List Oper} (h : ∀ K : Nat → Env → M → Prop, (∀ k E m, Q .normal k E m → K k E m) → POps P ops π K ops k E m) : SW P N π (.region id ops.toArray false) k E m Q := by
  refine SW_region ?_
  simpa using h (Q .normal) (fun _ _ _ x => x)

/-! ### the ends of pieces of code -/
section
variable {P : Program} {C : V → Prop} {m : M} {E : Env} {n : Nat → Env → M → Prop} {Q : Exit → Nat → Env → M → Prop} {k i id : Nat}
@[go_sem] theorem thenQ_normal : thenQ n Q .normal k E m = n k E m := _root_.id rfl
@[go_sem] theorem thenQ_exit : thenQ n Q (.exit i) k E m = Q (.exit i) k E m := _root_.id rfl
@[go_sem] theorem thenQ_ret : thenQ n Q .ret k E m = Q .ret k E m := _root_.id rfl
@[go_sem] theorem blockQ_normal : blockQ id Q .normal k E m = Q .normal k E m := _root_.id rfl
@[go_sem] theorem blockQ_exit : blockQ id Q (.exit i) k E m = if i = id then Q .normal k E m else Q (.exit i) k E m := by
  unfold blockQ; simp only; split <;> rfl
@[go_sem] theorem blockQ_ret : blockQ id Q .ret k E m = Q .ret k E m := _root_.id rfl
@[go_sem] theorem resV_tmp {t : Nat} : resV P E m [.tmp t] C = C (E t) := _root_.id rfl
@[go_sem] theorem resV_cell {p T : Nat} : resV P E m [.cell p T] C = sload P m T (E p) C := _root_.id rfl
@[go_sem] theorem resV_tt {t u : Nat} : resV P E m [.tmp t, .tmp u] C = C (.tup [E t, E u]) := _root_.id rfl
@[go_sem] theorem resV_ct {p T u : Nat} : resV P E m [.cell p T, .tmp u] C = sload P m T (E p) fun v => C (.tup [v, E u]) := _root_.id rfl
@[go_sem] theorem resV_ttt {t u v : Nat} : resV P E m [.tmp t, .tmp u, .tmp v] C = C (.tup [E t, E u, E v]) := _root_.id rfl
@[go_sem] theorem resV_ctt {p T u v : Nat} : resV P E m [.cell p T, .tmp u, .tmp v] C = sload P m T (E p) fun x => C (.tup [x, E u, E v]) := _root_.id rfl
@[go_sem] theorem resV_nil : resV P E m [] C = C (.tup []) := _root_.id rfl
end
end Go.Proofs.YtolhahlnccekcaaDoor.Abs
