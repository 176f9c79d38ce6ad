/-
  Own helper theorems of no one function: loads, stores, fields, indexes, slices, builds, seen from above.
-/
import Derived.Test.YtolhahlnccekcaaDoorPsA7
namespace Go.Proofs.YtolhahlnccekcaaDoor.Abs
open Go.RowKit

section
variable {P : Program} {c c' : Conc} {m m' : M} {w w' : World}

def sizeT (P : Program) (T : TypeId) : Option Nat := (P.info? T).map (·.size)
def aggD : TypeDesc → Bool
  | .struct _ | .array _ _ => true
  | _ => false
def aggT (P : Program) (T : TypeId) : Option Bool := (P.underlying T).map aggD
theorem run_sizeT {T : TypeId} {n : Nat} (h : sizeT P T = some n) (w : World) : (sizeOf T).run P w = .ok n w := by
  unfold sizeT at h
  cases hq : P.info? T with
  | none => simp [hq] at h
  | some i => simp [hq] at h; simp [sizeOf, typeInfo, hq, h]
theorem run_aggT {T : TypeId} {b : Bool} (h : aggT P T = some b) (w : World) : (isAgg T).run P w = .ok b w := by
  unfold aggT at h
  cases hq : P.underlying T with
  | none => simp [hq] at h
  | some d =>
    rw [hq, Option.map_some] at h
    injection h with h
    unfold isAgg
    rw [Sem.run_bind, run_underlying hq w]
    cases d <;> simp_all [aggD]

/-- the cells from a pointer on -/
def cellsAt (m : M) : V → Option (List V)
  | .ptr id off => (m.blk id).map fun vs => (lds (m.ver id) id vs).drop off
  | .eptr rows i off => rows[i]?.map (·.drop off)
  | _ => none
theorem cellsAt_ok (h : Rep c m w) {v : V} {x : Value} (hv : CR c [v] [x]) {vs : List V} (hc : cellsAt m v = some vs) :
    ∃ b o xs, x = .pointer (some ⟨b, o, none⟩) ∧ CR c vs xs ∧ (∀ j u, xs[j]? = some u → w.cell? ⟨b, o + j, none⟩ = some u) ∧ ∀ u ∈ xs, u.oneCell' = true := by
  cases v with
  | ptr id off =>
    obtain ⟨b, hr, rfl⟩ := hv.inv_ptr
    simp only [cellsAt, Option.map_eq_some_iff] at hc
    obtain ⟨us, hu, rfl⟩ := hc
    obtain ⟨b', cs, t, hr', hB, k1, k2, k3⟩ := h.blk id us hu
    rw [hr] at hr'; injection hr' with e; subst e
    refine ⟨b, off, cs.toList.drop off, rfl, k1.drop off, fun j u hj => ?_, fun u hu => k3 u (List.mem_of_mem_drop hu)⟩
    rw [hB.cell]
    simpa [List.getElem?_drop] using hj
  | eptr rows i off =>
    obtain ⟨b, o, sz, es, rfl, k1, k2, k3, k4⟩ := hv.inv_eptr
    simp only [cellsAt, Option.map_eq_some_iff] at hc
    obtain ⟨r, hr, rfl⟩ := hc
    have hf := flatten_at k2 hr
    refine ⟨b, o + i * sz + off, ((es.drop (i * sz)).take sz).drop off, rfl, ?_, fun j u hj => ?_, fun u hu => k4 u (List.mem_of_mem_drop (List.mem_of_mem_take (List.mem_of_mem_drop hu)))⟩
    · have := ((k1.drop (i * sz)).take sz).drop off
      rw [hf.2] at this; exact this
    · rw [List.getElem?_drop, List.getElem?_take] at hj
      split at hj
      · rw [List.getElem?_drop] at hj
        have := h.com _ _ _ (k3 _ u hj)
        rw [show o + i * sz + off + j = o + (i * sz + (off + j)) by omega]
        exact this
      · cases hj
  | _ => cases hc

/-- as an element of a list it owns nothing -/
def V.shared : V → V
  | .list _ rows => .list .none rows
  | v => v
theorem V.shared_ok {v : V} {x : Value} (h : CR c [v] [x]) : CR c [v.shared] [x] := by
  cases v with
  | list o rows =>
    obtain ⟨a, cap, es, sz, rfl, k1, k2, kz, k3, k4, k5, k6, kc, k7⟩ := h.inv_list
    exact .list k1 k2 kz k3 k4 k5 k6 kc trivial .nil
  | _ => exact h
theorem shareds_ok {vs : List V} {xs : List Value} (h : CR c vs xs) : CR c (vs.map V.shared) xs := by
  induction vs generalizing xs with
  | nil => exact h
  | cons v vs ih =>
    obtain ⟨x, xs, rfl, h1, h2⟩ := h.uncons
    exact (V.shared_ok h1).cons (ih h2)
def sload (P : Program) (m : M) (T : TypeId) (v : V) (C : V → Prop) : Prop :=
  match cellsAt m v with
  | none => False
  | some vs =>
    match aggT P T with
    | some true => (match sizeT P T with | some n => n ≤ vs.length ∧ C (.agg ((vs.take n).map V.shared)) | none => False)
    | some false => (match vs with | u :: _ => C u | [] => False)
    | none => False
theorem sload_ok {T : TypeId} {v : V} {C : V → Prop} (hs : sload P m T v C) (h : Rep c m w) {x : Value} (hv : CR c [v] [x]) : ∃ r, C r ∧ ∃ z, (Instr.loadAt T x).run P w = .ok z w ∧ CR c [r] [z] := by
  unfold sload at hs
  split at hs
  · exact hs.elim
  · rename_i vs hc
    obtain ⟨b, o, xs, rfl, k1, k2, k3⟩ := cellsAt_ok h hv hc
    split at hs
    · rename_i ha
      split at hs
      · rename_i n hn
        obtain ⟨hl, hC⟩ := hs
        refine ⟨_, hC, .agg (xs.take n).toArray, ?_, .agg (shareds_ok (k1.take n)) (fun u hu => k3 u (List.mem_of_mem_take hu)) .nil⟩
        have hlen : (xs.take n).length = n := by rw [List.length_take, k1.len]; omega
        have hld := run_loadCells_list (P := P) w ⟨b, o, none⟩ (xs.take n) (fun j u hj => by
          rw [addr_add]
          rw [List.getElem?_take] at hj
          split at hj
          · exact k2 j u hj
          · cases hj)
        rw [hlen] at hld
        simp [Instr.loadAt, Instr.sureAddr, loadVar, run_aggT ha, run_sizeT hn, hld]
      · exact hs.elim
    · rename_i ha
      split at hs
      · rename_i u us
        obtain ⟨y, ys, rfl, h1, h2⟩ := k1.uncons
        have hcell := k2 0 y rfl
        rw [Nat.add_zero] at hcell
        refine ⟨_, hs, y, ?_, h1⟩
        simp [Instr.loadAt, Instr.sureAddr, loadVar, run_aggT ha, hcell]
      · exact hs.elim
    · exact hs.elim

/-- cells are stored, one behind the other -/
def M.stN (m : M) (id : Pa) (off : Nat) : List V → M
  | [] => m
  | v :: vs => (match m.blk id with | some cs => m.st1 id cs off v | none => m).stN id (off + 1) vs
theorem st1_blk {id : Pa} {cs : List V} {off : Nat} {v : V} : ∃ cs', (m.st1 id cs off v).blk id = some cs' ∧ cs'.length = cs.length := by
  cases v with
  | list o rows =>
    unfold M.st1
    simp only
    split
    · exact ⟨_, by show (if id = id then some _ else _) = _; rw [if_pos rfl], by simp⟩
    · exact ⟨_, by show (if id = id then some _ else _) = _; rw [if_pos rfl], by simp⟩
  | _ => exact ⟨_, by show (if id = id then some _ else _) = _; rw [if_pos rfl], by simp⟩
theorem stN_ok {q id : Pa} {b : Nat} {vs : List V} : ∀ {c : Conc} {m : M} {w : World} {xs : List Value} {off i o0 : Nat} {cur : List V}, Rep c m w → c.ρ id = some b → m.blk id = some cur → off + vs.length ≤ cur.length → o0 + i = off → CR c vs xs → (∀ u ∈ xs, u.oneCell' = true) →
    ∃ c' w', (storeCells ⟨b, o0, none⟩ xs i).run P w = .ok () w' ∧ Rep c' (m.stN id off vs) w' ∧ Ext q c m w c' (m.stN id off vs) w' := by
  induction vs with
  | nil =>
    intro c m w xs off i o0 cur h hr hb hl hi hx h1
    rw [hx.inv_nil]
    exact ⟨c, w, rfl, h, .refl q c m w⟩
  | cons v vs ih =>
    intro c m w xs off i o0 cur h hr hb hl hi hx h1
    obtain ⟨x, xs, rfl, hx1, hx2⟩ := hx.uncons
    simp only [List.length_cons] at hl
    obtain ⟨b', hr', hcell, hfro, c1, hR1, hE1⟩ := h.st1 q (id := id) (off := off) hb (by omega) hx1 (h1 x (by simp))
    rw [hr] at hr'; injection hr' with e; subst e
    obtain ⟨cur', hcur', hlen'⟩ := st1_blk (m := m) (id := id) (cs := cur) (off := off) (v := v)
    obtain ⟨c2, w2, hrun, hR2, hE2⟩ := ih (off := off + 1) (i := i + 1) (o0 := o0) hR1 (hE1.le.ρ _ _ hr) hcur' (by omega) (by omega) (hx2.mono hE1.le) (fun u hu => h1 u (by simp [hu]))
    have hst : M.stN m id off (v :: vs) = M.stN (m.st1 id cur off v) id (off + 1) vs := by
      simp only [M.stN, hb]
    rw [hst]
    refine ⟨c2, w2, ?_, hR2, hE1.trans hE2⟩
    have hx1' := h1 x (by simp)
    have hsome : ∃ u, w.cell? ⟨b, off, none⟩ = some u := by
      unfold World.cell?
      cases hq : w.heap[b]? with
      | none => simp [hq] at hcell
      | some ob =>
        cases ob with
        | cells cs t fr => simp [hq] at hcell; exact ⟨cs[off], by simp [hcell]⟩
        | _ => simp [hq] at hcell
    obtain ⟨u, hu⟩ := hsome
    rw [storeCells]
    rw [Sem.run_bind, addr_add, hi]
    have hone : (store ⟨b, off, none⟩ x).run P w = .ok () (w.setCell ⟨b, off, none⟩ x) := by
      unfold store
      cases x <;> first
        | (simp [Sem.run, hu, hfro]; done)
        | (cases hx1')
    rw [hone]
    exact hrun

def sstore (P : Program) (m : M) (T : TypeId) (a v : V) (C : M → Prop) : Prop :=
  match a with
  | .ptr id off =>
    match m.blk id, sizeT P T with
    | some vs, some n => v.cellsOk = true ∧ v.cells.length = n ∧ off + n ≤ vs.length ∧ C (m.stN id off v.cells)
    | _, _ => False
  | _ => False
theorem sstore_ok {T : TypeId} {a v : V} {C : M → Prop} (hs : sstore P m T a v C) (h : Rep c m w) (q : Pa) {x y : Value} (ha : CR c [a] [x]) (hv : CR c [v] [y]) :
    ∃ m', C m' ∧ ∃ c' w', (Instr.storeAt T x y).run P w = .ok () w' ∧ Rep c' m' w' ∧ Ext q c m w c' m' w' := by
  unfold sstore at hs
  split at hs
  · rename_i id off
    split at hs
    · rename_i vs n hb hn
      obtain ⟨h1, h2, h3, hC⟩ := hs
      obtain ⟨b, hr, rfl⟩ := ha.inv_ptr
      obtain ⟨k1, k2⟩ := cells_ok hv h1
      obtain ⟨c', w', hrun, hR, hE⟩ := stN_ok (P := P) (q := q) (i := 0) (o0 := off) h hr hb (by omega) rfl k1 k2
      refine ⟨_, hC, c', w', ?_, hR, hE⟩
      have hsz : y.cells.size = n := by have := k1.len; simp at this; omega
      simp [Instr.storeAt, Instr.sureAddr, storeVar, run_sizeT hn, hsz, hrun]
    · exact hs.elim
  · exact hs.elim

/-- where a field lies -/
def foff (P : Program) (T : TypeId) (f : Nat) : Option Nat :=
  match P.underlying T with
  | some (.struct fs) => (match fs[f]? with | some fd => (match sizeT P fd.type with | some (_ + 1) => some fd.offset | _ => none) | none => none)
  | _ => none
def sfieldA (P : Program) (T : TypeId) (f : Nat) (v : V) (C : V → Prop) : Prop :=
  match foff P T f with
  | some fo => (match v with | .ptr id off => C (.ptr id (off + fo)) | .eptr rows i off => C (.eptr rows i (off + fo)) | _ => False)
  | none => False
theorem run_fieldAt {T f fo b o : Nat} (h : foff P T f = some fo) (w : World) : (Instr.fieldAt T (.pointer (some ⟨b, o, none⟩)) f).run P w = .ok (.pointer (some ⟨b, o + fo, none⟩)) w := by
  unfold foff at h
  split at h
  · rename_i fs hu
    split at h
    · rename_i fd hf
      split at h
      · rename_i n hn
        injection h with h; subst h
        have hz := run_sizeT hn w
        simp [Instr.fieldAt, run_underlying hu, hf, Instr.sureAddr, fieldPlace, hz, addr_add]
      · cases h
    · cases h
  · cases h
theorem CR.eptr_add {rows : List (List V)} {i off fo b o : Nat} (h : CR c [.eptr rows i off] [.pointer (some ⟨b, o, none⟩)]) : CR c [.eptr rows i (off + fo)] [.pointer (some ⟨b, o + fo, none⟩)] := by
  obtain ⟨b', o', sz, es, he, k1, k2, k3, k4⟩ := h.inv_eptr
  injection he with he; injection he with he; injection he with e1 e2; subst e1 e2
  have := CR.eptr (i := i) (off := off + fo) k1 k2 k3 k4 .nil
  rw [show o' + i * sz + off + fo = o' + i * sz + (off + fo) by omega]
  exact this
theorem sfieldA_ok {T f : Nat} {v : V} {C : V → Prop} (hs : sfieldA P T f v C) {x : Value} (hv : CR c [v] [x]) (w : World) : ∃ r, C r ∧ ∃ z, (Instr.fieldAt T x f).run P w = .ok z w ∧ CR c [r] [z] := by
  unfold sfieldA at hs
  split at hs
  · rename_i fo hf
    split at hs
    · obtain ⟨b, hr, rfl⟩ := hv.inv_ptr
      exact ⟨_, hs, _, run_fieldAt hf w, .ptr hr .nil⟩
    · obtain ⟨b, o, sz, es, rfl, _⟩ := hv.inv_eptr
      exact ⟨_, hs, _, run_fieldAt hf w, hv.eptr_add⟩
    · exact hs.elim
  · exact hs.elim

def sindexA (P : Program) (T : TypeId) (v ix : V) (C : V → Prop) : Prop :=
  match P.underlying T, v, ix with
  | some (.slice e), .list _ rows, .lit (.int _ n) => (match sizeT P e with | some s => 0 ≤ n ∧ n < rows.length ∧ (∀ r ∈ rows, r.length = s) ∧ C (.eptr rows n.toNat 0) | none => False)
  | some (.slice e), .arr id off len _, .lit (.int _ n) => (match sizeT P e with | some s => 0 ≤ n ∧ n < len ∧ C (.ptr id (off + n.toNat * s)) | none => False)
  | some (.array len e), .ptr id off, .lit (.int _ n) => (match sizeT P e with | some s => 0 ≤ n ∧ n < len ∧ C (.ptr id (off + n.toNat * s)) | none => False)
  | some (.array len e), .eptr rows i off, .lit (.int _ n) => (match sizeT P e with | some s => 0 ≤ n ∧ n < len ∧ C (.eptr rows i (off + n.toNat * s)) | none => False)
  | _, _, _ => False
theorem sindexA_ok {T : Nat} {v ix : V} {C : V → Prop} (hs : sindexA P T v ix C) {x y : Value} (hv : CR c [v] [x]) (hi : CR c [ix] [y]) (w : World) : ∃ r, C r ∧ ∃ z, (Instr.indexAt T x y).run P w = .ok z w ∧ CR c [r] [z] := by
  unfold sindexA at hs
  split at hs
  · rename_i e o rows k n hu
    obtain rfl := hi.inv_lit
    split at hs
    · rename_i s hsz
      obtain ⟨h0, hl, hr, hC⟩ := hs
      obtain ⟨a, cap, es, sz, rfl, k1, k2, kz, k3, k4, k5, k6, kc, k7⟩ := hv.inv_list
      obtain ⟨b, off, rfl⟩ := k5 (by omega)
      have hsz2 : sz = s := by
        obtain ⟨r, hr'⟩ : ∃ r, r ∈ rows := by cases rows with | nil => simp at hl; omega | cons r _ => exact ⟨r, by simp⟩
        rw [← k2 r hr', hr r hr']
      subst hsz2
      have hlen := flat_len k1 k2
      have hpos : 0 < es.length := by rw [hlen]; exact Nat.mul_pos (by omega) kz
      obtain ⟨b', off', he, hG⟩ := k6 hpos
      injection he with he; injection he with e1 e2; subst e1 e2
      refine ⟨_, hC, .pointer (some ⟨b, off + n.toNat * sz + 0, none⟩), ?_, .eptr k1 k2 hG kc .nil⟩
      simp [Instr.indexAt, asIntOf, run_underlying hu, h0, hl, run_sizeT hsz, addr_add]
    · exact hs.elim
  · rename_i e id off len cap k n hu
    obtain rfl := hi.inv_lit
    split at hs
    · rename_i s hsz
      obtain ⟨h0, hl, hC⟩ := hs
      obtain ⟨b, hr, rfl, _⟩ := hv.inv_arr
      refine ⟨_, hC, .pointer (some ⟨b, off + n.toNat * s, none⟩), ?_, .ptr hr .nil⟩
      simp [Instr.indexAt, asIntOf, run_underlying hu, h0, hl, run_sizeT hsz, addr_add]
    · exact hs.elim
  · rename_i len e id off k n hu
    obtain rfl := hi.inv_lit
    split at hs
    · rename_i s hsz
      obtain ⟨h0, hl, hC⟩ := hs
      obtain ⟨b, hr, rfl⟩ := hv.inv_ptr
      refine ⟨_, hC, .pointer (some ⟨b, off + n.toNat * s, none⟩), ?_, .ptr hr .nil⟩
      simp [Instr.indexAt, asIntOf, run_underlying hu, h0, hl, run_sizeT hsz, addr_add, Instr.sureAddr]
    · exact hs.elim
  · rename_i len e rows i off k n hu
    obtain rfl := hi.inv_lit
    split at hs
    · rename_i s hsz
      obtain ⟨h0, hl, hC⟩ := hs
      obtain ⟨b, o, sz, es, rfl, _⟩ := hv.inv_eptr
      refine ⟨_, hC, .pointer (some ⟨b, o + i * sz + off + n.toNat * s, none⟩), ?_, hv.eptr_add⟩
      simp [Instr.indexAt, asIntOf, run_underlying hu, h0, hl, run_sizeT hsz, addr_add, Instr.sureAddr]
    · exact hs.elim
  · exact hs.elim
end
end Go.Proofs.YtolhahlnccekcaaDoor.Abs
