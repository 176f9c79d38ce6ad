/-
  Own helper theorems of no one function: loads, stores, fields, indexes, slices, builds, seen from above.
-/
import Derived.Test.YtolhahlnccekcaaDoorPwA6
namespace Go.Proofs.YtolhahlnccekcaaDoor.Abs
open Go.RowKit

section
variable {P : Program} {c c' : Conc} {m m' : M} {w w' : World}

def sizeT (P : Program) (T : TypeId) : Option Nat := (P.info? T).map (·.size)
def aggD : TypeDesc → Bool
  | .struct _ | .array _ _ => true
  | _ => false
def aggT (P : Program) (T : TypeId) : Option Bool := (P.underlying T).map aggD
theorem run_sizeT {T : TypeId} {n : Nat} (h : sizeT P T = some n) (w : World) : (sizeOf T).run P w = .ok n w := by
  unfold sizeT at h
  cases hq : P.info? T with
  | none => simp [hq] at h
  | some i => simp [hq] at h; simp [sizeOf, typeInfo, hq, h]
theorem run_aggT {T : TypeId} {b : Bool} (h : aggT P T = some b) (w : World) : (isAgg T).run P w = .ok b w := by
  unfold aggT at h
  cases hq : P.underlying T with
  | none => simp [hq] at h
  | some d =>
    rw [hq, Option.map_some] at h
    injection h with h
    unfold isAgg
    rw [Sem.run_bind, run_underlying hq w]
    cases d <;> simp_all [aggD]

/-- the cells from a pointer on -/
def cellsAt (m : M) : V → Option (List V)
  | .ptr id off => (m.blk id).map fun vs => (lds (m.ver id) id vs).drop off
  | .eptr rows i off => rows[i]?.map (·.drop off)
  | _ => none
theorem cellsAt_ok (h : Rep c m w) {v : V} {x : Value} (hv : CR c [v] [x]) {vs : List V} (hc : cellsAt m v = some vs) :
    ∃ b o xs, x = .pointer (some ⟨b, o, none⟩) ∧ CR c vs xs ∧ (∀ j u, xs[j]? = some u → w.cell? ⟨b, o + j, none⟩ = some u) ∧ ∀ u ∈ xs, u.oneCell' = true := by
  cases v with
  | ptr id off =>
    obtain ⟨b, hr, rfl⟩ := hv.inv_ptr
    simp only [cellsAt, Option.map_eq_some_iff] at hc
    obtain ⟨us, hu, rfl⟩ := hc
    obtain ⟨b', cs, t, hr', hB, k1, k2, k3⟩ := h.blk id us hu
    rw [hr] at hr'; injection hr' with e; subst e
    refine ⟨b, off, cs.toList.drop off, rfl, k1.drop off, fun j u hj => ?_, fun u hu => k3 u (List.mem_of_mem_drop hu)⟩
    rw [hB.cell]
    simpa [List.getElem?_drop] using hj
  | eptr rows i off =>
    obtain ⟨b, o, sz, es, rfl, k1, k2, k3, k4⟩ := hv.inv_eptr
    simp only [cellsAt, Option.map_eq_some_iff] at hc
    obtain ⟨r, hr, rfl⟩ := hc
    have hf := flatten_at k2 hr
    refine ⟨b, o + i * sz + off, ((es.drop (i * sz)).take sz).drop off, rfl, ?_, fun j u hj => ?_, fun u hu => k4 u (List.mem_of_mem_drop (List.mem_of_mem_take (List.mem_of_mem_drop hu)))⟩
    · have := ((k1.drop (i * sz)).take sz).drop off
      rw [hf.2] at this; exact this
    · rw [List.getElem?_drop, List.getElem?_take] at hj
      split at hj
      · rw [List.getElem?_drop] at hj
        have := h.com _ _ _ (k3 _ u hj)
        rw [show o + i * sz + off + j = o + (i * sz + (off + j)) by omega]
        exact this
      · cases hj
  | _ => cases hc

/-- as an element of a list it owns nothing -/
def V.shared : V → V
  | .list _ rows => .list .none rows
  | v => v
theorem V.shared_ok {v : V} {x : Value} (h : CR c [v] [x]) : CR c [v.shared] [x] := by
  cases v with
  | list o rows =>
    obtain ⟨a, cap, es, sz, rfl, k1, k2, kz, k3, k4, k5, k6, kc, k7⟩ := h.inv_list
    exact .list k1 k2 kz k3 k4 k5 k6 kc trivial .nil
  | _ => exact h
theorem shareds_ok {vs : List V} {xs : List Value} (h : CR c vs xs) : CR c (vs.map V.shared) xs := by
  induction vs generalizing xs with
  | nil => exact h
  | cons v vs ih =>
    obtain ⟨x, xs, rfl, h1, h2⟩ := h.uncons
    exact (V.shared_ok h1).cons (ih h2)
def sload (P : Program) (m : M) (T : TypeId) (v : V) (C : V → Prop) : Prop :=
  match cellsAt m v with
  | none => False
  | some vs =>
    match aggT P T with
    | some true => (match sizeT P T with | some n => n ≤ vs.length ∧ C (.agg ((vs.take n).map V.shared)) | none => False)
    | some false => (match vs with | u :: _ => C u | [] => False)
    | none => False
theorem sload_ok {T : TypeId} {v : V} {C : V → Prop} (hs : sload P m T v C) (h : Rep c m w) {x : Value} (hv : CR c [v] [x]) : ∃ r, C r ∧ ∃ z, (Instr.loadAt T x).run P w = .ok z w ∧ CR c [r] [z] := by
  unfold sload at hs
  split at hs
  · exact hs.elim
  · rename_i vs hc
    obtain ⟨b, o, xs, rfl, k1, k2, k3⟩ := cellsAt_ok h hv hc
    split at hs
    · rename_i ha
      split at hs
      · rename_i n hn
        obtain ⟨hl, hC⟩ := hs
        refine ⟨_, hC, .agg (xs.take n).toArray, ?_, .agg (shareds_ok (k1.take n)) (fun u hu => k3 u (List.mem_of_mem_take hu)) .nil⟩
        have hlen : (xs.take n).length = n := by rw [List.length_take, k1.len]; omega
        have hld := run_loadCells_list (P := P) w ⟨b, o, none⟩ (xs.take n) (fun j u hj => by
          rw [addr_add]
          rw [List.getElem?_take] at hj
          split at hj
          · exact k2 j u hj
          · cases hj)
        rw [hlen] at hld
        simp [Instr.loadAt, Instr.sureAddr, loadVar, run_aggT ha, run_sizeT hn, hld]
      · exact hs.elim
    · rename_i ha
      split at hs
      · rename_i u us
        obtain ⟨y, ys, rfl, h1, h2⟩ := k1.uncons
        have hcell := k2 0 y rfl
        rw [Nat.add_zero] at hcell
        refine ⟨_, hs, y, ?_, h1⟩
        simp [Instr.loadAt, Instr.sureAddr, loadVar, run_aggT ha, hcell]
      · exact hs.elim
    · exact hs.elim

/-- cells are stored, one behind the other -/
def M.stN (m : M) (id : Pa) (off : Nat) : List V → M
  | [] => m
  | v :: vs => (match m.blk id with | some cs => m.st1 id cs off v | none => m).stN id (off + 1) vs
theorem st1_blk {id : Pa} {cs : List V} {off : Nat} {v : V} : ∃ cs', (m.st1 id cs off v).blk id = some cs' ∧ cs'.length = cs.length := by
  cases v with
  | list o rows =>
    unfold M.st1
    simp only
    split
    · exact ⟨_, by show (if id = id then some _ else _) = _; rw [if_pos rfl], by simp⟩
    · exact ⟨_, by show (if id = id then some _ else _) = _; rw [if_pos rfl], by simp⟩
  | _ => exact ⟨_, by show (if id = id then some _ else _) = _; rw [if_pos rfl], by simp⟩
theorem stN_ok {q id : Pa} {b : Nat} {vs : List V} : ∀ {c : Conc} {m : M} {w : World} {xs : List Value} {off i o0 : Nat} {cur : List V}, Rep c m w → c.ρ id = some b → m.blk id = some cur → off + vs.length ≤ cur.length → o0 + i = off → CR c vs xs → (∀ u ∈ xs, u.oneCell' = true) →
    ∃ c' w', (storeCells ⟨b, o0, none⟩ xs i).run P w = .ok () w' ∧ Rep c' (m.stN id off vs) w' ∧ Ext q c m w c' (m.stN id off vs) w' := by
  induction vs with
  | nil =>
    intro c m w xs off i o0 cur h hr hb hl hi hx h1
    rw [hx.inv_nil]
    exact ⟨c, w, rfl, h, .refl q c m w⟩
  | cons v vs ih =>
    intro c m w xs off i o0 cur h hr hb hl hi hx h1
    obtain ⟨x, xs, rfl, hx1, hx2⟩ := hx.uncons
    simp only [List.length_cons] at hl
    obtain ⟨b', hr', hcell, hfro, c1, hR1, hE1⟩ := h.st1 q (id := id) (off := off) hb (by omega) hx1 (h1 x (by simp))
    rw [hr] at hr'; injection hr' with e; subst e
    obtain ⟨cur', hcur', hlen'⟩ := st1_blk (m := m) (id := id) (cs := cur) (off := off) (v := v)
    obtain ⟨c2, w2, hrun, hR2, hE2⟩ := ih (off := off + 1) (i := i + 1) (o0 := o0) hR1 (hE1.le.ρ _ _ hr) hcur' (by omega) (by omega) (hx2.mono hE1.le) (fun u hu => h1 u (by simp [hu]))
    have hst : M.stN m id off (v :: vs) = M.stN (m.st1 id cur off v) id (off + 1) vs := by
      simp only [M.stN, hb]
    rw [hst]
    refine ⟨c2, w2, ?_, hR2, hE1.trans hE2⟩
    have hx1' := h1 x (by simp)
    have hsome : ∃ u, w.cell? ⟨b, off, none⟩ = some u := by
      unfold World.cell?
      cases hq : w.heap[b]? with
      | none => simp [hq] at hcell
      | some ob =>
        cases ob with
        | cells cs t fr => simp [hq] at hcell; exact ⟨cs[off], by simp [hcell]⟩
        | _ => simp [hq] at hcell
    obtain ⟨u, hu⟩ := hsome
    rw [storeCells]
    rw [Sem.run_bind, addr_add, hi]
    have hone : (store ⟨b, off, none⟩ x).run P w = .ok () (w.setCell ⟨b, off, none⟩ x) := by
      unfold store
      cases x <;> first
        | (simp [Sem.run, hu, hfro]; done)
        | (cases hx1')
    rw [hone]
    exact hrun

def sstore (P : Program) (m : M) (T : TypeId) (a v : V) (C : M → Prop) : Prop :=
  match a with
  | .ptr id off =>
    match m.blk id, sizeT P T with
    | some vs, some n => v.cellsOk = true ∧ v.cells.length = n ∧ off + n ≤ vs.length ∧ C (m.stN id off v.cells)
    | _, _ => False
  | _ => False
theorem sstore_ok {T : TypeId} {a v : V} {C : M → Prop} (hs : sstore P m T a v C) (h : Rep c m w) (q : Pa) {x y : Value} (ha : CR c [a] [x]) (hv : CR c [v] [y]) :
    ∃ m', C m' ∧ ∃ c' w', (Instr.storeAt T x y).run P w = .ok () w' ∧ Rep c' m' w' ∧ Ext q c m w c' m' w' := by
  unfold sstore at hs
  split at hs
  · rename_i id off
    split at hs
    · rename_i vs n hb hn
      obtain ⟨h1, h2, h3, hC⟩ := hs
      obtain ⟨b, hr, rfl⟩ := ha.inv_ptr
      obtain ⟨k1, k2⟩ := cells_ok hv h1
      obtain ⟨c', w', hrun, hR, hE⟩ := stN_ok (P := P) (q := q) (i := 0) (o0 := off) h hr hb (by omega) rfl k1 k2
      refine ⟨_, hC, c', w', ?_, hR, hE⟩
      have hsz : y.cells.size = n := by have := k1.len; simp at this; omega
      simp [Instr.storeAt, Instr.sureAddr, storeVar, run_sizeT hn, hsz, hrun]
    · exact hs.elim
  · exact hs.elim

/-- where a field lies -/
def foff (P : Program) (T : TypeId) (f : Nat) : Option Nat :=
  match P.underlying T with
  | some (.struct fs) => (match fs[f]? with | some fd => (match sizeT P fd.type with | some (_ + 1) => some fd.offset | _ => none) | none => none)
  | _ => none
def sfieldA (P : Program) (T : TypeId) (f : Nat) (v : V) (C : V → Prop) : Prop :=
  match foff P T f with
  | some fo => (match v with | .ptr id off => C (.ptr id (off + fo)) | .eptr rows i off => C (.eptr rows i (off + fo)) | _ => False)
  | none => False
theorem run_fieldAt {T f fo b o : Nat} (h : foff P T f = some fo) (w : World) : (Instr.fieldAt T (.pointer (some ⟨b, o, none⟩)) f).run P w = .ok (.pointer (some ⟨b, o + fo, none⟩)) w := by
  unfold foff at h
  split at h
  · rename_i fs hu
    split at h
    · rename_i fd hf
      split at h
      · rename_i n hn
        injection h with h; subst h
        have hz := run_sizeT hn w
        simp [Instr.fieldAt, run_underlying hu, hf, Instr.sureAddr, fieldPlace, hz, addr_add]
      · cases h
    · cases h
  · cases h
theorem CR.eptr_add {rows : List (List V)} {i off fo b o : Nat} (h : CR c [.eptr rows i off] [.pointer (some ⟨b, o, none⟩)]) : CR c [.eptr rows i (off + fo)] [.pointer (some ⟨b, o + fo, none⟩)] := by
  obtain ⟨b', o', sz, es, he, k1, k2, k3, k4⟩ := h.inv_eptr
  injection he with he; injection he with he; injection he with e1 e2; subst e1 e2
  have := CR.eptr (i := i) (off := off + fo) k1 k2 k3 k4 .nil
  rw [show o' + i * sz + off + fo = o' + i * sz + (off + fo) by omega]
  exact this
theorem sfieldA_ok {T f : Nat} {v : V} {C : V → Prop} (hs : sfieldA P T f v C) {x : Value} (hv : CR c [v] [x]) (w : World) : ∃ r, C r ∧ ∃ z, (Instr.fieldAt T x f).run P w = .ok z w ∧ CR c [r] [z] := by
  unfold sfieldA at hs
  split at hs
  · rename_i fo hf
    split at hs
    · obtain ⟨b, hr, rfl⟩ := hv.inv_ptr
      exact ⟨_, hs, _, run_fieldAt hf w, .ptr hr .nil⟩
    · obtain ⟨b, o, sz, es, rfl, _⟩ := hv.inv_eptr
      exact ⟨_, hs, _, run_fieldAt hf w, hv.eptr_add⟩
    · exact hs.elim
  · exact hs.elim

def sindexA (P : Program) (T : TypeId) (v ix : V) (C : V → Prop) : Prop :=
  match P.underlying T, v, ix with
  | some (.slice e), .list _ rows, .lit (.int _ n) => (match sizeT P e with | some s => 0 ≤ n ∧ n < rows.length ∧ (∀ r ∈ rows, r.length = s) ∧ C (.eptr rows n.toNat 0) | none => False)
  | some (.slice e), .arr id off len _, .lit (.int _ n) => (match sizeT P e with | some s => 0 ≤ n ∧ n < len ∧ C (.ptr id (off + n.toNat * s)) | none => False)
  | some (.array len e), .ptr id off, .lit (.int _ n) => (match sizeT P e with | some s => 0 ≤ n ∧ n < len ∧ C (.ptr id (off + n.toNat * s)) | none => False)
  | some (.array len e), .eptr rows i off, .lit (.int _ n) => (match sizeT P e with | some s => 0 ≤ n ∧ n < len ∧ C (.eptr rows i (off + n.toNat * s)) | none => False)
  | _, _, _ => False
theorem sindexA_ok {T : Nat} {v ix : V} {C : V → Prop} (hs : sindexA P T v ix C) {x y : Value} (hv : CR c [v] [x]) (hi : CR c [ix] [y]) (w : World) : ∃ r, C r ∧ ∃ z, (Instr.indexAt T x y).run P w = .ok z w ∧ CR c [r] [z] := by
  unfold sindexA at hs
  split at hs
  · rename_i e o rows k n hu
    obtain rfl := hi.inv_lit
    split at hs
    · rename_i s hsz
      obtain ⟨h0, hl, hr, hC⟩ := hs
      obtain ⟨a, cap, es, sz, rfl, k1, k2, kz, k3, k4, k5, k6, kc, k7⟩ := hv.inv_list
      obtain ⟨b, off, rfl⟩ := k5 (by omega)
      have hsz2 : sz = s := by
        obtain ⟨r, hr'⟩ : ∃ r, r ∈ rows := by cases rows with | nil => simp at hl; omega | cons r _ => exact ⟨r, by simp⟩
        rw [← k2 r hr', hr r hr']
      subst hsz2
      have hlen := flat_len k1 k2
      have hpos : 0 < es.length := by rw [hlen]; exact Nat.mul_pos (by omega) kz
      obtain ⟨b', off', he, hG⟩ := k6 hpos
      injection he with he; injection he with e1 e2; subst e1 e2
      refine ⟨_, hC, .pointer (some ⟨b, off + n.toNat * sz + 0, none⟩), ?_, .eptr k1 k2 hG kc .nil⟩
      simp [Instr.indexAt, asIntOf, run_underlying hu, h0, hl, run_sizeT hsz, addr_add]
    · exact hs.elim
  · rename_i e id off len cap k n hu
    obtain rfl := hi.inv_lit
    split at hs
    · rename_i s hsz
      obtain ⟨h0, hl, hC⟩ := hs
      obtain ⟨b, hr, rfl, _⟩ := hv.inv_arr
      refine ⟨_, hC, .pointer (some ⟨b, off + n.toNat * s, none⟩), ?_, .ptr hr .nil⟩
      simp [Instr.indexAt, asIntOf, run_underlying hu, h0, hl, run_sizeT hsz, addr_add]
    · exact hs.elim
  · rename_i len e id off k n hu
    obtain rfl := hi.inv_lit
    split at hs
    · rename_i s hsz
      obtain ⟨h0, hl, hC⟩ := hs
      obtain ⟨b, hr, rfl⟩ := hv.inv_ptr
      refine ⟨_, hC, .pointer (some ⟨b, off + n.toNat * s, none⟩), ?_, .ptr hr .nil⟩
      simp [Instr.indexAt, asIntOf, run_underlying hu, h0, hl, run_sizeT hsz, addr_add, Instr.sureAddr]
    · exact hs.elim
  · rename_i len e rows i off k n hu
    obtain rfl := hi.inv_lit
    split at hs
    · rename_i s hsz
      obtain ⟨h0, hl, hC⟩ := hs
      obtain ⟨b, o, sz, es, rfl, _⟩ := hv.inv_eptr
      refine ⟨_, hC, .pointer (some ⟨b, o + i * sz + off + n.toNat * s, none⟩), ?_, hv.eptr_add⟩
      simp [Instr.indexAt, asIntOf, run_underlying hu, h0, hl, run_sizeT hsz, addr_add, Instr.sureAddr]
    · exact hs.elim
  · exact hs.elim
end
end Go.Proofs.YtolhahlnccekcaaDoor.Abs
namespace Go.Proofs.YtolhahlnccekcaaDoor.Abs
open Go.RowKit

section
variable {P : Program} {c c' : Conc} {m m' : M} {w w' : World}

/-! ### zero values -/
def zT (P : Program) (T : TypeId) : Option Value := (P.info? T).bind (·.zero)
def zcells (P : Program) (T : TypeId) : Option (List V) :=
  match zT P T with
  | some z => if z.cells.toList.all (fun u => u.oneCell') then some (z.cells.toList.map of1) else none
  | none => none
theorem run_zT {T : TypeId} {z : Value} (h : zT P T = some z) (w : World) : (zeroValue T).run P w = .ok z w := by
  unfold zT at h
  cases hq : P.info? T with
  | none => simp [hq] at h
  | some i => simp [hq] at h; simp [zeroValue, typeInfo, hq, h]
theorem zcells_ok {T : TypeId} {zs : List V} (h : zcells P T = some zs) (c : Conc) : ∃ z, (∀ w, (zeroValue T).run P w = .ok z w) ∧ CR c zs z.cells.toList ∧ ∀ u ∈ z.cells.toList, u.oneCell' = true := by
  unfold zcells at h
  split at h
  · rename_i z hz
    split at h
    · rename_i ha
      injection h with h; subst h
      exact ⟨z, run_zT hz, ofs_ok c _, List.all_eq_true.1 ha⟩
    · cases h
  · cases h

/-! ### build -/
theorem fold_at (off : Nat) (l : List Value) : ∀ (k : Nat) (cells : Array Value) (i : Nat), ((l.zipIdx k).foldl (fun (cs : Array Value) (p : Value × Nat) => cs.setIfInBounds (off + p.2) p.1) cells)[i]? = if off + k ≤ i ∧ i < off + k + l.length ∧ i < cells.size then l[i - off - k]? else cells[i]? := by
  induction l with
  | nil => intro k cells i; simp; intro h1 h2; omega
  | cons x l ih =>
    intro k cells i
    simp only [List.zipIdx_cons, List.foldl_cons]
    rw [ih]
    simp only [Array.size_setIfInBounds, Array.getElem?_setIfInBounds, List.length_cons]
    by_cases h1 : off + (k + 1) ≤ i ∧ i < off + (k + 1) + l.length ∧ i < cells.size
    · rw [if_pos h1, if_pos (by omega), show i - off - k = (i - off - (k + 1)) + 1 by omega, List.getElem?_cons_succ]
    · rw [if_neg h1]
      by_cases h2 : i = off + k
      · subst h2
        by_cases h3 : off + k < cells.size
        · rw [if_pos rfl, if_pos h3, if_pos ⟨by omega, by omega, h3⟩]
          rw [show off + k - off - k = 0 by omega]; rfl
        · rw [if_pos rfl, if_neg h3, if_neg (by omega)]
          exact (Array.getElem?_eq_none (by omega)).symm
      · rw [if_neg (fun e => h2 e.symm), if_neg (by omega)]
theorem fold_part (v cells : Array Value) (off : Nat) (h : off + v.size ≤ cells.size) :
    (v.zipIdx.foldl (fun (cs : Array Value) (p : Value × Nat) => cs.setIfInBounds (off + p.2) p.1) cells) = (cells.toList.take off ++ v.toList ++ cells.toList.drop (off + v.size)).toArray := by
  apply Array.ext_getElem?
  intro i
  rw [← Array.foldl_toList, Array.toList_zipIdx, fold_at off v.toList 0 cells i]
  simp only [Nat.add_zero, Array.length_toList, Nat.sub_zero, List.getElem?_toArray, List.append_assoc]
  have htl : (cells.toList.take off).length = off := by simp; omega
  by_cases h1 : i < off
  · rw [if_neg (by omega), List.getElem?_append_left (by omega), List.getElem?_take_of_lt h1]; simp
  · rw [List.getElem?_append_right (by omega), htl]
    by_cases h2 : i < off + v.size
    · rw [if_pos ⟨by omega, h2, by omega⟩, List.getElem?_append_left (by simp; omega)]
    · rw [if_neg (by omega), List.getElem?_append_right (by simp; omega), List.getElem?_drop]
      simp only [Array.length_toList]
      rw [show off + v.size + (i - off - v.size) = i by omega]; simp

def fillV (place : Nat → Option (Nat × Nat)) (cells : List V) : List (Nat × V) → Option (List V)
  | [] => some cells
  | (i, v) :: rest =>
    match place i with
    | none => none
    | some (off, size) => if v.cellsOk = true ∧ v.cells.length = size ∧ off + size ≤ cells.length then fillV place (cells.take off ++ v.cells ++ cells.drop (off + size)) rest else none
/-- the parts' values -/
inductive CP (c : Conc) : List (Nat × V) → List (Nat × Value) → Prop where
  | nil : CP c [] []
  | cons {i v x vs xs} : CR c [v] [x] → CP c vs xs → CP c ((i, v) :: vs) ((i, x) :: xs)
theorem fillV_ok {place : Nat → Option (Nat × Nat)} {ps : List (Nat × V)} : ∀ {qs : List (Nat × Value)} {cells : List V} {xs : Array Value} {r : List V}, fillV place cells ps = some r → CP c ps qs → CR c cells xs.toList → (∀ u ∈ xs.toList, u.oneCell' = true) →
    ∃ ys, Instr.fill place xs qs = some ys ∧ CR c r ys.toList ∧ ∀ u ∈ ys.toList, u.oneCell' = true := by
  induction ps with
  | nil =>
    intro qs cells xs r h hp hc h1
    cases hp
    simp only [fillV, Option.some.injEq] at h
    subst h
    exact ⟨xs, rfl, hc, h1⟩
  | cons p ps ih =>
    intro qs cells xs r h hp hc h1
    cases hp with
    | @cons i v x _ qs hx hp =>
      simp only [fillV] at h
      split at h
      · cases h
      · rename_i off size hpl
        split at h
        · rename_i hcond
          obtain ⟨ho, hs, hfit⟩ := hcond
          obtain ⟨k1, k2⟩ := cells_ok hx ho
          have hxs : x.cells.size = size := by have := k1.len; simp at this; omega
          have hlen : xs.size = cells.length := by have := hc.len; simpa using this
          have hf := fold_part x.cells xs off (by omega)
          obtain ⟨ys, h2, h3⟩ := ih (qs := qs) (xs := (xs.toList.take off ++ x.cells.toList ++ xs.toList.drop (off + x.cells.size)).toArray) h hp (by
            simp only [hxs]
            exact ((hc.take off).append k1).append (hc.drop (off + size))) (by
            intro u hu
            simp only [List.append_assoc, List.mem_append] at hu
            rcases hu with hu | hu | hu
            · exact h1 u (List.mem_of_mem_take hu)
            · exact k2 u hu
            · exact h1 u (List.mem_of_mem_drop hu))
          refine ⟨ys, ?_, h3⟩
          simp only [Instr.fill, hpl]
          rw [if_neg (by simp; omega)]
          rw [hf]; exact h2
        · cases h

/-- where a struct's fields lie, and how wide they are -/
def places (P : Program) (fs : List Field) : Option (List (Nat × Nat)) :=
  match fs with
  | [] => some []
  | f :: fs => (match sizeT P f.type, places P fs with | some n, some l => some ((f.offset, n) :: l) | _, _ => none)
def splaces (P : Program) (T : TypeId) : Option (List (Nat × Nat)) :=
  match P.underlying T with
  | some (.struct fs) => places P fs.toList
  | _ => none
theorem run_places {fs : List Field} : ∀ {l : List (Nat × Nat)}, places P fs = some l → ∀ w, (fs.mapM fun f => Prod.mk f.offset <$> sizeOf f.type).run P w = .ok l w := by
  induction fs with
  | nil => intro l h w; simp only [places, Option.some.injEq] at h; subst h; rfl
  | cons f fs ih =>
    intro l h w
    simp only [places] at h
    split at h
    · rename_i n l' hn hl
      injection h with h; subst h
      simp [List.mapM_cons, run_sizeT hn, ih hl w]
    · cases h

def sbuild (P : Program) (T : TypeId) (ps : List (Nat × V)) (C : V → Prop) : Prop :=
  match P.underlying T, zcells P T with
  | some (.struct _), some zs => (match splaces P T with | some l => (match fillV (l[·]?) zs ps with | some r => C (.agg r) | none => False) | none => False)
  | some (.array _ e), some zs => (match sizeT P e with | some s => (match fillV (fun i => some (i * s, s)) zs ps with | some r => C (.agg r) | none => False) | none => False)
  | _, _ => False
theorem sbuild_ok {T : TypeId} {ps : List (Nat × V)} {C : V → Prop} (hs : sbuild P T ps C) {qs : Array (Nat × Value)} (hp : CP c ps qs.toList) (w : World) : ∃ r, C r ∧ ∃ z, (Instr.build T qs).run P w = .ok z w ∧ CR c [r] [z] := by
  unfold sbuild at hs
  split at hs
  · rename_i fs zs hu hz
    split at hs
    · rename_i l hl
      split at hs
      · rename_i r hr
        obtain ⟨z, hz1, hz2, hz3⟩ := zcells_ok hz c
        obtain ⟨ys, h1, h2, h3⟩ := fillV_ok hr hp hz2 hz3
        have hl' : places P fs.toList = some l := by simpa [splaces, hu] using hl
        have hm := run_places hl' w
        have hm2 : (fs.mapM (fun f => do pure (f.offset, ← sizeOf f.type)) : Sem (Array (Nat × Nat))).run P w = .ok l.toArray w := by
          simp [Array.mapM_eq_mapM_toList, hm]
        refine ⟨_, hs, .agg ys, ?_, by simpa using CR.agg h2 h3 .nil⟩
        have hg : (fun (x : Nat) => l.toArray[x]?) = (fun (x : Nat) => l[x]?) := by funext x; simp
        unfold Instr.build
        rw [Sem.run_bind, hz1 w, Result.andThen_ok, Sem.run_bind, run_underlying hu w, Result.andThen_ok]
        simp only [Sem.run_bind, hm2, Result.andThen_ok, hg, h1, Sem.run_pure]
      · exact hs.elim
    · exact hs.elim
  · rename_i len e zs hu hz
    split at hs
    · rename_i s hsz
      split at hs
      · rename_i r hr
        obtain ⟨z, hz1, hz2, hz3⟩ := zcells_ok hz c
        obtain ⟨ys, h1, h2, h3⟩ := fillV_ok hr hp hz2 hz3
        refine ⟨_, hs, .agg ys, ?_, by simpa using CR.agg h2 h3 .nil⟩
        unfold Instr.build
        rw [Sem.run_bind, hz1 w, Result.andThen_ok, Sem.run_bind, run_underlying hu w, Result.andThen_ok]
        simp only [Sem.run_bind, run_sizeT hsz, Result.andThen_ok, h1, Sem.run_pure]
      · exact hs.elim
    · exact hs.elim
  · exact hs.elim
end
end Go.Proofs.YtolhahlnccekcaaDoor.Abs
