/-
  Own helper theorems of no one function: slices, indexes, conversions, lengths, seen from above.
-/
import Derived.Test.YtolhahlnccekcaaDoorPwA8
namespace Go.Proofs.YtolhahlnccekcaaDoor.Abs
open Go.RowKit

section
variable {P : Program} {c c' : Conc} {m m' : M} {w w' : World}

/-- a result that owns nothing -/
def V.weak1 : V → V
  | .list _ rows => .list .none rows
  | .agg vs => .agg (vs.map V.shared)
  | v => v
def V.weak : V → V
  | .tup vs => .tup (vs.map V.weak1)
  | v => v.weak1
theorem V.weak1_ok {v : V} {x : Value} (h : CR c [v] [x]) : CR c [v.weak1] [x] := by
  cases v with
  | agg us => obtain ⟨xs, rfl, h1, h2⟩ := h.inv_agg; exact .agg (shareds_ok h1) h2 .nil
  | list o rows => exact V.shared_ok h
  | _ => exact h
theorem weaks_ok {vs : List V} {xs : List Value} (h : CR c vs xs) : CR c (vs.map V.weak1) xs := by
  induction vs generalizing xs with
  | nil => exact h
  | cons v vs ih =>
    obtain ⟨x, xs, rfl, h1, h2⟩ := h.uncons
    exact (V.weak1_ok h1).cons (ih h2)
theorem V.weak_ok {v : V} {x : Value} (h : CR c [v] [x]) : CR c [v.weak] [x] := by
  cases v with
  | tup us => obtain ⟨xs, rfl, h1⟩ := h.inv_tup; exact .tup (weaks_ok h1) .nil
  | _ => exact V.weak1_ok h

/-! ### a slice written out -/
theorem fill_seq {size : Nat} : ∀ (vals : List Value) (k : Nat) (done tail : List Value), (∀ v ∈ vals, v.cells.size = size) → done.length = k * size → tail.length = vals.length * size →
    Instr.fill (fun i => some (i * size, size)) (done ++ tail).toArray ((vals.zipIdx k).map fun p => (p.2, p.1)) = some (done ++ (vals.map fun v => v.cells.toList).flatten).toArray := by
  intro vals
  induction vals with
  | nil => intro k done tail _ _ ht; simp at ht; simp [Instr.fill, ht]
  | cons v vals ih =>
    intro k done tail hv hd ht
    have hvs : v.cells.size = size := hv v (by simp)
    simp only [List.length_cons, Nat.succ_mul] at ht
    simp only [List.zipIdx_cons, List.map_cons, Instr.fill]
    rw [if_neg (by simp [hvs]; omega)]
    rw [fold_part v.cells (done ++ tail).toArray (k * size) (by simp; omega)]
    have htail : tail.drop size = tail.drop size := rfl
    have e1 : (List.take (k * size) (done ++ tail).toArray.toList ++ v.cells.toList ++ List.drop (k * size + v.cells.size) (done ++ tail).toArray.toList) = (done ++ v.cells.toList) ++ tail.drop size := by
      simp only [List.take_append, List.drop_append, hvs]
      rw [List.take_of_length_le (by omega), show k * size - done.length = 0 by omega, List.drop_of_length_le (show done.length ≤ k * size + size by omega), show k * size + size - done.length = size by omega]
      simp
    rw [e1, ih (k + 1) (done ++ v.cells.toList) (tail.drop size) (fun u hu => hv u (by simp [hu])) (by simp [hvs, Nat.succ_mul, hd]) (by simp; omega)]
    simp

def sbuildSlice (P : Program) (T : TypeId) (n : Nat) (ps : List (Nat × V)) (C : V → Prop) : Prop :=
  match P.underlying T with
  | some (.slice e) =>
    match sizeT P e, zcells P e with
    | some s, some _ => ps.map Prod.fst = List.range n ∧ 0 < s ∧ n * s ≤ 16777216 ∧ (∀ p ∈ ps, p.2.cellsOk = true ∧ p.2.cells.length = s) ∧ C (.list .exact (ps.map fun p => p.2.cells.map V.shared))
    | _, _ => False
  | _ => False
theorem CP.split {ps : List (Nat × V)} : ∀ {qs : List (Nat × Value)}, CP c ps qs → qs.map Prod.fst = ps.map Prod.fst ∧ CR c (ps.map Prod.snd) (qs.map Prod.snd) := by
  induction ps with
  | nil => intro qs h; cases h; exact ⟨rfl, .nil⟩
  | cons p ps ih =>
    intro qs h
    cases h with
    | cons h1 h2 =>
      obtain ⟨h3, h4⟩ := ih h2
      exact ⟨by simp [h3], h1.cons h4⟩
theorem zip_fst {α : Type} : ∀ (qs : List (Nat × α)) (k : Nat), qs.map Prod.fst = List.range' k qs.length → qs = ((qs.map Prod.snd).zipIdx k).map fun p => (p.2, p.1) := by
  intro qs
  induction qs with
  | nil => intro k _; rfl
  | cons q qs ih =>
    intro k h
    simp only [List.map_cons, List.length_cons, List.range'_succ] at h
    injection h with h1 h2
    simp only [List.map_cons, List.zipIdx_cons]
    rw [← ih (k + 1) h2, ← h1]
theorem rows_ok {vs : List V} : ∀ {xs : List Value}, CR c vs xs → (∀ v ∈ vs, v.cellsOk = true) → CR c (vs.map fun v => v.cells.map V.shared).flatten (xs.map fun x => x.cells.toList).flatten ∧ ∀ u ∈ (xs.map fun x => x.cells.toList).flatten, u.oneCell' = true := by
  induction vs with
  | nil => intro xs h _; rw [h.inv_nil]; exact ⟨.nil, by simp⟩
  | cons v vs ih =>
    intro xs h ho
    obtain ⟨x, xs, rfl, h1, h2⟩ := h.uncons
    obtain ⟨k1, k2⟩ := cells_ok h1 (ho v (by simp))
    obtain ⟨k3, k4⟩ := ih h2 (fun u hu => ho u (by simp [hu]))
    refine ⟨by simpa using (shareds_ok k1).append k3, fun u hu => ?_⟩
    simp only [List.map_cons, List.flatten_cons, List.mem_append] at hu
    rcases hu with hu | hu
    · exact k2 u hu
    · exact k4 u hu
theorem new_list {q : Pa} (h : Rep c m w) {rows : List (List V)} {es rest : List Value} {sz : Nat} (e : TypeId) (fr : Nat × Nat) (k1 : CR c rows.flatten es) (k2 : ∀ r ∈ rows, r.length = sz) (kz : 0 < sz) (k3 : ∀ u ∈ es, u.oneCell' = true) {cap : Nat} (hl : rows.length ≤ cap) (hm : cap ≤ maxLen) {o : Own} (ho : o = .none ∨ (o = .exact ∧ cap = rows.length)) :
    ∃ c', Rep c' m (w.alloc (.cells (es ++ rest).toArray e fr)) ∧ Ext q c m w c' m (w.alloc (.cells (es ++ rest).toArray e fr)) ∧ CR c' [.list o rows] [.slice (some ⟨w.heap.size, 0, none⟩) rows.length cap] := by
  have hOut : Out c.G w.heap.size := h.com.out (Nat.le_refl _)
  have hno : ¬ Owned c m w.heap.size := fun ho => by have := h.own_lt ho; omega
  have hg : w.grownBy (w.alloc (.cells (es ++ rest).toArray e fr)) none := galloc (grefl w none) _
  have hB : ∀ i, (w.alloc (.cells (es ++ rest).toArray e fr)).cell? ⟨w.heap.size, i, none⟩ = (es ++ rest).toArray[i]? := by
    intro i
    have := heap_alloc_new w (.cells (es ++ rest).toArray e fr)
    unfold World.cell?
    show (match (w.alloc (.cells (es ++ rest).toArray e fr)).heap[w.heap.size]? with | some (.cells c _ _) => if (none : Option Nat).isSome then none else c[i]? | _ => none) = _
    rw [this]; rfl
  have h1 := (h.grown hg).laid (cs := es) hOut hno (fun i u hu => by
    rw [hB i]
    have hi : i < es.length := (List.getElem?_eq_some_iff.1 hu).1
    simp only [List.getElem?_toArray]
    rw [List.getElem?_append_left hi]; exact hu)
  have hll : Le c { c.laid w.heap.size es with lit := fun b => c.lit b ∨ b = w.heap.size } := ⟨rfl, fun _ x => .inl x, fun _ _ x => x, fun _ _ x => x, (Le.laid hOut).G⟩
  have hle2 : Le (c.laid w.heap.size es) { c.laid w.heap.size es with lit := fun b => c.lit b ∨ b = w.heap.size } := ⟨rfl, fun _ x => .inl x, fun _ _ x => x, fun _ _ x => x, fun _ _ _ x => x⟩
  have hE := h.ext_laid (cs := es) q (Nat.le_refl _) (Nat.le_refl _) _ hg
  refine ⟨{ c.laid w.heap.size es with lit := fun b => c.lit b ∨ b = w.heap.size }, ⟨h1.com, fun id vs hv => ?_, h1.inj, h1.own, h1.ownInj, h1.ver, fun g => (h1.gl g).mono hle2, h1.ver0, h1.base, fun b hb => ?_⟩, ⟨hll, hE.os, hE.tape, hE.output, hE.size, hE.heap, hE.book, hE.own, hE.fresh, fun _ _ hb => ⟨hb.blk, hb.anon, hb.cell, hb.ver, hb.tok⟩, fun b hb hx => hx.resolve_right (by omega)⟩, ?_⟩
  · obtain ⟨b, cs, t, k1, k2, k3, k4, k5⟩ := h1.blk id vs hv
    exact ⟨b, cs, t, k1, k2, k3.mono hle2, k4, k5⟩
  · rcases hb with hb | rfl
    · exact h1.lit b hb
    · exact ⟨h.base, by simp, hno⟩
  refine .list (k1.mono hll) k2 kz hl hm (fun _ => ⟨_, _, rfl⟩) (fun _ => ⟨w.heap.size, 0, rfl, fun i u hu => by rw [Nat.zero_add]; show lay c.G w.heap.size es w.heap.size i = some u; rw [lay_at]; exact hu⟩) k3 ?_ .nil
  rcases ho with rfl | ⟨rfl, e⟩
  · trivial
  · exact ⟨e, fun x hx => by injection hx with hx; subst hx; exact .inr rfl⟩
theorem sbuildSlice_ok {T : TypeId} {n : Nat} {ps : List (Nat × V)} {C : V → Prop} (hs : sbuildSlice P T n ps C) (h : Rep c m w) (q : Pa) {qs : Array (Nat × Value)} (hp : CP c ps qs.toList) :
    ∃ r, C r ∧ ∃ cells e, P.underlying T = some (.slice e) ∧ (Instr.buildSlice T n qs).run P w = .ok (.slice (some ⟨w.heap.size, 0, none⟩) n n) (w.alloc (.cells cells e)) ∧
      ∀ fr, ∃ c', Rep c' m (w.alloc (.cells cells e fr)) ∧ Ext q c m w c' m (w.alloc (.cells cells e fr)) ∧ CR c' [r] [.slice (some ⟨w.heap.size, 0, none⟩) n n] := by
  unfold sbuildSlice at hs
  split at hs
  · rename_i e hu
    split at hs
    · rename_i s zs hsz hzc
      obtain ⟨h1, h2, h3, h4, hC⟩ := hs
      obtain ⟨z, hz1, hz2, hz3⟩ := zcells_ok hzc c
      obtain ⟨k1, k2⟩ := hp.split
      have hlenp : ps.length = n := by have := congrArg List.length h1; simpa using this
      have hlenq : qs.toList.length = n := by have := congrArg List.length k1; simp only [List.length_map] at this; omega
      have hq : qs.size = n := by simpa using hlenq
      have hzip := zip_fst qs.toList 0 (by rw [k1, h1, hlenq, List.range_eq_range'])
      have hvs : ∀ v ∈ qs.toList.map Prod.snd, v.cells.size = s := by
        intro v hv
        obtain ⟨i, hi, hvi⟩ := List.mem_iff_getElem.1 hv
        have hi' : i < (ps.map Prod.snd).length := by have := k2.len; omega
        obtain ⟨x, hx1, hx2⟩ := k2.get (List.getElem?_eq_getElem hi')
        have hxv : x = v := by rw [List.getElem?_eq_getElem hi, hvi] at hx1; injection hx1 with e; exact e.symm
        subst hxv
        obtain ⟨p, hp1, hp2⟩ : ∃ p ∈ ps, p.2 = (ps.map Prod.snd)[i] := by
          have := List.getElem_mem hi'
          obtain ⟨p, hp1, hp2⟩ := List.mem_map.1 this
          exact ⟨p, hp1, hp2⟩
        obtain ⟨g1, g2⟩ := h4 p hp1
        rw [← hp2] at hx2
        have := (cells_ok hx2 g1).1.len
        simp at this; omega
      obtain ⟨r1, r2⟩ := rows_ok k2 (fun v hv => by obtain ⟨p, hp1, rfl⟩ := List.mem_map.1 hv; exact (h4 p hp1).1)
      have hfill := fill_seq (size := s) (qs.toList.map Prod.snd) 0 [] ((Array.range (n * s)).map ((if n * s = 0 then #[] else z.cells)[· % (if n * s = 0 then #[] else z.cells).size]!)).toList hvs (by simp) (by simp [hq])
      rw [← hzip] at hfill
      simp only [List.nil_append, Array.toArray_toList] at hfill
      have hrl : (ps.map fun p => p.2.cells.map V.shared).length = n := by simpa using hlenp
      have hrr : (ps.map fun p => p.2.cells.map V.shared) = ((ps.map Prod.snd).map fun v => v.cells.map V.shared) := by simp
      have hnew := fun fr => new_list (q := q) (rest := []) (cap := n) (o := .exact) h e fr r1 (sz := s) (by
        intro r hr
        simp only [List.map_map, List.mem_map] at hr
        obtain ⟨p, hp1, rfl⟩ := hr
        simpa using (h4 p hp1).2) h2 r2 (by simp; omega) (by simp only [maxLen]; have := Nat.le_mul_of_pos_right n h2; omega) (.inr ⟨rfl, by simp; omega⟩)
      rw [← hrr, hrl] at hnew
      simp only [List.append_nil] at hnew
      refine ⟨_, hC, _, e, hu, ?_, hnew⟩
      unfold Instr.buildSlice
      simp only [Sem.run_bind, run_underlying hu, Result.andThen_ok, run_sizeT hsz]
      rw [if_neg (by omega)]
      by_cases h0 : n * s = 0
      · have hn0 : n = 0 := by
          rcases Nat.mul_eq_zero.1 h0 with h | h
          · exact h
          · omega
        obtain rfl : qs = #[] := Array.eq_empty_of_size_eq_zero (by omega)
        simp [h0, Instr.fill, newRow, show (Array.range 0 : Array Nat) = #[] from rfl]
      · simp only [h0, if_false] at hfill ⊢
        simp [hz1 w, hfill, newRow]
    · exact hs.elim
  · exact hs.elim

/-! ### parts of aggregates, indexes -/
def spart (P : Program) (T : TypeId) (cs : List V) (off : Nat) (C : V → Prop) : Prop :=
  match aggT P T with
  | some true => (match sizeT P T with | some n => C (.agg ((cs.drop off).take n)) | none => False)
  | some false => (match cs[off]? with | some u => C u | none => False)
  | none => False
theorem spart_ok {T : TypeId} {cs : List V} {off : Nat} {C : V → Prop} (hs : spart P T cs off C) {xs : List Value} (hc : CR c cs xs) (h1 : ∀ u ∈ xs, u.oneCell' = true) (w : World) : ∃ r, C r ∧ ∃ z, (part T xs.toArray off).run P w = .ok z w ∧ CR c [r] [z] := by
  unfold spart at hs
  split at hs
  · rename_i ha
    split at hs
    · rename_i n hn
      refine ⟨_, hs, .agg ((xs.drop off).take n).toArray, ?_, .agg ((hc.drop off).take n) (fun u hu => h1 u (List.mem_of_mem_drop (List.mem_of_mem_take hu))) .nil⟩
      simp [part, run_aggT ha, run_sizeT hn]
    · exact hs.elim
  · rename_i ha
    split at hs
    · rename_i u hu
      obtain ⟨x, hx, k⟩ := hc.get hu
      refine ⟨_, hs, x, ?_, k⟩
      simp [part, run_aggT ha, hx]
    · exact hs.elim
  · exact hs.elim
def sfield (P : Program) (T : TypeId) (f : Nat) (v : V) (C : V → Prop) : Prop :=
  match P.underlying T, v with
  | some (.struct fs), .agg cs => (match fs[f]? with | some fd => spart P fd.type cs fd.offset C | none => False)
  | _, _ => False
theorem sfield_ok {T : TypeId} {f : Nat} {v : V} {C : V → Prop} (hs : sfield P T f v C) {x : Value} (hv : CR c [v] [x]) (w : World) : ∃ r, C r ∧ ∃ z, (Instr.field T x f).run P w = .ok z w ∧ CR c [r] [z] := by
  unfold sfield at hs
  split at hs
  · rename_i fs cs hu
    split at hs
    · rename_i fd hf
      obtain ⟨xs, rfl, h1, h2⟩ := hv.inv_agg
      obtain ⟨r, hC, z, hz, hr⟩ := spart_ok hs h1 h2 w
      exact ⟨r, hC, z, by simp [Instr.field, run_underlying hu, hf, asAgg, hz], hr⟩
    · exact hs.elim
  · exact hs.elim
def sindex (P : Program) (T : TypeId) (v ix : V) (C : V → Prop) : Prop :=
  match P.underlying T, v, ix with
  | some (.array len e), .agg cs, .lit (.int _ n) => (match sizeT P e with | some s => 0 ≤ n ∧ n < len ∧ spart P e cs (n.toNat * s) C | none => False)
  | some .string, .lit (.string b), .lit (.int _ n) => 0 ≤ n ∧ ∃ h : n.toNat < b.size, C (.lit (.int .u8 (b[n.toNat]).toNat))
  | _, _, _ => False
theorem sindex_ok {T : TypeId} {v ix : V} {C : V → Prop} (hs : sindex P T v ix C) {x y : Value} (hv : CR c [v] [x]) (hi : CR c [ix] [y]) (w : World) : ∃ r, C r ∧ ∃ z, (Instr.index T x y).run P w = .ok z w ∧ CR c [r] [z] := by
  unfold sindex at hs
  split at hs
  · rename_i len e cs k n hu
    obtain rfl := hi.inv_lit
    split at hs
    · rename_i s hsz
      obtain ⟨h0, hl, hs⟩ := hs
      obtain ⟨xs, rfl, h1, h2⟩ := hv.inv_agg
      obtain ⟨r, hC, z, hz, hr⟩ := spart_ok hs h1 h2 w
      exact ⟨r, hC, z, by simp [Instr.index, asIntOf, run_underlying hu, h0, hl, run_sizeT hsz, hz], hr⟩
    · exact hs.elim
  · rename_i b k n hu
    obtain rfl := hi.inv_lit
    obtain rfl := hv.inv_lit
    obtain ⟨h0, hl, hC⟩ := hs
    refine ⟨_, hC, .int .u8 (b[n.toNat]).toNat, ?_, .lit .nil⟩
    simp [Instr.index, asIntOf, run_underlying hu, h0, hl]
  · exact hs.elim

/-! ### slices of slices -/
/-- cells as the rows of a list -/
def chunk (s : Nat) : Nat → List V → List (List V)
  | 0, _ => []
  | n + 1, l => l.take s :: chunk s n (l.drop s)
theorem chunk_ok {s : Nat} : ∀ (n : Nat) (l : List V), n * s ≤ l.length → (chunk s n l).flatten = l.take (n * s) ∧ (∀ r ∈ chunk s n l, r.length = s) ∧ (chunk s n l).length = n := by
  intro n
  induction n with
  | zero => intro l _; simp [chunk]
  | succ n ih =>
    intro l hl
    rw [Nat.succ_mul] at hl
    obtain ⟨h1, h2, h3⟩ := ih (l.drop s) (by simp; omega)
    refine ⟨?_, fun r hr => ?_, by simp [chunk, h3]⟩
    · simp only [chunk, List.flatten_cons, h1, Nat.succ_mul]
      rw [Nat.add_comm (n * s) s, List.take_add]
    · simp only [chunk, List.mem_cons] at hr
      rcases hr with rfl | hr
      · simp; omega
      · exact h2 r hr
def bndV (hi : Option V) (d : Nat) : Option Int :=
  match hi with
  | none => some d
  | some (.lit (.int _ n)) => some n
  | _ => none
def sslice (P : Program) (T : TypeId) (v : V) (lo hi : Option V) (C : V → Prop) : Prop :=
  match P.underlying T, v with
  | some .string, .lit (.string s) =>
    (match bndV lo 0, bndV hi s.size with
     | some l, some h => 0 ≤ l ∧ l ≤ h ∧ h ≤ s.size ∧ C (.lit (.string (s.extract l.toNat h.toNat)))
     | _, _ => False)
  | some (.slice e), .list _ rows =>
    (match bndV lo 0, bndV hi rows.length, sizeT P e with
     | some l, some h, some s => 0 ≤ l ∧ l ≤ h ∧ h ≤ rows.length ∧ (∀ r ∈ rows, r.length = s) ∧ C (.list .none ((rows.take h.toNat).drop l.toNat))
     | _, _, _ => False)
  | some (.array n e), .eptr rows i off =>
    (match bndV lo 0, bndV hi n, sizeT P e, rows[i]? with
     | some l, some h, some s, some r => 0 < s ∧ 0 ≤ l ∧ l ≤ h ∧ h ≤ n ∧ n ≤ 1073741824 ∧ off + n * s ≤ r.length ∧ C (.list .none (chunk s (h.toNat - l.toNat) (r.drop (off + l.toNat * s))))
     | _, _, _, _ => False)
  | some (.array n e), .ptr id off =>
    (match bndV lo 0, bndV hi n, sizeT P e with
     | some l, some h, some s => 0 ≤ l ∧ l ≤ h ∧ h ≤ n ∧ l < n ∧ n ≤ 1073741824 ∧ C (.arr id (off + l.toNat * s) (h.toNat - l.toNat) (n - l.toNat))
     | _, _, _ => False)
  | _, _ => False
theorem run_bounds {isS : Bool} {len cap l h : Nat} {lo hi : Option V} {lo' hi' : Option Value} (hlo : ∀ v, lo = some v → ∃ x, lo' = some x ∧ CR c [v] [x]) (hln : lo = none → lo' = none) (hhi : ∀ v, hi = some v → ∃ x, hi' = some x ∧ CR c [v] [x]) (hhn : hi = none → hi' = none)
    (hl : bndV lo 0 = some (l : Int)) (hh : bndV hi len = some (h : Int)) (h1 : l ≤ h) (h2 : h ≤ len) (h3 : len ≤ cap) (w : World) : (Instr.sliceBounds isS len cap lo' hi' none).run P w = .ok (l, h, cap) w := by
  have ehi : ∀ k n, hi' = some (.int k n) → n = h → (Instr.sliceBound (.int k n) cap (if isS then .sliceAcap else .sliceAlen)).run P w = .ok h w := by
    intro k n _ e
    subst e
    simp [Instr.sliceBound, asIntOf, show (h : Int) ≤ cap by omega]
  have elo : ∀ k n, lo' = some (.int k n) → n = l → (Instr.sliceBound (.int k n) h .sliceB).run P w = .ok l w := by
    intro k n _ e
    subst e
    simp [Instr.sliceBound, asIntOf, show (l : Int) ≤ h by omega]
  cases lo with
  | none =>
    obtain rfl := hln rfl
    simp only [bndV, Option.some.injEq] at hl
    obtain rfl : l = 0 := by omega
    cases hi with
    | none =>
      obtain rfl := hhn rfl
      simp only [bndV, Option.some.injEq] at hh
      obtain rfl : len = h := by omega
      simp [Instr.sliceBounds]
    | some v =>
      obtain ⟨x, rfl, hx⟩ := hhi v rfl
      cases v with
      | lit v =>
        obtain rfl := hx.inv_lit
        cases x with
        | int k n =>
          simp only [bndV, Option.some.injEq] at hh
          simp [Instr.sliceBounds, ehi k n rfl hh]
        | _ => simp [bndV] at hh
      | _ => simp [bndV] at hh
  | some v =>
    obtain ⟨x, rfl, hx⟩ := hlo v rfl
    cases v with
    | lit v =>
      obtain rfl := hx.inv_lit
      cases x with
      | int k n =>
        simp only [bndV, Option.some.injEq] at hl
        cases hi with
        | none =>
          obtain rfl := hhn rfl
          simp only [bndV, Option.some.injEq] at hh
          obtain rfl : len = h := by omega
          simp [Instr.sliceBounds, elo k n rfl hl]
        | some v =>
          obtain ⟨x, rfl, hx⟩ := hhi v rfl
          cases v with
          | lit v =>
            obtain rfl := hx.inv_lit
            cases x with
            | int k' n' =>
              simp only [bndV, Option.some.injEq] at hh
              simp [Instr.sliceBounds, ehi k' n' rfl hh, elo k n rfl hl]
            | _ => simp [bndV] at hh
          | _ => simp [bndV] at hh
      | _ => simp [bndV] at hl
    | _ => simp [bndV] at hl
theorem flatten_cut {sz : Nat} : ∀ (rs : List (List V)) (n : Nat), (∀ r ∈ rs, r.length = sz) → (rs.take n).flatten = rs.flatten.take (n * sz) ∧ (rs.drop n).flatten = rs.flatten.drop (n * sz) := by
  intro rs
  induction rs with
  | nil => intro n _; simp
  | cons r rs ih =>
    intro n hr
    have hr0 := hr r (by simp)
    cases n with
    | zero => simp
    | succ n =>
      obtain ⟨i1, i2⟩ := ih n (fun r hr' => hr r (by simp [hr']))
      have e1 : (n + 1) * sz = r.length + n * sz := by rw [Nat.succ_mul, hr0]; omega
      refine ⟨?_, ?_⟩
      · simp only [List.take_succ_cons, List.flatten_cons, i1, e1]
        rw [List.take_length_add_append]
      · simp only [List.drop_succ_cons, List.flatten_cons, i2, e1]
        rw [List.drop_length_add_append]
theorem sslice_ok {T : TypeId} {v : V} {lo hi : Option V} {C : V → Prop} (hs : sslice P T v lo hi C) {x : Value} (hv : CR c [v] [x]) {lo' hi' : Option Value} (hlo : ∀ v, lo = some v → ∃ x, lo' = some x ∧ CR c [v] [x]) (hln : lo = none → lo' = none)
    (hhi : ∀ v, hi = some v → ∃ x, hi' = some x ∧ CR c [v] [x]) (hhn : hi = none → hi' = none) (w : World) : ∃ r, C r ∧ ∃ z, (Instr.sliceAt T x lo' hi' none).run P w = .ok z w ∧ CR c [r] [z] := by
  unfold sslice at hs
  split at hs
  · rename_i s hu
    obtain rfl := hv.inv_lit
    split at hs
    · rename_i l h hl hh
      obtain ⟨h0, h1, h2, hC⟩ := hs
      have hb := run_bounds (P := P) (isS := false) (cap := s.size) hlo hln hhi hhn (l := l.toNat) (h := h.toNat) (by rw [hl]; congr 1; omega) (by rw [hh]; congr 1; omega) (by omega) (by omega) (Nat.le_refl _) w
      exact ⟨_, hC, _, by simp [Instr.sliceAt, Instr.slice, run_underlying hu, hb], .lit .nil⟩
    · exact hs.elim
  · rename_i e o rows hu
    split at hs
    · rename_i l h s hl hh hsz
      obtain ⟨h0, h1, h2, h3, hC⟩ := hs
      obtain ⟨a, cap, es, sz, rfl, k1, k2, kz, k3, k4, k5, k6, kc, k7⟩ := hv.inv_list
      have hb := run_bounds (P := P) (isS := true) (len := rows.length) (cap := cap) hlo hln hhi hhn (l := l.toNat) (h := h.toNat) (by rw [hl]; congr 1; omega) (by rw [hh]; congr 1; omega) (by omega) (by omega) k3 w
      refine ⟨_, hC, .slice (if cap = l.toNat then a else a.map (·.add (l.toNat * s))) (h.toNat - l.toNat) (cap - l.toNat), ?_, ?_⟩
      · simp [Instr.sliceAt, Instr.slice, run_underlying hu, hb, run_sizeT hsz]
      · have hlen : ((rows.take h.toNat).drop l.toNat).length = h.toNat - l.toNat := by simp; omega
        have hes : es.length = rows.length * sz := flat_len k1 k2
        have hsub : CR c ((rows.take h.toNat).drop l.toNat).flatten ((es.take (h.toNat * sz)).drop (l.toNat * sz)) := by
          have e1 : ((rows.take h.toNat).drop l.toNat).flatten = (rows.flatten.take (h.toNat * sz)).drop (l.toNat * sz) := by
            rw [(flatten_cut _ _ (fun r hr => k2 r (List.mem_of_mem_take hr))).2, (flatten_cut _ _ k2).1]
          rw [e1]; exact (k1.take _).drop _
        have hs2 : 0 < rows.length → sz = s := by
          intro hp
          obtain ⟨r, hr⟩ : ∃ r, r ∈ rows := by cases rows with | nil => simp at hp | cons r _ => exact ⟨r, by simp⟩
          rw [← k2 r hr, h3 r hr]
        have := CR.list (c := c) (o := .none) (a := if cap = l.toNat then a else a.map (·.add (l.toNat * s))) (cap := cap - l.toNat) hsub (fun r hr => k2 r (List.mem_of_mem_take (List.mem_of_mem_drop hr))) kz (by omega) (by omega)
          (fun hp => by
            obtain ⟨b, off, rfl⟩ := k5 (by omega)
            rw [if_neg (by omega)]
            exact ⟨b, off + l.toNat * s, by simp [addr_add]⟩)
          (fun hp => by
            have hp' : 0 < ((es.take (h.toNat * sz)).drop (l.toNat * sz)).length := hp
            have hlh : l.toNat < h.toNat := by
              rcases Nat.lt_or_ge l.toNat h.toNat with g | g
              · exact g
              · exfalso
                have : h.toNat * sz ≤ l.toNat * sz := Nat.mul_le_mul_right _ g
                rw [List.length_drop, List.length_take] at hp
                omega
            have hpos : 0 < es.length := by rw [hes]; exact Nat.mul_pos (by omega) kz
            obtain ⟨b, off, rfl, hG⟩ := k6 hpos
            rw [if_neg (by omega), ← hs2 (by omega)]
            refine ⟨b, off + l.toNat * sz, by simp [addr_add], fun i u hi => ?_⟩
            rw [List.getElem?_drop, List.getElem?_take] at hi
            split at hi
            · rw [Nat.add_assoc]; exact hG _ u hi
            · cases hi)
          (fun u hu => kc u (List.mem_of_mem_take (List.mem_of_mem_drop hu))) trivial .nil
        rw [hlen] at this; exact this
    · exact hs.elim
  · rename_i n e rows i off hu
    split at hs
    · rename_i l h s r hl hh hsz hr
      obtain ⟨hs0, h0, h1, h2, hn, hfit, hC⟩ := hs
      obtain ⟨b, o, sz, es, rfl, k1, k2, k3, k4⟩ := hv.inv_eptr
      have hb := run_bounds (P := P) (isS := false) (len := n) (cap := n) hlo hln hhi hhn (l := l.toNat) (h := h.toNat) (by rw [hl]; congr 1; omega) (by rw [hh]; congr 1; omega) (by omega) (by omega) (Nat.le_refl _) w
      have hrl : r.length = sz := k2 r (List.mem_of_getElem? hr)
      have hf := flatten_at k2 hr
      have hmul : (h.toNat - l.toNat) * s + l.toNat * s ≤ n * s := by rw [← Nat.add_mul]; exact Nat.mul_le_mul_right _ (by omega)
      obtain ⟨c1, c2, c3⟩ := chunk_ok (s := s) (h.toNat - l.toNat) (r.drop (off + l.toNat * s)) (by simp; omega)
      have hcr : CR c (chunk s (h.toNat - l.toNat) (r.drop (off + l.toNat * s))).flatten ((((es.drop (i * sz)).take sz).drop (off + l.toNat * s)).take ((h.toNat - l.toNat) * s)) := by
        rw [c1]
        have := ((((k1.drop (i * sz)).take sz).drop (off + l.toNat * s)).take ((h.toNat - l.toNat) * s))
        rw [hf.2] at this; exact this
      have hcells : ∀ j u, ((((es.drop (i * sz)).take sz).drop (off + l.toNat * s)).take ((h.toNat - l.toNat) * s))[j]? = some u → c.G b (o + i * sz + off + l.toNat * s + j) = some u := by
        intro j u hj
        rw [List.getElem?_take] at hj
        split at hj
        · rw [List.getElem?_drop, List.getElem?_take] at hj
          split at hj
          · rw [List.getElem?_drop] at hj
            have := k3 _ u hj
            rw [show o + i * sz + off + l.toNat * s + j = o + (i * sz + (off + l.toNat * s + j)) by omega]; exact this
          · cases hj
        · cases hj
      have := CR.list (c := c) (o := .none) (a := some (if n = l.toNat then ⟨b, o + i * sz + off, none⟩ else (⟨b, o + i * sz + off, none⟩ : Addr).add (l.toNat * s))) (cap := n - l.toNat) hcr c2 hs0 (by omega) (by simp only [maxLen]; omega)
        (fun _ => by
          split
          · exact ⟨_, _, rfl⟩
          · exact ⟨b, o + i * sz + off + l.toNat * s, by rw [addr_add]⟩) (fun hp => by
          have hlt : n ≠ l.toNat := by
            intro e2
            have : h.toNat - l.toNat = 0 := by omega
            rw [this] at hp; simp at hp
          rw [if_neg hlt, addr_add]
          exact ⟨b, _, rfl, fun j u hj => hcells j u hj⟩) (fun u hu => k4 u (List.mem_of_mem_drop (List.mem_of_mem_take (List.mem_of_mem_drop (List.mem_of_mem_take hu))))) trivial .nil
      rw [c3] at this
      refine ⟨_, hC, _, ?_, this⟩
      simp [Instr.sliceAt, run_underlying hu, hb, run_sizeT hsz, Instr.sureAddr]
    · exact hs.elim
  · rename_i n e id off hu
    split at hs
    · rename_i l h s hl hh hsz
      obtain ⟨h0, h1, h2, hln2, hn, hC⟩ := hs
      obtain ⟨b, hr, rfl⟩ := hv.inv_ptr
      have hb := run_bounds (P := P) (isS := false) (len := n) (cap := n) hlo hln hhi hhn (l := l.toNat) (h := h.toNat) (by rw [hl]; congr 1; omega) (by rw [hh]; congr 1; omega) (by omega) (by omega) (Nat.le_refl _) w
      have e2 : ¬ n = l.toNat := by omega
      · refine ⟨_, hC, .slice (some ⟨b, off + l.toNat * s, none⟩) (h.toNat - l.toNat) (n - l.toNat), ?_, .arr hr (by omega) (by simp only [maxLen]; omega) .nil⟩
        simp [Instr.sliceAt, run_underlying hu, hb, run_sizeT hsz, Instr.sureAddr, e2, addr_add]
    · exact hs.elim
  · exact hs.elim
end
end Go.Proofs.YtolhahlnccekcaaDoor.Abs
