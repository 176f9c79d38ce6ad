/-
  Own helper theorems of no one function: builds, slices, conversions, seen from above.
-/
import Derived.Test.YtolhahlnccekcaaDoorPsA8
namespace Go.Proofs.YtolhahlnccekcaaDoor.Abs
open Go.RowKit

section
variable {P : Program} {c c' : Conc} {m m' : M} {w w' : World}

/-! ### zero values -/
def zT (P : Program) (T : TypeId) : Option Value := (P.info? T).bind (·.zero)
def zcells (P : Program) (T : TypeId) : Option (List V) :=
  match zT P T with
  | some z => if z.cells.toList.all (fun u => u.oneCell') then some (z.cells.toList.map of1) else none
  | none => none
theorem run_zT {T : TypeId} {z : Value} (h : zT P T = some z) (w : World) : (zeroValue T).run P w = .ok z w := by
  unfold zT at h
  cases hq : P.info? T with
  | none => simp [hq] at h
  | some i => simp [hq] at h; simp [zeroValue, typeInfo, hq, h]
theorem zcells_ok {T : TypeId} {zs : List V} (h : zcells P T = some zs) (c : Conc) : ∃ z, (∀ w, (zeroValue T).run P w = .ok z w) ∧ CR c zs z.cells.toList ∧ ∀ u ∈ z.cells.toList, u.oneCell' = true := by
  unfold zcells at h
  split at h
  · rename_i z hz
    split at h
    · rename_i ha
      injection h with h; subst h
      exact ⟨z, run_zT hz, ofs_ok c _, List.all_eq_true.1 ha⟩
    · cases h
  · cases h

/-! ### build -/
theorem fold_at (off : Nat) (l : List Value) : ∀ (k : Nat) (cells : Array Value) (i : Nat), ((l.zipIdx k).foldl (fun (cs : Array Value) (p : Value × Nat) => cs.setIfInBounds (off + p.2) p.1) cells)[i]? = if off + k ≤ i ∧ i < off + k + l.length ∧ i < cells.size then l[i - off - k]? else cells[i]? := by
  induction l with
  | nil => intro k cells i; simp; intro h1 h2; omega
  | cons x l ih =>
    intro k cells i
    simp only [List.zipIdx_cons, List.foldl_cons]
    rw [ih]
    simp only [Array.size_setIfInBounds, Array.getElem?_setIfInBounds, List.length_cons]
    by_cases h1 : off + (k + 1) ≤ i ∧ i < off + (k + 1) + l.length ∧ i < cells.size
    · rw [if_pos h1, if_pos (by omega), show i - off - k = (i - off - (k + 1)) + 1 by omega, List.getElem?_cons_succ]
    · rw [if_neg h1]
      by_cases h2 : i = off + k
      · subst h2
        by_cases h3 : off + k < cells.size
        · rw [if_pos rfl, if_pos h3, if_pos ⟨by omega, by omega, h3⟩]
          rw [show off + k - off - k = 0 by omega]; rfl
        · rw [if_pos rfl, if_neg h3, if_neg (by omega)]
          exact (Array.getElem?_eq_none (by omega)).symm
      · rw [if_neg (fun e => h2 e.symm), if_neg (by omega)]
theorem fold_part (v cells : Array Value) (off : Nat) (h : off + v.size ≤ cells.size) :
    (v.zipIdx.foldl (fun (cs : Array Value) (p : Value × Nat) => cs.setIfInBounds (off + p.2) p.1) cells) = (cells.toList.take off ++ v.toList ++ cells.toList.drop (off + v.size)).toArray := by
  apply Array.ext_getElem?
  intro i
  rw [← Array.foldl_toList, Array.toList_zipIdx, fold_at off v.toList 0 cells i]
  simp only [Nat.add_zero, Array.length_toList, Nat.sub_zero, List.getElem?_toArray, List.append_assoc]
  have htl : (cells.toList.take off).length = off := by simp; omega
  by_cases h1 : i < off
  · rw [if_neg (by omega), List.getElem?_append_left (by omega), List.getElem?_take_of_lt h1]; simp
  · rw [List.getElem?_append_right (by omega), htl]
    by_cases h2 : i < off + v.size
    · rw [if_pos ⟨by omega, h2, by omega⟩, List.getElem?_append_left (by simp; omega)]
    · rw [if_neg (by omega), List.getElem?_append_right (by simp; omega), List.getElem?_drop]
      simp only [Array.length_toList]
      rw [show off + v.size + (i - off - v.size) = i by omega]; simp

def fillV (place : Nat → Option (Nat × Nat)) (cells : List V) : List (Nat × V) → Option (List V)
  | [] => some cells
  | (i, v) :: rest =>
    match place i with
    | none => none
    | some (off, size) => if v.cellsOk = true ∧ v.cells.length = size ∧ off + size ≤ cells.length then fillV place (cells.take off ++ v.cells ++ cells.drop (off + size)) rest else none
/-- the parts' values -/
inductive CP (c : Conc) : List (Nat × V) → List (Nat × Value) → Prop where
  | nil : CP c [] []
  | cons {i v x vs xs} : CR c [v] [x] → CP c vs xs → CP c ((i, v) :: vs) ((i, x) :: xs)
theorem fillV_ok {place : Nat → Option (Nat × Nat)} {ps : List (Nat × V)} : ∀ {qs : List (Nat × Value)} {cells : List V} {xs : Array Value} {r : List V}, fillV place cells ps = some r → CP c ps qs → CR c cells xs.toList → (∀ u ∈ xs.toList, u.oneCell' = true) →
    ∃ ys, Instr.fill place xs qs = some ys ∧ CR c r ys.toList ∧ ∀ u ∈ ys.toList, u.oneCell' = true := by
  induction ps with
  | nil =>
    intro qs cells xs r h hp hc h1
    cases hp
    simp only [fillV, Option.some.injEq] at h
    subst h
    exact ⟨xs, rfl, hc, h1⟩
  | cons p ps ih =>
    intro qs cells xs r h hp hc h1
    cases hp with
    | @cons i v x _ qs hx hp =>
      simp only [fillV] at h
      split at h
      · cases h
      · rename_i off size hpl
        split at h
        · rename_i hcond
          obtain ⟨ho, hs, hfit⟩ := hcond
          obtain ⟨k1, k2⟩ := cells_ok hx ho
          have hxs : x.cells.size = size := by have := k1.len; simp at this; omega
          have hlen : xs.size = cells.length := by have := hc.len; simpa using this
          have hf := fold_part x.cells xs off (by omega)
          obtain ⟨ys, h2, h3⟩ := ih (qs := qs) (xs := (xs.toList.take off ++ x.cells.toList ++ xs.toList.drop (off + x.cells.size)).toArray) h hp (by
            simp only [hxs]
            exact ((hc.take off).append k1).append (hc.drop (off + size))) (by
            intro u hu
            simp only [List.append_assoc, List.mem_append] at hu
            rcases hu with hu | hu | hu
            · exact h1 u (List.mem_of_mem_take hu)
            · exact k2 u hu
            · exact h1 u (List.mem_of_mem_drop hu))
          refine ⟨ys, ?_, h3⟩
          simp only [Instr.fill, hpl]
          rw [if_neg (by simp; omega)]
          rw [hf]; exact h2
        · cases h

/-- where a struct's fields lie, and how wide they are -/
def places (P : Program) (fs : List Field) : Option (List (Nat × Nat)) :=
  match fs with
  | [] => some []
  | f :: fs => (match sizeT P f.type, places P fs with | some n, some l => some ((f.offset, n) :: l) | _, _ => none)
def splaces (P : Program) (T : TypeId) : Option (List (Nat × Nat)) :=
  match P.underlying T with
  | some (.struct fs) => places P fs.toList
  | _ => none
theorem run_places {fs : List Field} : ∀ {l : List (Nat × Nat)}, places P fs = some l → ∀ w, (fs.mapM fun f => Prod.mk f.offset <$> sizeOf f.type).run P w = .ok l w := by
  induction fs with
  | nil => intro l h w; simp only [places, Option.some.injEq] at h; subst h; rfl
  | cons f fs ih =>
    intro l h w
    simp only [places] at h
    split at h
    · rename_i n l' hn hl
      injection h with h; subst h
      simp [List.mapM_cons, run_sizeT hn, ih hl w]
    · cases h

def sbuild (P : Program) (T : TypeId) (ps : List (Nat × V)) (C : V → Prop) : Prop :=
  match P.underlying T, zcells P T with
  | some (.struct _), some zs => (match splaces P T with | some l => (match fillV (l[·]?) zs ps with | some r => C (.agg r) | none => False) | none => False)
  | some (.array _ e), some zs => (match sizeT P e with | some s => (match fillV (fun i => some (i * s, s)) zs ps with | some r => C (.agg r) | none => False) | none => False)
  | _, _ => False
theorem sbuild_ok {T : TypeId} {ps : List (Nat × V)} {C : V → Prop} (hs : sbuild P T ps C) {qs : Array (Nat × Value)} (hp : CP c ps qs.toList) (w : World) : ∃ r, C r ∧ ∃ z, (Instr.build T qs).run P w = .ok z w ∧ CR c [r] [z] := by
  unfold sbuild at hs
  split at hs
  · rename_i fs zs hu hz
    split at hs
    · rename_i l hl
      split at hs
      · rename_i r hr
        obtain ⟨z, hz1, hz2, hz3⟩ := zcells_ok hz c
        obtain ⟨ys, h1, h2, h3⟩ := fillV_ok hr hp hz2 hz3
        have hl' : places P fs.toList = some l := by simpa [splaces, hu] using hl
        have hm := run_places hl' w
        have hm2 : (fs.mapM (fun f => do pure (f.offset, ← sizeOf f.type)) : Sem (Array (Nat × Nat))).run P w = .ok l.toArray w := by
          simp [Array.mapM_eq_mapM_toList, hm]
        refine ⟨_, hs, .agg ys, ?_, by simpa using CR.agg h2 h3 .nil⟩
        have hg : (fun (x : Nat) => l.toArray[x]?) = (fun (x : Nat) => l[x]?) := by funext x; simp
        unfold Instr.build
        rw [Sem.run_bind, hz1 w, Result.andThen_ok, Sem.run_bind, run_underlying hu w, Result.andThen_ok]
        simp only [Sem.run_bind, hm2, Result.andThen_ok, hg, h1, Sem.run_pure]
      · exact hs.elim
    · exact hs.elim
  · rename_i len e zs hu hz
    split at hs
    · rename_i s hsz
      split at hs
      · rename_i r hr
        obtain ⟨z, hz1, hz2, hz3⟩ := zcells_ok hz c
        obtain ⟨ys, h1, h2, h3⟩ := fillV_ok hr hp hz2 hz3
        refine ⟨_, hs, .agg ys, ?_, by simpa using CR.agg h2 h3 .nil⟩
        unfold Instr.build
        rw [Sem.run_bind, hz1 w, Result.andThen_ok, Sem.run_bind, run_underlying hu w, Result.andThen_ok]
        simp only [Sem.run_bind, run_sizeT hsz, Result.andThen_ok, h1, Sem.run_pure]
      · exact hs.elim
    · exact hs.elim
  · exact hs.elim
end
end Go.Proofs.YtolhahlnccekcaaDoor.Abs
