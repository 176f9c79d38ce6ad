/-
  What a law's arguments are read as: a row of integers that came in, as a slice in a book of its own cells.
-/
import Derived.Test.YtolhahlnccekcaaDoorBase
namespace Go.Proofs.YtolhahlnccekcaaDoor
open Go.RowKit

def rowG (x : Addr) (len : Nat) (k : IntKind) (zs : List Int) : GG := fun b o => if b = x.block ∧ x.off ≤ o ∧ o < x.off + len then some (.int k (zs.getD (o - x.off) 0)) else none

theorem reps_ints (G : GG) (k : IntKind) (zs : List Int) (h : ∀ n ∈ zs, (Lit.int k n).wf = true) : Reps G (zs.map (Dat.int k)) (zs.map (Value.int k)) := by
  induction zs with
  | nil => exact .nil
  | cons z zs ih => exact .int (h z (by simp)) (ih fun n hn => h n (by simp [hn]))

/-- two books as one, where they agree with memory -/
def bothG (G H : GG) : GG := fun b o => match G b o with | some v => some v | none => H b o
theorem bothG_com {w : World} {G H : GG} (h : Com w G) (k : Com w H) : Com w (bothG G H) := by
  intro b o v hv
  unfold bothG at hv
  split at hv
  · rename_i u hu; injection hv with hv; subst hv; exact h _ _ _ hu
  · exact k _ _ _ hv
theorem bothG_left {G H : GG} {b o : Nat} {v : Value} (h : G b o = some v) : bothG G H b o = some v := by simp [bothG, h]
/-- what is in the second book is in both, at the same value -/
theorem bothG_right {w : World} {G H : GG} (h : Com w G) (k : Com w H) {b o : Nat} {v : Value} (hv : H b o = some v) : bothG G H b o = some v := by
  unfold bothG
  split
  · rename_i u hu
    have h1 := h _ _ _ hu
    have h2 := k _ _ _ hv
    rw [h1] at h2; exact h2
  · exact hv
theorem SliceIs.le {G G' : GG} (hle : ∀ b o v, G b o = some v → G' b o = some v) {es : List Dat} {a : Option Addr} {len cap : Nat} (h : SliceIs G es a len cap) : SliceIs G' es a len cap := by
  obtain ⟨h0, hc, hm, cs, h1, ha⟩ := h
  refine ⟨h0, hc, hm, cs, h1.mono hle, fun hl => ?_⟩
  obtain ⟨b, off, e, h⟩ := ha hl
  exact ⟨b, off, e, fun i u hu => hle _ _ _ (h i u hu)⟩

theorem row_in {k : IntKind} {w : World} {a : Option Addr} {len cap : Nat} {zs : List Int}
    (h : (a = none ∧ len = 0 ∧ cap = 0 ∧ zs = []) ∨ ∃ x, a = some x ∧ len ≤ cap ∧ cap ≤ maxLen ∧ zs.length = cap ∧ (∀ i, i < zs.length → w.cell? (x.add i) = some (.int k (zs.getD i 0))) ∧ ∀ n ∈ zs, (Lit.int k n).wf = true) :
    ∃ G, Com w G ∧ SliceIs G ((zs.take len).map (Dat.int k)) a len cap ∧ (zs.take len).length = len ∧ ∀ n ∈ zs.take len, (Lit.int k n).wf = true := by
  rcases h with ⟨rfl, rfl, rfl, rfl⟩ | ⟨x, rfl, hlc, hm, hz, hcell, hwf⟩
  · exact ⟨fun _ _ => none, fun b o v h => (by cases h), ⟨rfl, Nat.le_refl _, by decide, [], .nil, fun h => by cases h⟩, rfl, by simp⟩
  · have hwf' : ∀ n ∈ zs.take len, (Lit.int k n).wf = true := fun n hn => hwf n (List.mem_of_mem_take hn)
    have hlen : (zs.take len).length = len := by rw [List.length_take]; omega
    rcases Nat.eq_zero_or_pos len with h0 | h0
    · subst h0
      exact ⟨fun _ _ => none, fun b o v h => (by cases h), ⟨by simp, Nat.zero_le _, hm, [], by simpa using .nil, fun h => by cases h⟩, rfl, by simp⟩
    · have hsp : x = ⟨x.block, x.off, none⟩ := by
        have h1 := hcell 0 (by omega)
        cases hs : x.spot with
        | none => cases x; simp_all
        | some s =>
          unfold World.cell? Addr.add at h1
          rw [if_pos rfl, hs] at h1
          split at h1 <;> simp at h1
      refine ⟨rowG x len k zs, fun b o v hv => ?_, ⟨by simp; omega, hlc, hm, (zs.take len).map (Value.int k), reps_ints _ _ _ hwf', fun _ => ⟨x.block, x.off, by rw [← hsp], fun i u hu => ?_⟩⟩, hlen, hwf'⟩
      · unfold rowG at hv
        split at hv
        · rename_i hb
          injection hv with hv
          subst hv
          have := hcell (o - x.off) (by omega)
          rw [hsp, addr_add] at this
          rw [hb.1, ← this]
          congr 2; simp; omega
        · cases hv
      · have hi : i < len := by have := (List.getElem?_eq_some_iff.1 hu).1; simp at this; omega
        unfold rowG
        rw [if_pos ⟨rfl, by omega, by omega⟩]
        rw [show x.off + i - x.off = i by omega]
        rw [List.getElem?_map, List.getElem?_take_of_lt hi, List.getElem?_eq_getElem (by omega)] at hu
        rw [List.getD_eq_getElem?_getD, List.getElem?_eq_getElem (by omega)]
        exact hu
end Go.Proofs.YtolhahlnccekcaaDoor
