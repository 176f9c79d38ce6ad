/-
  Own helper theorems of no one function: slices of numbers that came in, seen from above.
-/
import Derived.Test.YtolhahlnccekcaaA23
import Derived.Test.YtolhahlnccekcaaIn
namespace Go.Proofs.Ytolhahlnccekcaa.Abs
open Go.RowKit

theorem reps_ints_inv {G : GG} {k : IntKind} : ∀ {zs : List Int} {cs : List Value}, Reps G (zs.map (Dat.int k)) cs → cs = zs.map (Value.int k) := by
  intro zs
  induction zs with
  | nil => intro cs h; exact h.inv_nil
  | cons z zs ih =>
    intro cs h
    obtain ⟨xs, rfl, _, h2⟩ := h.inv_int
    rw [ih h2]; rfl
theorem slice_cr {c : Conc} {k : IntKind} {a : Option Addr} {len cap : Nat} {zs : List Int} (h : SliceIs c.G (zs.map (Dat.int k)) a len cap) : CR c [.list .none (zs.map fun z => [.lit (.int k z)])] [.slice a len cap] := by
  obtain ⟨h0, h1, h2, cs, h3, h4⟩ := h
  obtain rfl := reps_ints_inv h3
  rw [List.length_map] at h0
  subst h0
  refine ints_in h1 h2 (fun hl => ?_) (fun hl => ?_)
  · obtain ⟨b, off, e, _⟩ := h4 hl; exact ⟨b, off, e⟩
  · rw [List.length_map] at hl
    exact h4 hl
end Go.Proofs.Ytolhahlnccekcaa.Abs
