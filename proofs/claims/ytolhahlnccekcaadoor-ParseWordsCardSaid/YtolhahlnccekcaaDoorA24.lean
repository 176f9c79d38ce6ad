/-
  Own helper theorems of no one function: slices of numbers that came in, seen from above.
-/
import Derived.Test.YtolhahlnccekcaaDoorA23
import Derived.Test.YtolhahlnccekcaaDoorIn
import Derived.Test.YtolhahlnccekcaaDoorS1
namespace Go.Proofs.YtolhahlnccekcaaDoor.Abs
open Go.RowKit

theorem reps_ints_inv {G : GG} {k : IntKind} : ∀ {zs : List Int} {cs : List Value}, Reps G (zs.map (Dat.int k)) cs → cs = zs.map (Value.int k) := by
  intro zs
  induction zs with
  | nil => intro cs h; exact h.inv_nil
  | cons z zs ih =>
    intro cs h
    obtain ⟨xs, rfl, _, h2⟩ := h.inv_int
    rw [ih h2]; rfl
theorem slice_cr {c : Conc} {k : IntKind} {a : Option Addr} {len cap : Nat} {zs : List Int} (h : SliceIs c.G (zs.map (Dat.int k)) a len cap) : CR c [.list .none (zs.map fun z => [.lit (.int k z)])] [.slice a len cap] := by
  obtain ⟨h0, h1, h2, cs, h3, h4⟩ := h
  obtain rfl := reps_ints_inv h3
  rw [List.length_map] at h0
  subst h0
  refine ints_in h1 h2 (fun hl => ?_) (fun hl => ?_)
  · obtain ⟨b, off, e, _⟩ := h4 hl; exact ⟨b, off, e⟩
  · rw [List.length_map] at hl
    exact h4 hl
/-- bytes that came in -/
theorem bytes_cr {c : Conc} {a : Option Addr} {len cap : Nat} {zs : List Int} (h : SliceIs c.G (zs.map (Dat.int .u8)) a len cap) (hw : ∀ n ∈ zs, (Lit.int .u8 n).wf = true) : CR c [.list .none (byteRows (zs.map fun z => z.toNat.toUInt8))] [.slice a len cap] := by
  have e : byteRows (zs.map fun z => z.toNat.toUInt8) = zs.map fun z => [V.lit (.int .u8 z)] := by
    unfold byteRows
    rw [List.map_map]
    refine List.map_congr_left fun z hz => ?_
    have h1 := hw z hz
    have h2 : 0 ≤ z ∧ z < 256 := by
      simp [Lit.wf, IntKind.min, IntKind.max, IntKind.signed, IntKind.bits] at h1
      omega
    simp only [Function.comp]
    have h3 : ((z.toNat.toUInt8.toNat : Nat) : Int) = z := by
      rw [Nat.toUInt8, UInt8.toNat_ofNat']
      omega
    rw [h3]
  rw [e]
  exact slice_cr h
end Go.Proofs.YtolhahlnccekcaaDoor.Abs
