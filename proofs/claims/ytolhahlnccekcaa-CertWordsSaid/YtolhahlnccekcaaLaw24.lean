/-
  Walks: the anchor, CertParses.
-/
import Derived.Test.YtolhahlnccekcaaSame
namespace Go.Proofs.Ytolhahlnccekcaa
open Go.RowKit

def zb : List Nat := [0, 1, 0, 0, 1, 0, 0, 0, 0, 1, 1, 0, 0, 0, 14, 0, 0, 0]
theorem zero_write : Cf.zero.write = (zb, true) := by
  simp only [Cf.write, WS.body, Cf.zero, Ct.zero, Tm.zero, WS.steps, WS.stepl, WS.cost, WS.term, WS.costs, List.foldl]
  decide
theorem zero_cert : RS.cert ⟨zb, false⟩ = (Cf.zero, ⟨[14, 0, 0, 0], false⟩) := by kernel_rfl
theorem zero_parse : parseM zb = some Cf.zero := by
  simp [parseM, zero_cert, zero_write]
theorem bytesOf_zb : (bytesOf zb).toList = [0, 1, 0, 0, 1, 0, 0, 0, 0, 1, 1, 0, 0, 0, 14, 0, 0, 0] := by kernel_rfl
theorem zero_ok : CertOk Cf.zero := ⟨by decide, by decide, trivial⟩
theorem zArr_at (a1 : Option Addr) (k1 : Nat) (a2 : Option Addr) (k2 : Nat) (a3 : Option Addr) (k3 : Nat) (a4 : Option Addr) (k4 : Nat) (a5 : Option Addr) (k5 : Nat) : (zArr a1 k1 a2 k2 a3 k3 a4 k4 a5 k5).size = 18 := rfl

set_option maxRecDepth 100000 in
set_option maxHeartbeats 1000000 in
theorem anchor_any (G : GG) (w : World) (hC : Com w G) : Calls Try.prog 5 #[] w fun e w' => e = .returned (.bool true) ∧ ∃ G', St G w none G' w' := by
  have HS := hid (St.start hC)
  go_enter Try.func5, Try.ntmps5
  go_wp2_with fail
  refine (bytes_any G Cf.zero w cfZero.toList HS.out.com (cf_zero_reps G) zero_ok).mono ?_
  rintro e w1 ⟨G1, a, cap, hS1, h1⟩
  rw [zero_write] at h1
  obtain ⟨-, rfl, hI⟩ : True ∧ e = .returned (.tuple #[.slice a zb.length cap, .int .i64 0]) ∧ SliceIs G1 (zb.map byteD) a zb.length cap := by
    rcases h1 with ⟨_, h1, h2⟩ | ⟨h1, _⟩
    · exact ⟨trivial, h1, h2⟩
    · simp at h1
  have HS1 := hid hS1
  have HI := hid hI
  have HCV := hid (run_conv hS1.com hI)
  clear hS1 h1 hI
  go_wp2_with fail
  refine (parse_any G1 zb w1 a cap HS1.out.com HI.out (by decide)).mono ?_
  rintro e w2 ⟨G2, hS2, h2⟩
  rw [zero_parse] at h2
  obtain ⟨cs, rfl, hr⟩ : ∃ cs, e = .returned (.tuple #[.agg ⟨cs⟩, .int .i64 0]) ∧ Reps G2 [Cf.zero.enc] cs := by
    rcases h2 with ⟨c, cs, hc, he, hr, _⟩ | ⟨h, _⟩
    · injection hc with hc; subst hc; exact ⟨cs, he, hr⟩
    · cases h
  clear h2
  have HR := hid hr
  have HS2 := hid (HS1.out.call_none hS2)
  have HI2 := hid (HI.out.ext hS2.ext)
  clear hS2 HCV
  obtain ⟨a1, k1, a2, k2, a3, k3, a4, k4, a5, k5, hcs⟩ := zero_inv HR.out
  subst hcs
  have hone := HR.out.one
  have HONE := hid hone
  clear hone
  go_wp2_with (first
    | (refine wpList_store_part rfl 34 (.tmp 3) (.tmp 13) rfl (zArr a1 k1 a2 k2 a3 k3 a4 k4 a5 k5) (zArr a1 k1 a2 k2 a3 k3 a4 k4 a5 k5).toList rfl (Blk.new w2 34 _) rfl (by kernel_rfl) HONE.out (by simp [zArr]) (by rfl) ?_
       intro w3 hb3 hg3
       have HB3 := hid hb3
       have HG3 := hid hg3
       unfold zArr at hb3
       have hS3 := (HS2.out.alloc (Obj.cells cfZero 34)).step hg3 (fun g e => by injection e with e; subst e; exact ⟨HS2.out.size, HS2.out.com.out (Nat.le_refl _)⟩)
       have HCV := hid (run_conv hS3.com HI2.out)
       have HS3 := hid hS3
       have c0 := hb3.cell 0
       have c1 := hb3.cell 1
       have c2 := hb3.cell 2
       have c3 := hb3.cell 3
       have c4 := hb3.cell 4
       have c5 := hb3.cell 5
       have c6 := hb3.cell 6
       have c7 := hb3.cell 7
       have c8 := hb3.cell 8
       have c9 := hb3.cell 9
       have c10 := hb3.cell 10
       have c11 := hb3.cell 11
       have c12 := hb3.cell 12
       have c13 := hb3.cell 13
       have c14 := hb3.cell 14
       have c15 := hb3.cell 15
       have c16 := hb3.cell 16
       have c17 := hb3.cell 17
       simp at c0 c1 c2 c3 c4 c5 c6 c7 c8 c9 c10 c11 c12 c13 c14 c15 c16 c17
       clear hg3 hb3 hS3)
    | simp only [HCV.out])
  refine (certSame_zero w3 _ G2 HR.out).mono ?_
  rintro e w4 ⟨rfl, hg4⟩
  have HS4 := hid (HS3.out.step hg4 (fun g e => by cases e))
  clear hg4
  go_wp2_with fail
  go_ret
  exact ⟨rfl, G2, HS4.out⟩
  rename_i hno
  exact absurd bytesOf_zb hno
end Go.Proofs.Ytolhahlnccekcaa
