/-
  Walk: CertParses: any bytes are read as the certificate whose bytes they are, or as none.
-/
import Derived.Test.YtolhahlnccekcaaLaw24
namespace Go.Proofs.Ytolhahlnccekcaa
open Go.RowKit

theorem parse_inv (bs : List Nat) (c : Cf) (r : Cf × RS) (h : (if r.2.bad then none else if r.1.write = (bs, true) then some r.1 else none) = some c) : c.write = (bs, true) := by
  by_cases h1 : r.2.bad = true
  · rw [if_pos h1] at h; cases h
  · rw [if_neg h1] at h
    by_cases h2 : r.1.write = (bs, true)
    · rw [if_pos h2] at h; injection h with h; rw [← h]; exact h2
    · rw [if_neg h2] at h; cases h
theorem parseM_inv {bs : List Nat} {c : Cf} (h : parseM bs = some c) : c.write = (bs, true) := parse_inv bs c _ h

theorem beq_refl_bytes (s : ByteArray) : (s.toList == s.toList) = true := by simp

set_option maxRecDepth 100000 in
set_option maxHeartbeats 2000000 in
theorem certParses_big (G : GG) (bs : List Nat) (w : World) (a : Option Addr) (cap : Nat) (hC : Com w G) (hl : 3000 < bs.length) (hm : bs.length ≤ 9223372036854775807) :
    Calls Try.prog 3 #[.slice a bs.length cap] w fun e w' => e = .returned (.bool true) ∧ ∃ G', St G w none G' w' := by
  have HC := hid hC
  clear hC
  go_enter Try.func3, Try.ntmps3
  go_wp2_with fail
  refine (anchor_any G w HC.out).mono ?_
  rintro e w1 ⟨rfl, G1, hS1⟩
  have HS1 := hid hS1
  clear hS1
  go_wp2_with fail
  go_ret
  exact ⟨rfl, G1, HS1.out⟩

theorem blk_cells {w : World} {g t : Nat} {cs : List Value} (h : Blk w g t ⟨cs⟩) : ∀ j u, cs[j]? = some u → w.cell? ⟨g, 0 + j, none⟩ = some u := by
  intro j u hu
  rw [Nat.zero_add, h.cell j]; simpa using hu
theorem wpList_load_if {P : Program} {ops : Array Oper} {rest : List Oper} {o : Oper} {a : Act} {w : World} {Q : Exit → Act → World → Prop} (hw : Region.wanted o (yielded ops a.tmps) = true) (ty : TypeId) (x : Operand) (ho : o.op = .load ty x)
    {b off : Nat} (xs : List Value) (hx : a.eval x = .pointer (some ⟨b, off, none⟩)) (hc : ∀ j u, xs[j]? = some u → w.cell? ⟨b, off + j, none⟩ = some u) (d : TypeDesc) (hu : P.underlying ty = some d)
    (hd : (match d with | .struct _ | .array _ _ => true | _ => false) = true) (hi : (P.info? ty).map (·.size) = some xs.length)
    (h : wpList P ops Q rest (a.put o.dst (.agg ⟨xs⟩)) w) : wpList P ops Q (o :: rest) a w :=
  BigFrame.wpList_want hw fun _ hK => by
    unfold Oper.wp execOp
    simp only [ho, hx, Instr.loadAt, Instr.sureAddr, Sem.run_bind, Sem.run_pure, Result.andThen_ok, run_load_cells w xs hc ty d hu hd hi]
    exact hK _ _ h
theorem eq_part (xs ys : List Value) (h : xs.length = ys.length) : ys = List.take 0 xs ++ ys ++ List.drop (0 + ys.length) xs := by
  simp [← h]

set_option maxRecDepth 100000 in
set_option maxHeartbeats 2000000 in
theorem certParses_none (G : GG) (bs : List Nat) (w : World) (a : Option Addr) (cap : Nat) (hC : Com w G) (hb : SliceIs G (bs.map byteD) a bs.length cap) (hl : bs.length ≤ 3000) (hp : parseM bs = none) :
    Calls Try.prog 3 #[.slice a bs.length cap] w fun e w' => e = .returned (.bool true) ∧ ∃ G', St G w none G' w' := by
  have HC := hid hC
  have HB := hid hb
  have HP := hid hp
  clear hC hb hp
  go_enter Try.func3, Try.ntmps3
  go_wp2_with fail
  refine (anchor_any G w HC.out).mono ?_
  rintro e w1 ⟨rfl, G1, hS1⟩
  have HS1 := hid hS1
  have HB1 := hid (HB.out.ext hS1.ext)
  have hl2 : decide (3000 < (bs.length : Int)) = false := by simp; omega
  clear hS1
  go_wp2_with fail
  refine (parse_any G1 bs w1 a cap HS1.out.com HB1.out hl).mono ?_
  rintro e w2 ⟨G2, hS2, h2⟩
  rw [HP.out] at h2
  obtain rfl : e = .returned (.tuple #[.agg cfZero, .int .i64 10]) := by
    rcases h2 with ⟨c, cs, h, _⟩ | ⟨_, h⟩
    · cases h
    · exact h
  clear h2
  have HS2 := hid (HS1.out.call_none hS2)
  clear hS2
  have HRZ : Hid (∀ G, Reps G [Cf.zero.enc] cfZero.toList) := cf_zero_reps
  have HONE := hid (HRZ.out G2).one
  obtain ⟨cs, hcs⟩ : ∃ cs, cs = cfZero.toList := ⟨_, rfl⟩
  have hcf : cfZero = ⟨cs⟩ := by rw [hcs]
  rw [← hcs] at HONE HRZ
  have HL : Hid (cs.length = 18) := by show _ = _; rw [hcs]; rfl
  have HCF := hid hcf
  simp only [hcf]
  clear hcf hcs
  go_wp2_with (first
    | (refine wpList_store_part rfl 34 (.tmp 3) (.tmp 15) rfl ⟨cs⟩ cs rfl (Blk.new w2 34 _) rfl (by rw [HL.out]; kernel_rfl) HONE.out (by rw [HL.out]; decide) (by apply eq_part; rw [HL.out]; rfl) ?_
       intro w3 hb3 hg3
       have HB3 := hid hb3
       have HS3 := hid ((HS2.out.alloc _).step hg3 (fun g e => by injection e with e; subst e; exact ⟨HS2.out.size, HS2.out.com.out (Nat.le_refl _)⟩))
       clear hb3 hg3)
    | (refine wpList_load_cells rfl 34 (.tmp 3) rfl cs rfl (blk_cells HB3.out) _ Try.underlying34 rfl (by rw [HL.out]; kernel_rfl) ?_)
    | (refine wpList_load_if (by rfl) 34 (.tmp 3) rfl cs rfl (blk_cells HB3.out) _ Try.underlying34 rfl (by rw [HL.out]; kernel_rfl) ?_))
  refine (certSame_zero w3 _ G2 (HRZ.out G2)).mono ?_
  rintro e w4 ⟨rfl, hg4⟩
  have HS4 := hid (HS3.out.step hg4 (fun g e => by cases e))
  clear hg4
  go_wp2_with fail
  go_ret
  exact ⟨rfl, G2, HS4.out⟩

set_option maxRecDepth 100000 in
set_option maxHeartbeats 4000000 in
theorem certParses_some (G : GG) (bs : List Nat) (w : World) (a : Option Addr) (cap : Nat) (hC : Com w G) (hb : SliceIs G (bs.map byteD) a bs.length cap) (hl : bs.length ≤ 3000) (c : Cf) (hp : parseM bs = some c) :
    Calls Try.prog 3 #[.slice a bs.length cap] w fun e w' => e = .returned (.bool true) ∧ ∃ G', St G w none G' w' := by
  have HC := hid hC
  have HB := hid hb
  have HP := hid hp
  have HWR := hid (parseM_inv hp)
  clear hC hb hp
  go_enter Try.func3, Try.ntmps3
  go_wp2_with fail
  refine (anchor_any G w HC.out).mono ?_
  rintro e w1 ⟨rfl, G1, hS1⟩
  have HS1 := hid hS1
  have HB1 := hid (HB.out.ext hS1.ext)
  have hl2 : decide (3000 < (bs.length : Int)) = false := by simp; omega
  clear hS1
  go_wp2_with fail
  refine (parse_any G1 bs w1 a cap HS1.out.com HB1.out hl).mono ?_
  rintro e w2 ⟨G2, hS2, h2⟩
  rw [HP.out] at h2
  obtain ⟨cs, rfl, hr, hok⟩ : ∃ cs, e = .returned (.tuple #[.agg ⟨cs⟩, .int .i64 0]) ∧ Reps G2 [c.enc] cs ∧ CertOk c := by
    rcases h2 with ⟨c, cs, h, h1, h2, h3⟩ | ⟨h, _⟩
    · injection h with h; subst h; exact ⟨cs, h1, h2, h3⟩
    · cases h
  clear h2
  have HS2 := hid (HS1.out.call_none hS2)
  have HB2 := hid (HB1.out.ext hS2.ext)
  clear hS2
  have HONE := hid hr.one
  have HL := hid (c.wide.cells hr)
  have HR := hid hr
  have HOK := hid hok
  clear hr hok
  go_wp2_with (first
    | (refine wpList_store_part rfl 34 (.tmp 3) (.tmp 15) rfl ⟨cs⟩ cs rfl (Blk.new w2 34 _) rfl (by rw [HL.out]; kernel_rfl) HONE.out (by rw [HL.out]; decide) (by apply eq_part; rw [HL.out]; rfl) ?_
       intro w3 hb3 hg3
       have HB3 := hid hb3
       have HS3 := hid ((HS2.out.alloc _).step hg3 (fun g e => by injection e with e; subst e; exact ⟨HS2.out.size, HS2.out.com.out (Nat.le_refl _)⟩))
       clear hg3
       clear hb3)
    | (refine wpList_load_cells rfl 34 (.tmp 3) rfl cs rfl (blk_cells HB3.out) _ Try.underlying34 rfl (by rw [HL.out]; kernel_rfl) ?_))
  refine (bytes_any G2 c w3 _ HS3.out.com HR.out HOK.out).mono ?_
  rintro e w4 ⟨G4, a4, cap4, hS4, h4⟩
  rw [HWR.out] at h4
  obtain ⟨rfl, hI⟩ : e = .returned (.tuple #[.slice a4 bs.length cap4, .int .i64 0]) ∧ SliceIs G4 (bs.map byteD) a4 bs.length cap4 := by
    rcases h4 with ⟨_, h1, h2⟩ | ⟨h1, _⟩
    · exact ⟨h1, h2⟩
    · simp at h1
  clear h4
  have HB4 := hid (HB3.out.grown hS4.gr (by simp))
  have HI := hid hI
  have HCV := hid (run_conv hS4.com hI)
  have HCV2 := hid (run_conv hS4.com (HB2.out.ext hS4.ext))
  have HS4 := hid (HS3.out.call_none hS4)
  have HR4 := hid (HR.out.ext hS4.ext)
  clear hS4 hI
  have hbe := beq_refl_bytes (bytesOf bs)
  go_wp2_with (first
    | simp only [HCV.out, HCV2.out]
    | (refine wpList_load_if (by rfl) 34 (.tmp 3) rfl cs rfl (blk_cells HB4.out) _ Try.underlying34 rfl (by rw [HL.out]; kernel_rfl) ?_))
  refine (right_any G4 c w4 _ HS4.out.com HR4.out HOK.out).mono ?_
  rintro e w5 ⟨rfl, G5, hS5⟩
  have HS5 := hid (HS4.out.call_none hS5)
  clear hS5
  have hwr2 : c.write.2 = true := by rw [HWR.out]
  rw [hwr2]
  clear hwr2
  go_wp2_with fail
  go_ret
  exact ⟨rfl, G5, HS5.out⟩

theorem certParses_any (G : GG) (bs : List Nat) (w : World) (a : Option Addr) (cap : Nat) (hC : Com w G) (hb : SliceIs G (bs.map byteD) a bs.length cap) :
    Calls Try.prog 3 #[.slice a bs.length cap] w fun e w' => e = .returned (.bool true) ∧ ∃ G', St G w none G' w' := by
  by_cases hl : bs.length ≤ 3000
  · cases hp : parseM bs with
    | none => exact certParses_none G bs w a cap hC hb hl hp
    | some c => exact certParses_some G bs w a cap hC hb hl c hp
  · have h1 := hb.2.1
    have h2 := hb.2.2.1
    unfold maxLen at h2
    exact certParses_big G bs w a cap hC (by omega) (by omega)
end Go.Proofs.Ytolhahlnccekcaa
