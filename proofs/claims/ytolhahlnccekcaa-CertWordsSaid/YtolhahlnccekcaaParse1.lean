/-
  Walks: bytes.Equal, Bytes, Right.
-/
import Derived.Test.YtolhahlnccekcaaWrite6
namespace Go.Proofs.Ytolhahlnccekcaa
open Go.RowKit

theorem strOf_bytes (l : List Nat) : strOfNums (l.map (fun n : Nat => (n : Int))) = bytesOf l := by
  unfold strOfNums bytesOf
  rw [List.map_map]
  rfl
theorem run_conv {G : GG} {w : World} {l : List Nat} {a : Option Addr} {cap : Nat} (hC : Com w G) (h : SliceIs G (l.map byteD) a l.length cap) : (convert 22 9 (.slice a l.length cap)).run Try.prog w = .ok (.string (bytesOf l)) w := by
  obtain ⟨h0, h1, h2, cs, h3, h4⟩ := h
  rcases Nat.eq_zero_or_pos l.length with hl | hl
  · have hn : l = [] := List.eq_nil_of_length_eq_zero hl
    subst hn
    cases a with
    | none => exact run_convert_bytes_nil w _ _ Try.underlying22 Try.underlying5 _ _ _ Try.underlying9
    | some ad =>
      show (convert 22 9 (.slice (some ad) 0 cap)).run Try.prog w = .ok (.string (bytesOf [])) w
      rw [run_convert_bytes_string w _ _ _ _ _ cap Try.underlying22 Try.underlying5 Try.underlying9, run_bytesToString w ad 0 cap [] (by simp [loadCells, loadCellsFrom])]
      rfl
  · obtain ⟨b, off, rfl, hG⟩ := h4 hl
    have hcs : ∀ (l : List Nat) cs, Reps G (l.map byteD) cs → cs = l.map (fun n : Nat => Value.int .u8 (n : Int)) := by
      intro l
      induction l with
      | nil => intro cs h; exact h.inv_nil
      | cons x l ih => intro cs h; obtain ⟨xs, rfl, _, h⟩ := Reps.inv_int h; rw [ih _ h]; rfl
    have hc := hcs l cs h3
    subst hc
    have := run_convert_bytes_arg (P := Try.prog) w 22 5 Try.underlying22 Try.underlying5 b off l.length cap (l.map (fun n : Nat => (n : Int))) (by simp) (fun i hi => by
      rw [hC _ _ _ (hG i (.int .u8 l[i]) (by simp [hi]))]
      simp [List.getD, hi]) 9 Try.underlying9
    rw [this, strOf_bytes]

def Bytes256 (l : List Nat) : Prop := ∀ n ∈ l, n < 256
theorem bytesOf_inj {l m : List Nat} (hl : Bytes256 l) (hm : Bytes256 m) (h : bytesOf l = bytesOf m) : l = m := by
  have h1 : l.map UInt8.ofNat = m.map UInt8.ofNat := by
    have := congrArg (fun b : ByteArray => b.data.toList) h
    simpa [bytesOf] using this
  have h2 : ∀ k : List Nat, Bytes256 k → (k.map UInt8.ofNat).map UInt8.toNat = k := by
    intro k hk
    rw [List.map_map]
    conv => rhs; rw [← List.map_id k]
    refine List.map_congr_left fun n hn => ?_
    have := hk n hn
    simp; omega
  rw [← h2 l hl, ← h2 m hm, h1]
theorem slice_256 {G : GG} {l : List Nat} {a : Option Addr} {cap : Nat} (h : SliceIs G (l.map byteD) a l.length cap) : Bytes256 l := by
  obtain ⟨_, _, _, cs, h3, _⟩ := h
  have hcs : ∀ (l : List Nat) cs, Reps G (l.map byteD) cs → Bytes256 l := by
    intro l
    induction l with
    | nil => intro cs h n hn; simp at hn
    | cons x l ih =>
      intro cs h n hn
      obtain ⟨xs, rfl, hw, h⟩ := Reps.inv_int h
      rcases List.mem_cons.1 hn with rfl | hn
      · simp [Lit.wf, IntKind.min, IntKind.max, IntKind.signed, IntKind.bits] at hw; omega
      · exact ih _ h n hn
  exact hcs l cs h3

theorem str_dec {l m : List Nat} (hl : Bytes256 l) (hm : Bytes256 m) : ((bytesOf l).toList == (bytesOf m).toList) = decide (l = m) := by
  by_cases h : l = m
  · subst h; simp
  · have : (bytesOf l).toList ≠ (bytesOf m).toList := fun he => h (bytesOf_inj hl hm (by
      rw [ByteArray.toList_eq, ByteArray.toList_eq] at he
      exact WideShapes.bytes_inj he))
    simp [h, this]

set_option maxHeartbeats 400000 in
theorem equal_any {G : GG} {w : World} {l m : List Nat} {a b : Option Addr} {c d : Nat} (hC : Com w G) (h1 : SliceIs G (l.map byteD) a l.length c) (h2 : SliceIs G (m.map byteD) b m.length d) :
    Calls Try.prog 17 #[.slice a l.length c, .slice b m.length d] w fun e w' => e = .returned (.bool (decide (l = m))) ∧ w = w' := by
  have e1 := run_conv hC h1
  have e2 := run_conv hC h2
  have hi : l ≠ m → bytesOf l ≠ bytesOf m := fun hne he => hne (bytesOf_inj (slice_256 h1) (slice_256 h2) he)
  by_cases he : l = m
  · subst he
    go_enter Try.func17, Try.ntmps17
    go_wp2_with (first | simp only [e1] | simp only [e2])
    go_ret
    exact ⟨by simp, rfl⟩
  · have hi2 := hi he
    clear hi
    go_enter Try.func17, Try.ntmps17
    go_wp2_with (first | simp only [e1] | simp only [e2])
    go_ret
    refine ⟨?_, rfl⟩
    simp [str_dec (slice_256 h1) (slice_256 h2)]

/-- what 'write' asks of a certificate -/
structure CertOk (c : Cf) : Prop where
  name : c.name.size ≤ 1000000
  params : c.params.length ≤ 1000000
  small : Sp.smalls c.steps

def BytesPost (G : GG) (w : World) (c : Cf) (e : Ending) (w' : World) : Prop :=
  ∃ G' a cap, St G w none G' w' ∧ ((c.write.2 = true ∧ e = .returned (.tuple #[.slice a c.write.1.length cap, .int .i64 0]) ∧ SliceIs G' (c.write.1.map byteD) a c.write.1.length cap) ∨ (c.write.2 = false ∧ e = .returned (.tuple #[.slice none 0 0, .int .i64 10])))

set_option maxRecDepth 100000 in
set_option maxHeartbeats 400000 in
theorem bytes_any (G : GG) (c : Cf) (w : World) (cs : List Value) (hC : Com w G) (hr : Reps G [c.enc] cs) (ok : CertOk c) : Calls Try.prog 8 #[.agg ⟨cs⟩] w (BytesPost G w c) := by
  have hl : cs.length = 18 := c.wide.cells hr
  have hS := (St.start hC).alloc (Obj.cells ⟨cs⟩ 34)
  have HS := hid hS
  have HR := hid hr
  have HL := hid hl
  clear hS hr hl
  go_enter Try.func8, Try.ntmps8
  go_wp2_with (refine wpList_load_row rfl 34 (.tmp 1) rfl w.heap.size rfl 34 ⟨cs⟩ (0, 0) _ (Blk.new w 34 ⟨cs⟩) Try.underlying34 rfl (by rw [Array.size, HL.out]; kernel_rfl) ?_)
  refine (write_any G c _ cs HS.out.com HR.out ok.name ok.params ok.small).mono ?_
  rintro e w1 ⟨G1, a, cap, rfl, hI, hS1⟩
  have HI := hid hI
  have HS1 := hid (HS.out.call_none hS1)
  clear hI hS1
  cases hw : c.write.2
  · have HW := hid hw
    clear hw
    go_wp2_with fail
    go_ret2
    exact ⟨G1, a, cap, HS1.out, .inr ⟨HW.out, rfl⟩⟩
  · have HW := hid hw
    clear hw
    go_wp2_with fail
    go_ret2
    exact ⟨G1, a, cap, HS1.out, .inl ⟨HW.out, rfl, HI.out⟩⟩

set_option maxRecDepth 100000 in
set_option maxHeartbeats 400000 in
theorem right_any (G : GG) (c : Cf) (w : World) (cs : List Value) (hC : Com w G) (hr : Reps G [c.enc] cs) (ok : CertOk c) : Calls Try.prog 9 #[.agg ⟨cs⟩] w fun e w' => e = .returned (.bool c.write.2) ∧ ∃ G', St G w none G' w' := by
  have hl : cs.length = 18 := c.wide.cells hr
  have hS := (St.start hC).alloc (Obj.cells ⟨cs⟩ 34)
  have HS := hid hS
  have HR := hid hr
  have HL := hid hl
  clear hS hr hl
  go_enter Try.func9, Try.ntmps9
  go_wp2_with (refine wpList_load_row rfl 34 (.tmp 1) rfl w.heap.size rfl 34 ⟨cs⟩ (0, 0) _ (Blk.new w 34 ⟨cs⟩) Try.underlying34 rfl (by rw [Array.size, HL.out]; kernel_rfl) ?_)
  refine (write_any G c _ cs HS.out.com HR.out ok.name ok.params ok.small).mono ?_
  rintro e w1 ⟨G1, a, cap, rfl, hI, hS1⟩
  have HS1 := hid (HS.out.call_none hS1)
  clear hI hS1
  go_wp2_with fail
  go_ret
  exact ⟨rfl, G1, HS1.out⟩
end Go.Proofs.Ytolhahlnccekcaa
