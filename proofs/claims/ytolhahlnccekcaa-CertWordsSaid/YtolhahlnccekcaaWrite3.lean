/-
  Walks of the certificate's writer: steps.
-/
import Derived.Test.YtolhahlnccekcaaWrite2
import Derived.Test.YtolhahlnccekcaaRead3
namespace Go.Proofs.Ytolhahlnccekcaa
open Go.RowKit

def StepW (G : GG) (wb : Nat) (t : Sp) : Prop := ∀ (d : Int) (row : Option Nat) (s : WS) (w : World) (cs : List Value), Reps G [t.enc] cs → Wr G w wb row s → t.small → s.b.length ≤ 1099511627000 → 1 ≤ d → d ≤ 2049 →
    Calls Try.prog 35 #[.pointer (some ⟨wb, 0, none⟩), .agg ⟨cs⟩, .int .i64 d] w fun e w' => e = .returned (.tuple #[]) ∧ Wrote G w wb row w' (WS.step t d s)
def StepsW (G : GG) (wb : Nat) (l : List Sp) : Prop := ∀ (d : Int) (row : Option Nat) (s : WS) (w : World) (a : Option Addr) (cap : Nat), SliceIs G (l.map Sp.enc) a l.length cap → Wr G w wb row s → Sp.smalls l → s.b.length ≤ 1099511626900 → 1 ≤ d → d ≤ 2049 →
    Calls Try.prog 28 #[.pointer (some ⟨wb, 0, none⟩), .slice a l.length cap, .int .i64 d] w fun e w' => e = .returned (.tuple #[]) ∧ Wrote G w wb row w' (WS.steps l d s)

set_option maxRecDepth 100000 in
set_option maxHeartbeats 1000000 in
theorem wsteps_any (G : GG) (wb : Nat) (l : List Sp) (hst : ∀ t ∈ l, StepW G wb t) : StepsW G wb l := by
  intro d row s w a cap hs hW hsm hlen hd1 hd2
  have hlm : l.length ≤ 9223372036854775807 := by have := hs.2.1; have := hs.2.2.1; unfold maxLen at this; omega
  have HW := hid hW
  have HS := hid hs
  have HST := hid hst
  have HSM := hid (Sp.smalls_mem hsm)
  clear hW hs hst hsm
  go_enter Try.func28, Try.ntmps28
  go_wp2_with fail
  refine (wcount_any G wb row s l.length (by omega) (by omega) (by omega) _ HW.out).mono ?_
  rintro e w1 ⟨rfl, hw1⟩
  have hlc := WS.count_len s l.length
  have HX1 := hid hw1
  clear hw1
  go_wp2_with fail
  go_loopw [14] (fun i wr => ∃ (k : Nat) (s5 : WS), i = .int .i64 k ∧ k ≤ l.length ∧ WS.stepl (l.drop k) d s5 = WS.steps l d s ∧ s5.b.length ≤ 1099511627000 ∧ Wrote G w wb row wr s5) (fun i _ => l.length - (intOf i).toNat)
  case atStart => exact ⟨0, s.count l.length, rfl, by omega, rfl, by omega, HX1.out⟩
  case round =>
    obtain ⟨k, s5, rfl, hk, hrest, hl5, row5, hW5, hr5, hF5⟩ := hrel
    have HREST := hid hrest
    clear hrest HX1
    by_cases hkl : k < l.length
    · obtain ⟨t, ht⟩ : ∃ t, l[k]? = some t := ⟨_, List.getElem?_eq_getElem hkl⟩
      obtain ⟨b, off, xs, rfl, hrx, hlx, hcx⟩ := HS.out.nth (n := 17) (fun d hd => by obtain ⟨t, _, rfl⟩ := List.mem_map.1 hd; exact t.wide) (i := k) (d := t.enc) (by simp [ht])
      have hcells : ∀ j u, xs[j]? = some u → wr.cell? ⟨b, off + k * 17 + j, none⟩ = some u := fun j u hu => hW5.com _ _ _ (hcx j u hu)
      have HC := hid hcells
      have HW5 := hid hW5
      have HR5 := hid hr5
      have HF5 := hid hF5
      have HRX := hid hrx
      have HO1 := hid hrx.one
      have HT := hid ht
      have HLX := hid hlx
      clear hW5 hr5 hF5 hrx ht hcx hcells hlx
      go_wp2_with (first
        | (refine wpList_load_cells rfl 64 (.tmp 16) rfl (b := b) (off := off + k * 17) xs rfl HC.out _ Try.underlying64 rfl (by rw [HLX.out]; kernel_rfl) ?_)
        | (refine wpList_store_part rfl 64 (.tmp 7) (.tmp 17) rfl (off := 0) ⟨xs⟩ xs rfl (Blk.new wr 64 spZero) rfl (by rw [HLX.out]; kernel_rfl) HO1.out (by rw [HLX.out]; simp [spZero, spArr]) (by have := HLX.out; simp [spZero, spArr, this]) ?_
           intro w6 hb6 hg6
           have HB6 := hid hb6
           have HG6 := hid hg6
           clear hb6 hg6)
        | (refine wpList_load_row rfl 64 (.tmp 7) rfl wr.heap.size rfl 64 ⟨xs⟩ (0, 0) _ HB6.out Try.underlying64 rfl (by rw [Array.size, HLX.out]; kernel_rfl) ?_))
      obtain ⟨hW6, hF6⟩ := HW5.out.fresh HG6.out
      refine (HST.out t (List.mem_of_getElem? HT.out) d row5 s5 w6 xs HRX.out hW6 (HSM.out t (List.mem_of_getElem? HT.out)) (by omega) hd1 hd2).mono ?_
      rintro e w7 ⟨rfl, hw7⟩
      have hx7 := Wrote.then HW5.out HR5.out HF5.out (Wrote.then hW6 (.inl rfl) hF6 hw7)
      have hlt7 := WS.step_len t d s5 (HSM.out t (List.mem_of_getElem? HT.out))
      have HX7 := hid hx7
      clear hw7 hx7 hW6 hF6
      go_wp2_with fail
      refine ⟨⟨k + 1, _, by go_num, by omega, ?_, ?_, HX7.out⟩, by simp [intOf]; omega⟩
      · rw [← WS.stepl_drop HT.out]; exact HREST.out
      · omega
    · have hk2 : k = l.length := by omega
      subst hk2
      go_wp2_with fail
      first | go_end0 | refine bodyPost_ret (results_none rfl _ _ _) rfl ?_
      refine ⟨rfl, ?_⟩
      have := HREST.out
      rw [List.drop_length, WS.stepl] at this
      rw [← this]
      exact ⟨row5, hW5, hr5, hF5⟩

theorem idxI6 (l : List Int) (k : Nat) (hl : l.length = 6) (hk : k < 6) (w : World) : (Instr.index 93 (.agg #[.int .i64 (l.getD 0 0), .int .i64 (l.getD 1 0), .int .i64 (l.getD 2 0), .int .i64 (l.getD 3 0), .int .i64 (l.getD 4 0), .int .i64 (l.getD 5 0)]) (.int .i64 k)).run Try.prog w = .ok (.int .i64 (l.getD k 0)) w := by
  rcases (by omega : k = 0 ∨ k = 1 ∨ k = 2 ∨ k = 3 ∨ k = 4 ∨ k = 5) with h | h | h | h | h | h <;> subst h <;> rfl
theorem idxS3 (v0 v1 v2 v : Value) (k : Nat) (hk : [v0, v1, v2][k]? = some v) (hv : v.oneCell' = true) (w : World) : (Instr.index 94 (.agg #[v0, v1, v2]) (.int .i64 k)).run Try.prog w = .ok v w := by
  obtain ⟨h1, h2⟩ := List.getElem?_eq_some_iff.1 hk
  simp at h1
  rcases (by omega : k = 0 ∨ k = 1 ∨ k = 2) with h | h | h <;> subst h <;> subst h2 <;> rfl

/-- how a step reads -/
theorem reps_sp_inv {G : GG} {t : Sp} {cs : List Value} (h : Reps G [t.enc] cs) : ∃ kind f1 f2 f3 f4 f5 f6 a b dv h1 h2 h3 a0 a1 a2 b0 b1 b2 pd kd p1 k1 p2 k2 p3 k3, t = .mk kind f1 f2 f3 f4 f5 f6 a b dv h1 h2 h3 ∧
    cs = (spArr kind [f1, f2, f3, f4, f5, f6] a0 a1 a2 b0 b1 b2 (.slice pd dv.length kd) [.slice p1 h1.length k1, .slice p2 h2.length k2, .slice p3 h3.length k3]).toList ∧ (Lit.int .i64 kind).wf = true ∧ (∀ x ∈ [f1, f2, f3, f4, f5, f6], (Lit.int .i64 x).wf = true) ∧
    Reps G [a.enc] [a0, a1, a2] ∧ Reps G [b.enc] [b0, b1, b2] ∧ SliceIs G (dv.map Dv.enc) pd dv.length kd ∧ SliceIs G (h1.map Sp.enc) p1 h1.length k1 ∧ SliceIs G (h2.map Sp.enc) p2 h2.length k2 ∧ SliceIs G (h3.map Sp.enc) p3 h3.length k3 := by
  cases t with
  | mk kind f1 f2 f3 f4 f5 f6 a b dv h1 h2 h3 =>
    obtain ⟨xs, rfl, w0, h⟩ := h.inv_one_node.inv_int
    obtain ⟨xs, rfl, w1, h⟩ := h.inv_int
    obtain ⟨xs, rfl, w2, h⟩ := h.inv_int
    obtain ⟨xs, rfl, w3, h⟩ := h.inv_int
    obtain ⟨xs, rfl, w4, h⟩ := h.inv_int
    obtain ⟨xs, rfl, w5, h⟩ := h.inv_int
    obtain ⟨xs, rfl, w6, h⟩ := h.inv_int
    obtain ⟨ca, xs, rfl, ha, h⟩ := Reps.split (es := [a.enc]) h
    obtain ⟨cb, xs, rfl, hb, h⟩ := Reps.split (es := [b.enc]) h
    obtain ⟨pd, kd, xs, rfl, sd, h⟩ := h.inv_list
    obtain ⟨p1, k1, xs, rfl, s1, h⟩ := h.inv_list
    obtain ⟨p2, k2, xs, rfl, s2, h⟩ := h.inv_list
    obtain ⟨p3, k3, xs, rfl, s3, h⟩ := h.inv_list
    obtain rfl := h.inv_nil
    have la := a.wide.cells ha
    have lb := b.wide.cells hb
    match ca, cb, la, lb with
    | [a0, a1, a2], [b0, b1, b2], _, _ =>
      rw [Sp.encs_eq, List.length_map] at s1 s2 s3
      rw [List.length_map] at sd
      refine ⟨kind, f1, f2, f3, f4, f5, f6, a, b, dv, h1, h2, h3, a0, a1, a2, b0, b1, b2, pd, kd, p1, k1, p2, k2, p3, k3, rfl, ?_, w0, ?_, ha, hb, sd, s1, s2, s3⟩
      · simp [spArr, Sp.encs_eq]
      · intro x hx
        simp only [List.mem_cons, List.not_mem_nil, or_false] at hx
        rcases hx with rfl | rfl | rfl | rfl | rfl | rfl <;> assumption
end Go.Proofs.Ytolhahlnccekcaa
