/-
  Walks of the certificate's writer: trees.
-/
import Derived.Test.YtolhahlnccekcaaWrite
namespace Go.Proofs.Ytolhahlnccekcaa
open Go.RowKit

theorem reps_tm_inv {G : GG} {t : Tm} {cs : List Value} (h : Reps G [t.enc] cs) : ∃ op n l a cap, t = .mk op n l ∧ cs = [.int .i64 op, .int .u32 n, .slice a l.length cap] ∧ (Lit.int .i64 op).wf = true ∧ (Lit.int .u32 n).wf = true ∧ SliceIs G (l.map Tm.enc) a l.length cap := by
  cases t with
  | mk op n l =>
    obtain ⟨xs, rfl, w1, h⟩ := h.inv_one_node.inv_int
    obtain ⟨xs, rfl, w2, h⟩ := h.inv_int
    obtain ⟨a, cap, xs, rfl, hs, h⟩ := h.inv_list
    obtain rfl := h.inv_nil
    rw [Tm.encs_eq, List.length_map] at *
    exact ⟨op, n, l, a, cap, rfl, rfl, w1, w2, hs⟩
theorem wf_i64_bd {n : Int} (h : (Lit.int .i64 n).wf = true) : -9223372036854775808 ≤ n ∧ n ≤ 9223372036854775807 := by
  simp [Lit.wf, IntKind.min, IntKind.max, IntKind.signed, IntKind.bits] at h; omega
theorem wf_u32_bd {n : Int} (h : (Lit.int .u32 n).wf = true) : 0 ≤ n ∧ n ≤ 4294967295 := by
  simp [Lit.wf, IntKind.min, IntKind.max, IntKind.signed, IntKind.bits] at h; omega

def TermW (G : GG) (wb : Nat) (t : Tm) : Prop := ∀ (d : Int) (row : Option Nat) (s : WS) (w : World) (cs : List Value), Reps G [t.enc] cs → Wr G w wb row s → s.b.length ≤ 1099511627000 → -1000000 ≤ d → d ≤ 1000000 →
    Calls Try.prog 37 #[.pointer (some ⟨wb, 0, none⟩), .agg ⟨cs⟩, .int .i64 d] w fun e w' => e = .returned (.tuple #[]) ∧ Wrote G w wb row w' (WS.term t d s)

set_option maxRecDepth 100000 in
set_option maxHeartbeats 1000000 in
theorem wterm_any (G : GG) (wb : Nat) : ∀ (N : Nat) (t : Tm), SizeOf.sizeOf t < N → TermW G wb t := by
  intro N
  induction N with
  | zero => intro t h; omega
  | succ N ih =>
    intro t hN d row s w cs hr hW hlen hd1 hd2
    obtain ⟨op, n, l, a, cap, rfl, rfl, w1, w2, hs⟩ := reps_tm_inv hr
    obtain ⟨b1, b2⟩ := wf_i64_bd w1
    obtain ⟨b3, b4⟩ := wf_u32_bd w2
    have hih : ∀ t ∈ l, TermW G wb t := fun t ht => ih t (by have := Tm.mem_lt (op := op) (n := n) ht; omega)
    have hlm : l.length ≤ 9223372036854775807 := by have := hs.2.1; have := hs.2.2.1; unfold maxLen at this; omega
    have IH := hid hih
    have HS := hid hs
    have hW0 := hW.alloc (Obj.cells #[.int .i64 op, .int .u32 n, .slice a l.length cap] 29)
    have hO0 := Ob.made (B := w.heap.size) hW.com (Nat.le_refl _) 29 #[.int .i64 op, .int .u32 n, .slice a l.length cap]
    have HW0 := hid hW0
    have HO0 := hid hO0
    have HF0 := hid ((WFr.refl wb row w).alloc (Obj.cells #[.int .i64 op, .int .u32 n, .slice a l.length cap] 29))
    clear ih hih hr hW hW0 hO0 hs w1 w2
    go_enter Try.func37, Try.ntmps37
    go_wp2_with fail
    refine (wdeep_any G wb row s d (by omega) _ HW0.out).mono ?_
    rintro e w1 ⟨rfl, row1, hW1, hr1, hF1⟩
    have hs1 := WS.deep_b s d
    generalize hq1 : s.deep d = s1 at *
    have hO1 := HW0.out.keepsOb hF1 HO0.out (by decide) (by decide)
    have hF1' := HF0.out.trans (.inl rfl) hF1
    have hr1' : row1 = row ∨ ∃ g, row1 = some g ∧ w.heap.size ≤ g := by
      rcases hr1 with h | ⟨g, h, hg⟩
      · exact .inl h
      · simp at hg; exact .inr ⟨g, h, by omega⟩
    have hl1 : s1.b.length ≤ 1099511627000 := by rw [hs1]; exact hlen
    have HW1 := hid hW1
    have HO1 := hid hO1
    have HF1 := hid hF1'
    have HR1 := hid hr1'
    have HQ1 := hid hq1
    clear hW1 hr1 hF1 hO1 hF1' hr1' hs1 hq1 HW0 HO0 HF0
    cases hbad : s1.bad with
    | true =>
      have hfin : WS.term (.mk op n l) d s = s1 := by rw [WS.term_1 (by rw [HQ1.out]; exact hbad), HQ1.out]
      have HFIN := hid hfin
      clear hbad hfin
      go_wp2_with fail
      first | go_end0 | refine bodyPost_ret (results_none rfl _ _ _) rfl ?_
      exact ⟨rfl, by rw [HFIN.out]; exact ⟨row1, HW1.out, HR1.out, HF1.out⟩⟩
    | false =>
      have hl1b : s1.b.length ≤ 1048576 := by rw [HQ1.out.symm, WS.deep_b]; exact (WS.deep_len (by rw [HQ1.out]; exact hbad)).1
      have hd3 : d ≤ 2048 := (WS.deep_len (s := s) (by rw [HQ1.out]; exact hbad)).2.1
      have HBAD := hid hbad
      clear hbad
      have c0 := HO1.out.cell 0
      have c1 := HO1.out.cell 1
      have c2 := HO1.out.cell 2
      simp at c0 c1 c2
      go_wp2_with fail
      clear c0 c1 c2
      refine (wcount_any G wb row1 s1 op b1 b2 (by omega) _ HW1.out).mono ?_
      rintro e w2 ⟨rfl, hw2⟩
      have hlc2 := WS.count_len s1 op
      generalize hq2 : s1.count op = s2 at *
      have hO2 := HW1.out.wroteOb hw2 HO1.out (by decide) (by decide)
      obtain ⟨row2, hW2, hr2, hF2⟩ := Wrote.then HW1.out HR1.out HF1.out hw2
      have c0 := hO2.cell 0
      have c1 := hO2.cell 1
      have c2 := hO2.cell 2
      simp at c0 c1 c2
      obtain ⟨a', cap', _, r0, r1, rf0, rf1, _, _⟩ := hW2.cells
      have HW2 := hid hW2
      have HR2 := hid hr2
      have HF2 := hid hF2
      have HO2 := hid hO2
      have HQ2 := hid hq2
      clear hw2 hW2 hr2 hF2 hO2 hq2 HW1 HO1 HF1 HR1
      by_cases hop : op = 0
      · subst hop
        have hfin : WS.term (.mk 0 n l) d s = ⟨s2.b, s2.bad || decide (n ≠ 0) || decide (0 < l.length)⟩ := by rw [WS.term_2 (by rw [HQ1.out]; exact HBAD.out), HQ1.out, HQ2.out]
        have HFIN := hid hfin
        clear hfin
        have hflag : ∀ b, Wrote G w wb row (w2.setCell ⟨wb, 1, none⟩ (.bool b)) ⟨s2.b, b⟩ := fun b => Wrote.then HW2.out HR2.out HF2.out (wr_flag HW2.out b)
        have HFLAG := hid hflag
        clear hflag
        have flag_end : ∀ b : Bool, b = (s2.bad || decide (n ≠ 0) || decide (0 < l.length)) → Wrote G w wb row (w2.setCell ⟨wb, 1, none⟩ (.bool b)) (WS.term (.mk 0 n l) d s) := fun b hb => by rw [HFIN.out, ← hb]; exact HFLAG.out b
        have FE := hid flag_end
        clear flag_end
        cases hb2 : s2.bad <;> rw [hb2] at r1 FE
        · by_cases hn : n = 0
          · subst hn
            by_cases hl : 0 < l.length
            · have hl2 : decide ((0 : Int) < (l.length : Int)) = true := decide_eq_true (by omega)
              have HB2 := hid hb2
              clear hb2
              go_wp2_with fail
              first | go_end0 | refine bodyPost_ret (results_none rfl _ _ _) rfl ?_
              exact ⟨rfl, FE.out _ (by simp [hl])⟩
            · have hl2 : decide ((0 : Int) < (l.length : Int)) = false := decide_eq_false (by omega)
              have HB2 := hid hb2
              clear hb2
              go_wp2_with fail
              first | go_end0 | refine bodyPost_ret (results_none rfl _ _ _) rfl ?_
              exact ⟨rfl, FE.out _ (by simp [hl])⟩
          · have hn2 : (n != 0) = true := by simpa using hn
            have HB2 := hid hb2
            clear hb2
            go_wp2_with fail
            first | go_end0 | refine bodyPost_ret (results_none rfl _ _ _) rfl ?_
            exact ⟨rfl, FE.out _ (by simp [hn])⟩
        · have HB2 := hid hb2
          clear hb2
          go_wp2_with fail
          first | go_end0 | refine bodyPost_ret (results_none rfl _ _ _) rfl ?_
          exact ⟨rfl, FE.out _ (by simp)⟩
      · have hop' : (op == 0) = false := by simpa using hop
        go_wp2_with fail
        clear c0 c1 c2 r0 r1 rf0 rf1
        refine (wnumber_any G wb row2 s2 n b3 (by omega) (by omega) _ HW2.out).mono ?_
        rintro e w3 ⟨rfl, hw3⟩
        have hlc3 := WS.number_len s2 n
        generalize hq3 : s2.number n = s3 at *
        have hO3 := HW2.out.wroteOb hw3 HO2.out (by decide) (by decide)
        obtain ⟨row3, hW3, hr3, hF3⟩ := Wrote.then HW2.out HR2.out HF2.out hw3
        have c0 := hO3.cell 0
        have c1 := hO3.cell 1
        have c2 := hO3.cell 2
        simp at c0 c1 c2
        have HW3 := hid hW3
        have HR3 := hid hr3
        have HF3 := hid hF3
        have HO3 := hid hO3
        have HQ3 := hid hq3
        clear hw3 hW3 hr3 hF3 hO3 hq3 HW2 HO2 HF2 HR2
        go_wp2_with fail
        clear c0 c1 c2
        refine (wcount_any G wb row3 s3 l.length (by omega) (by omega) (by omega) _ HW3.out).mono ?_
        rintro e w4 ⟨rfl, hw4⟩
        have hlc4 := WS.count_len s3 l.length
        have hfin : WS.term (.mk op n l) d s = WS.terms l (d + 1) (s3.count l.length) := by rw [WS.term_3 (by rw [HQ1.out]; exact HBAD.out) hop, HQ1.out, HQ2.out, HQ3.out]
        generalize hq4 : s3.count l.length = s4 at *
        have hO4 := HW3.out.wroteOb hw4 HO3.out (by decide) (by decide)
        have c2 := hO4.cell 2
        simp at c2
        have HX4 := hid (Wrote.then HW3.out HR3.out HF3.out hw4)
        have HFIN := hid hfin
        clear hw4 hfin hO4 hq4 HW3 HO3 HF3 HR3
        go_wp2_with fail
        go_loopw [48] (fun i wr => ∃ (k : Nat) (s5 : WS), i = .int .i64 k ∧ k ≤ l.length ∧ WS.terms (l.drop k) (d + 1) s5 = WS.term (.mk op n l) d s ∧ s5.b.length ≤ 1099511627000 ∧ Wrote G w wb row wr s5) (fun i _ => l.length - (intOf i).toNat)
        case atStart => exact ⟨0, s4, rfl, by omega, by rw [HFIN.out]; rfl, by omega, HX4.out⟩
        case round =>
          obtain ⟨k, s5, rfl, hk, hrest, hl5, row5, hW5, hr5, hF5⟩ := hrel
          have HREST := hid hrest
          clear hrest HX4
          by_cases hkl : k < l.length
          · obtain ⟨t, ht⟩ : ∃ t, l[k]? = some t := ⟨_, List.getElem?_eq_getElem hkl⟩
            obtain ⟨b, off, xs, rfl, hrx, hlx, hcx⟩ := HS.out.nth (n := 3) (fun d hd => by obtain ⟨t, _, rfl⟩ := List.mem_map.1 hd; exact t.wide) (i := k) (d := t.enc) (by simp [ht])
            obtain ⟨op', n', l', a'', cap'', rfl, rfl, v1, v2, hs'⟩ := reps_tm_inv hrx
            have e0 := hW5.com _ _ _ (hcx 0 _ rfl)
            have e1 := hW5.com _ _ _ (hcx 1 _ rfl)
            have e2 := hW5.com _ _ _ (hcx 2 _ rfl)
            simp only [Nat.add_zero] at e0
            have HW5 := hid hW5
            have HR5 := hid hr5
            have HF5 := hid hF5
            have HRX := hid hrx
            have HT := hid ht
            clear hW5 hr5 hF5 hrx ht hcx hs' v1 v2 hlx
            go_wp2_with fail
            refine (IH.out _ (List.mem_of_getElem? HT.out) (d + 1) row5 s5 _ _ HRX.out (HW5.out.alloc _) (by omega) (by omega) (by omega)).mono ?_
            rintro e w6 ⟨rfl, hw6⟩
            have hx6 := Wrote.then HW5.out HR5.out HF5.out (Wrote.then (HW5.out.alloc _) (.inl rfl) ((WFr.refl wb row5 wr).alloc _) hw6)
            have hlt6 := WS.term_len (.mk op' n' l') (d + 1) s5
            have HX6 := hid hx6
            clear hw6 hx6
            go_wp2_with fail
            refine ⟨⟨k + 1, _, by go_num, by omega, ?_, ?_, HX6.out⟩, by simp [intOf]; omega⟩
            · rw [← WS.terms_drop HT.out]; exact HREST.out
            · omega
          · have hk2 : k = l.length := by omega
            subst hk2
            go_wp2_with fail
            first | go_end0 | refine bodyPost_ret (results_none rfl _ _ _) rfl ?_
            refine ⟨rfl, ?_⟩
            have := HREST.out
            rw [List.drop_length, WS.terms] at this
            rw [← this]
            exact ⟨row5, hW5, hr5, hF5⟩
end Go.Proofs.Ytolhahlnccekcaa
