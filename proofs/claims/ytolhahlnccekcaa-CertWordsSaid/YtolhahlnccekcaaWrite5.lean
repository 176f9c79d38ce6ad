/-
  Walks of the certificate's writer: costs.
-/
import Derived.Test.YtolhahlnccekcaaWrite4
import Derived.Test.YtolhahlnccekcaaRead4
namespace Go.Proofs.Ytolhahlnccekcaa
open Go.RowKit

def CostW (G : GG) (wb : Nat) (t : Ct) : Prop := ∀ (d : Int) (row : Option Nat) (s : WS) (w : World) (cs : List Value), Reps G [t.enc] cs → Wr G w wb row s → s.b.length ≤ 1099511627000 → 1 ≤ d → d ≤ 2049 →
    Calls Try.prog 29 #[.pointer (some ⟨wb, 0, none⟩), .agg ⟨cs⟩, .int .i64 d] w fun e w' => e = .returned (.tuple #[]) ∧ Wrote G w wb row w' (WS.cost t d s)

theorem reps_ct_inv {G : GG} {t : Ct} {cs : List Value} (h : Reps G [t.enc] cs) : ∃ k c i w z a b l a0 a1 a2 b0 b1 b2 p q, t = .mk k c i w z a b l ∧ cs = (ctArr k c i w z a0 a1 a2 b0 b1 b2 (.slice p l.length q)).toList ∧
    (Lit.int .i64 k).wf = true ∧ (Lit.int .i64 c).wf = true ∧ (Lit.int .i64 i).wf = true ∧ (Lit.int .i64 w).wf = true ∧ (Lit.int .i64 z).wf = true ∧ Reps G [a.enc] [a0, a1, a2] ∧ Reps G [b.enc] [b0, b1, b2] ∧ SliceIs G (l.map Ct.enc) p l.length q := by
  cases t with
  | mk k c i w z a b l =>
    obtain ⟨xs, rfl, w0, h⟩ := h.inv_one_node.inv_int
    obtain ⟨xs, rfl, w1, h⟩ := h.inv_int
    obtain ⟨xs, rfl, w2, h⟩ := h.inv_int
    obtain ⟨xs, rfl, w3, h⟩ := h.inv_int
    obtain ⟨xs, rfl, w4, h⟩ := h.inv_int
    obtain ⟨ca, xs, rfl, ha, h⟩ := Reps.split (es := [a.enc]) h
    obtain ⟨cb, xs, rfl, hb, h⟩ := Reps.split (es := [b.enc]) h
    obtain ⟨p, q, xs, rfl, sd, h⟩ := h.inv_list
    obtain rfl := h.inv_nil
    have la := a.wide.cells ha
    have lb := b.wide.cells hb
    match ca, cb, la, lb with
    | [a0, a1, a2], [b0, b1, b2], _, _ =>
      rw [Ct.encs_eq, List.length_map] at sd
      exact ⟨k, c, i, w, z, a, b, l, a0, a1, a2, b0, b1, b2, p, q, rfl, by simp [ctArr, Ct.encs_eq], w0, w1, w2, w3, w4, ha, hb, sd⟩

set_option maxRecDepth 100000 in
set_option maxHeartbeats 2000000 in
theorem wcost_any (G : GG) (wb : Nat) : ∀ (N : Nat) (t : Ct), SizeOf.sizeOf t < N → CostW G wb t := by
  intro N
  induction N with
  | zero => intro t h; omega
  | succ N ih =>
  intro t hN d row s w cs hr hW hlen hd1 hd2
  obtain ⟨k1, k2, k3, k4, k5, a, b, l, a0, a1, a2, b0, b1, b2, p, q, rfl, rfl, v1, v2, v3, v4, v5, ha, hb, sd⟩ := reps_ct_inv hr
  obtain ⟨x1, y1⟩ := wf_i64_bd v1
  obtain ⟨x2, y2⟩ := wf_i64_bd v2
  obtain ⟨x3, y3⟩ := wf_i64_bd v3
  obtain ⟨x4, y4⟩ := wf_i64_bd v4
  obtain ⟨x5, y5⟩ := wf_i64_bd v5
  have hih : ∀ t ∈ l, CostW G wb t := fun t ht => ih t (by have := Ct.mem_lt (k := k1) (c := k2) (i := k3) (w := k4) (z := k5) (a := a) (b := b) ht; omega)
  have hlm : l.length ≤ 9223372036854775807 := by have := sd.2.1; have := sd.2.2.1; unfold maxLen at this; omega
  have IH := hid hih
  have SD := hid sd
  have HA := hid ha
  have HB := hid hb
  have TW := hid (fun t => wterm_any G wb (SizeOf.sizeOf t + 1) t (Nat.lt_succ_self _))
  have hW0 := hW.alloc (Obj.cells (ctArr k1 k2 k3 k4 k5 a0 a1 a2 b0 b1 b2 (.slice p l.length q)) 32)
  have hO0 := Ob.made (B := w.heap.size) hW.com (Nat.le_refl _) 32 (ctArr k1 k2 k3 k4 k5 a0 a1 a2 b0 b1 b2 (.slice p l.length q))
  have HW0 := hid hW0
  have HO0 := hid hO0
  have HF0 := hid ((WFr.refl wb row w).alloc (Obj.cells (ctArr k1 k2 k3 k4 k5 a0 a1 a2 b0 b1 b2 (.slice p l.length q)) 32))
  clear ih hih hr hW hW0 hO0 v1 v2 v3 v4 v5 ha hb sd
  go_enter Try.func29, Try.ntmps29
  go_wp2_with fail
  refine (wdeep_any G wb row s d (by omega) _ HW0.out).mono ?_
  rintro e w1 ⟨rfl, hw1⟩
  generalize hq1 : s.deep d = s1 at *
  have hO1 := HW0.out.wroteOb hw1 HO0.out (by decide) (by decide)
  obtain ⟨pb, hpb⟩ : ∃ pb, pb = w.heap.size := ⟨_, rfl⟩
  obtain ⟨row1, hW1, hr1, hF1⟩ := Wrote.then HW0.out (.inl rfl) HF0.out hw1
  rw [← hpb] at hO1
  simp only [← hpb]
  have HW1 := hid hW1
  have HR1 := hid hr1
  have HF1 := hid hF1
  have HO1 := hid hO1
  have HQ1 := hid hq1
  clear hw1 hW1 hr1 hF1 hO1 hq1 hpb HW0 HO0 HF0
  cases hbad : s1.bad with
  | true =>
    have hfin : WS.cost (.mk k1 k2 k3 k4 k5 a b l) d s = s1 := by rw [WS.cost_1 (by rw [HQ1.out]; exact hbad), HQ1.out]
    have HFIN := hid hfin
    clear hbad hfin
    go_wp2_with fail
    first | go_end0 | refine bodyPost_ret (results_none rfl _ _ _) rfl ?_
    exact ⟨rfl, by rw [HFIN.out]; exact ⟨row1, HW1.out, HR1.out, HF1.out⟩⟩
  | false =>
    have hl1 : s1.b.length ≤ 1048576 := by rw [HQ1.out.symm, WS.deep_b]; exact (WS.deep_len (by rw [HQ1.out]; exact hbad)).1
    have hd3 : d ≤ 2048 := (WS.deep_len (s := s) (by rw [HQ1.out]; exact hbad)).2.1
    have hfin := WS.cost_3 (k := k1) (c := k2) (i := k3) (w := k4) (z := k5) (a := a) (b := b) (l := l) (d := d) (s := s) (by rw [HQ1.out]; exact hbad)
    rw [HQ1.out] at hfin
    have HFIN := hid hfin
    clear hbad hfin
    have c0 := HO1.out.cell 0
    simp [ctArr] at c0
    go_wp2_with fail
    clear c0
    refine (wcount_any G wb row1 s1 k1 x1 y1 (by omega) _ HW1.out).mono ?_
    rintro e w2 ⟨rfl, hw2⟩
    have hl2 := WS.count_len s1 k1
    generalize hq2 : s1.count k1 = s2 at *
    have hO2 := HW1.out.wroteOb hw2 HO1.out (by decide) (by decide)
    obtain ⟨row2, hW2, hr2, hF2⟩ := Wrote.then HW1.out HR1.out HF1.out hw2
    have c0 := hO2.cell 1
    simp [ctArr] at c0
    have HW2 := hid hW2
    have HR2 := hid hr2
    have HF2 := hid hF2
    have HO2 := hid hO2
    clear hw2 hW2 hr2 hF2 hO2 hq2 HW1 HR1 HF1 HO1
    go_wp2_with fail
    clear c0
    refine (wcount_any G wb row2 s2 k2 x2 y2 (by omega) _ HW2.out).mono ?_
    rintro e w3 ⟨rfl, hw3⟩
    have hl3 := WS.count_len s2 k2
    generalize hq3 : s2.count k2 = s3 at *
    have hO3 := HW2.out.wroteOb hw3 HO2.out (by decide) (by decide)
    obtain ⟨row3, hW3, hr3, hF3⟩ := Wrote.then HW2.out HR2.out HF2.out hw3
    have c0 := hO3.cell 2
    simp [ctArr] at c0
    have HW3 := hid hW3
    have HR3 := hid hr3
    have HF3 := hid hF3
    have HO3 := hid hO3
    clear hw3 hW3 hr3 hF3 hO3 hq3 HW2 HR2 HF2 HO2
    go_wp2_with fail
    clear c0
    refine (wcount_any G wb row3 s3 k3 x3 y3 (by omega) _ HW3.out).mono ?_
    rintro e w4 ⟨rfl, hw4⟩
    have hl4 := WS.count_len s3 k3
    generalize hq4 : s3.count k3 = s4 at *
    have hO4 := HW3.out.wroteOb hw4 HO3.out (by decide) (by decide)
    obtain ⟨row4, hW4, hr4, hF4⟩ := Wrote.then HW3.out HR3.out HF3.out hw4
    have c0 := hO4.cell 3
    simp [ctArr] at c0
    have HW4 := hid hW4
    have HR4 := hid hr4
    have HF4 := hid hF4
    have HO4 := hid hO4
    clear hw4 hW4 hr4 hF4 hO4 hq4 HW3 HR3 HF3 HO3
    go_wp2_with fail
    clear c0
    refine (wplace_any G wb row4 s4 k4 x4 y4 (by omega) _ HW4.out).mono ?_
    rintro e w5 ⟨rfl, hw5⟩
    have hl5 := WS.place_len s4 k4
    generalize hq5 : s4.place k4 = s5 at *
    have hO5 := HW4.out.wroteOb hw5 HO4.out (by decide) (by decide)
    obtain ⟨row5, hW5, hr5, hF5⟩ := Wrote.then HW4.out HR4.out HF4.out hw5
    have c0 := hO5.cell 4
    simp [ctArr] at c0
    have HW5 := hid hW5
    have HR5 := hid hr5
    have HF5 := hid hF5
    have HO5 := hid hO5
    clear hw5 hW5 hr5 hF5 hO5 hq5 HW4 HR4 HF4 HO4
    go_wp2_with fail
    clear c0
    refine (wplace_any G wb row5 s5 k5 x5 y5 (by omega) _ HW5.out).mono ?_
    rintro e w6 ⟨rfl, hw6⟩
    have hl6 := WS.place_len s5 k5
    generalize hq6 : s5.place k5 = s6 at *
    have hO6 := HW5.out.wroteOb hw6 HO5.out (by decide) (by decide)
    obtain ⟨row6, hW6, hr6, hF6⟩ := Wrote.then HW5.out HR5.out HF5.out hw6
    have c0 := hO6.cell 5
    have c1 := hO6.cell 6
    have c2 := hO6.cell 7
    simp [ctArr] at c0 c1 c2
    have HW6 := hid hW6
    have HR6 := hid hr6
    have HF6 := hid hF6
    have HO6 := hid hO6
    clear hw6 hW6 hr6 hF6 hO6 hq6 HW5 HR5 HF5 HO5
    go_wp2_with fail
    clear c0 c1 c2
    refine (TW.out a 1 row6 s6 _ _ HA.out HW6.out (by omega) (by omega) (by omega)).mono ?_
    rintro e w7 ⟨rfl, hw7⟩
    have hl7 := WS.term_len a 1 s6
    generalize hq7 : WS.term a 1 s6 = s7 at *
    have hO7 := HW6.out.wroteOb hw7 HO6.out (by decide) (by decide)
    obtain ⟨row7, hW7, hr7, hF7⟩ := Wrote.then HW6.out HR6.out HF6.out hw7
    have c0 := hO7.cell 8
    have c1 := hO7.cell 9
    have c2 := hO7.cell 10
    simp [ctArr] at c0 c1 c2
    have HW7 := hid hW7
    have HR7 := hid hr7
    have HF7 := hid hF7
    have HO7 := hid hO7
    clear hw7 hW7 hr7 hF7 hO7 hq7 HW6 HR6 HF6 HO6
    go_wp2_with fail
    clear c0 c1 c2
    refine (TW.out b 1 row7 s7 _ _ HB.out HW7.out (by omega) (by omega) (by omega)).mono ?_
    rintro e w8 ⟨rfl, hw8⟩
    have hl8 := WS.term_len b 1 s7
    generalize hq8 : WS.term b 1 s7 = s8 at *
    have hO8 := HW7.out.wroteOb hw8 HO7.out (by decide) (by decide)
    obtain ⟨row8, hW8, hr8, hF8⟩ := Wrote.then HW7.out HR7.out HF7.out hw8
    have c0 := hO8.cell 11
    simp [ctArr] at c0
    have HW8 := hid hW8
    have HR8 := hid hr8
    have HF8 := hid hF8
    have HO8 := hid hO8
    clear hw8 hW8 hr8 hF8 hO8 hq8 HW7 HR7 HF7 HO7
    go_wp2_with fail
    clear c0
    refine (wcount_any G wb row8 s8 l.length (by omega) (by omega) (by omega) _ HW8.out).mono ?_
    rintro e w9 ⟨rfl, hw9⟩
    have hl9 := WS.count_len s8 l.length
    generalize hq9 : s8.count l.length = s9 at *
    have hO9 := HW8.out.wroteOb hw9 HO8.out (by decide) (by decide)
    have c11 := hO9.cell 11
    simp [ctArr] at c11
    have HX9 := hid (Wrote.then HW8.out HR8.out HF8.out hw9)
    clear hw9 hO9 hq9 HW8 HR8 HF8 HO8
    go_wp2_with fail
    clear c11
    go_loopw [47] (fun i wr => ∃ (k : Nat) (s5 : WS), i = .int .i64 k ∧ k ≤ l.length ∧ WS.costs (l.drop k) (d + 1) s5 = WS.costs l (d + 1) s9 ∧ s5.b.length ≤ 1099511627000 ∧ Wrote G w wb row wr s5) (fun i _ => l.length - (intOf i).toNat)
    case atStart => exact ⟨0, s9, rfl, by omega, rfl, by omega, HX9.out⟩
    case round =>
      obtain ⟨k, s5, rfl, hk, hrest, hl5, row5, hW5, hr5, hF5⟩ := hrel
      have HREST := hid hrest
      clear hrest HX9
      by_cases hkl : k < l.length
      · obtain ⟨t, ht⟩ : ∃ t, l[k]? = some t := ⟨_, List.getElem?_eq_getElem hkl⟩
        obtain ⟨bb, off, xs, hpp, hrx, hlx, hcx⟩ := SD.out.nth (n := 12) (fun d hd => by obtain ⟨t, _, rfl⟩ := List.mem_map.1 hd; exact t.wide) (i := k) (d := t.enc) (by simp [ht])
        subst hpp
        have hcells : ∀ j u, xs[j]? = some u → wr.cell? ⟨bb, off + k * 12 + j, none⟩ = some u := fun j u hu => hW5.com _ _ _ (hcx j u hu)
        have HC := hid hcells
        have HW5 := hid hW5
        have HR5 := hid hr5
        have HF5 := hid hF5
        have HRX := hid hrx
        have HO1 := hid hrx.one
        have HT := hid ht
        have HLX := hid hlx
        have hwrap : IntKind.i64.wrap (d + 1) = d + 1 := IntWalk.i64_in _ (by omega)
        clear hW5 hr5 hF5 hrx ht hcx hcells hlx
        go_wp2_with (first
          | (refine wpList_load_cells rfl 32 (.tmp 49) rfl (b := bb) (off := off + k * 12) xs rfl HC.out _ Try.underlying32 rfl (by rw [HLX.out]; kernel_rfl) ?_)
          | (refine wpList_store_part rfl 32 (.tmp 7) (.tmp 50) rfl (off := 0) ⟨xs⟩ xs rfl (Blk.new wr 32 ctZero) rfl (by rw [HLX.out]; kernel_rfl) HO1.out (by rw [HLX.out]; simp [ctZero, ctArr]) (by have := HLX.out; simp [ctZero, ctArr, this]) ?_
             intro w6 hb6 hg6
             have HB6 := hid hb6
             have HG6 := hid hg6
             clear hb6 hg6)
          | (refine wpList_load_row rfl 32 (.tmp 7) rfl wr.heap.size rfl 32 ⟨xs⟩ (0, 0) _ HB6.out Try.underlying32 rfl (by rw [Array.size, HLX.out]; kernel_rfl) ?_))
        obtain ⟨hW6, hF6⟩ := HW5.out.fresh HG6.out
        refine (IH.out t (List.mem_of_getElem? HT.out) (d + 1) row5 s5 _ xs HRX.out hW6 (by omega) (by omega) (by omega)).mono ?_
        rintro e w7 ⟨rfl, hw7⟩
        have hx7 := Wrote.then HW5.out HR5.out HF5.out (Wrote.then hW6 (.inl rfl) hF6 hw7)
        have hlt7 := WS.cost_len t (d + 1) s5
        have HX7 := hid hx7
        clear hw7 hx7 hW6 hF6
        go_wp2_with fail
        refine ⟨⟨k + 1, _, by go_num, by omega, ?_, ?_, HX7.out⟩, by simp [intOf]; omega⟩
        · rw [← WS.costs_drop HT.out]; exact HREST.out
        · omega
      · have hk2 : k = l.length := by omega
        subst hk2
        go_wp2_with fail
        first | go_end0 | refine bodyPost_ret (results_none rfl _ _ _) rfl ?_
        refine ⟨rfl, ?_⟩
        have := HREST.out
        rw [List.drop_length, WS.costs] at this
        rw [HFIN.out, ← this]
        exact ⟨row5, hW5, hr5, hF5⟩
end Go.Proofs.Ytolhahlnccekcaa
