/-
  Walks of the certificate's writer: a step.
-/
import Derived.Test.YtolhahlnccekcaaWrite3
namespace Go.Proofs.Ytolhahlnccekcaa
open Go.RowKit

theorem pick6 (f1 f2 f3 f4 f5 f6 : Int) (k : Nat) (hk : k < 6) (hw : ∀ x ∈ [f1, f2, f3, f4, f5, f6], (Lit.int .i64 x).wf = true) : ∃ x, [f1, f2, f3, f4, f5, f6][k]? = some x ∧ (Lit.int .i64 x).wf = true ∧
    ∀ w, (Instr.index 93 (.agg #[.int .i64 f1, .int .i64 f2, .int .i64 f3, .int .i64 f4, .int .i64 f5, .int .i64 f6]) (.int .i64 k)).run Try.prog w = .ok (.int .i64 x) w := by
  refine ⟨[f1, f2, f3, f4, f5, f6][k]'(by simp; omega), List.getElem?_eq_getElem _, hw _ (List.getElem_mem _), fun w => ?_⟩
  rcases (by omega : k = 0 ∨ k = 1 ∨ k = 2 ∨ k = 3 ∨ k = 4 ∨ k = 5) with h | h | h | h | h | h <;> subst h <;> rfl
theorem pick3 {G : GG} {h1 h2 h3 : List Sp} {p1 p2 p3 : Option Addr} {k1 k2 k3 : Nat} (s1 : SliceIs G (h1.map Sp.enc) p1 h1.length k1) (s2 : SliceIs G (h2.map Sp.enc) p2 h2.length k2) (s3 : SliceIs G (h3.map Sp.enc) p3 h3.length k3) (Q : List Sp → Prop) (q1 : Q h1) (q2 : Q h2) (q3 : Q h3) (k : Nat) (hk : k < 3) :
    ∃ l p c, [h1, h2, h3][k]? = some l ∧ Q l ∧ SliceIs G (l.map Sp.enc) p l.length c ∧
    ∀ w, (Instr.index 94 (.agg #[.slice p1 h1.length k1, .slice p2 h2.length k2, .slice p3 h3.length k3]) (.int .i64 k)).run Try.prog w = .ok (.slice p l.length c) w := by
  rcases (by omega : k = 0 ∨ k = 1 ∨ k = 2) with h | h | h <;> subst h
  · exact ⟨h1, p1, k1, rfl, q1, s1, fun w => rfl⟩
  · exact ⟨h2, p2, k2, rfl, q2, s2, fun w => rfl⟩
  · exact ⟨h3, p3, k3, rfl, q3, s3, fun w => rfl⟩
theorem reps_dv_inv {G : GG} {t : Dv} {cs : List Value} (h : Reps G [t.enc] cs) : ∃ a0 a1 a2 b0 b1 b2, cs = [.int .i64 t.at_, a0, a1, a2, b0, b1, b2] ∧ (Lit.int .i64 t.at_).wf = true ∧ Reps G [t.a.enc] [a0, a1, a2] ∧ Reps G [t.b.enc] [b0, b1, b2] := by
  obtain ⟨xs, rfl, w0, h⟩ := h.inv_one_node.inv_int
  obtain ⟨ca, cb, rfl, ha, hb⟩ := Reps.split (es := [t.a.enc]) h
  have la := t.a.wide.cells ha
  have lb := t.b.wide.cells hb
  match ca, cb, la, lb with
  | [a0, a1, a2], [b0, b1, b2], _, _ => exact ⟨a0, a1, a2, b0, b1, b2, rfl, w0, ha, hb⟩

set_option maxRecDepth 100000 in
set_option maxHeartbeats 2000000 in
theorem wstep_one (G : GG) (wb : Nat) (t : Sp) (hih : ∀ kind f1 f2 f3 f4 f5 f6 a b dv h1 h2 h3, t = .mk kind f1 f2 f3 f4 f5 f6 a b dv h1 h2 h3 → StepsW G wb h1 ∧ StepsW G wb h2 ∧ StepsW G wb h3) : StepW G wb t := by
  intro d row s w cs hr hW hsm hlen hd1 hd2
  obtain ⟨kind, f1, f2, f3, f4, f5, f6, a, b, dv, h1, h2, h3, a0, a1, a2, b0, b1, b2, pd, kd, p1, k1, p2, k2, p3, k3, rfl, rfl, wk, wf, ha, hb, sd, s1, s2, s3⟩ := reps_sp_inv hr
  obtain ⟨kb1, kb2⟩ := wf_i64_bd wk
  obtain ⟨i1, i2, i3⟩ := hih _ _ _ _ _ _ _ _ _ _ _ _ _ rfl
  obtain ⟨m0, m1, m2, m3⟩ := hsm
  have P3 := hid (pick3 s1 s2 s3 (fun l => StepsW G wb l ∧ Sp.smalls l) ⟨i1, m1⟩ ⟨i2, m2⟩ ⟨i3, m3⟩)
  have P6 := hid (fun k hk => pick6 f1 f2 f3 f4 f5 f6 k hk wf)
  have SD := hid sd
  have HA := hid ha
  have HB := hid hb
  have TW := hid (fun t => wterm_any G wb (SizeOf.sizeOf t + 1) t (Nat.lt_succ_self _))
  have hW0 := hW.alloc (Obj.cells (spArr kind [f1, f2, f3, f4, f5, f6] a0 a1 a2 b0 b1 b2 (.slice pd dv.length kd) [.slice p1 h1.length k1, .slice p2 h2.length k2, .slice p3 h3.length k3]) 64)
  have hO0 := Ob.made (B := w.heap.size) hW.com (Nat.le_refl _) 64 (spArr kind [f1, f2, f3, f4, f5, f6] a0 a1 a2 b0 b1 b2 (.slice pd dv.length kd) [.slice p1 h1.length k1, .slice p2 h2.length k2, .slice p3 h3.length k3])
  have HW0 := hid hW0
  have HO0 := hid hO0
  have HF0 := hid ((WFr.refl wb row w).alloc (Obj.cells (spArr kind [f1, f2, f3, f4, f5, f6] a0 a1 a2 b0 b1 b2 (.slice pd dv.length kd) [.slice p1 h1.length k1, .slice p2 h2.length k2, .slice p3 h3.length k3]) 64))
  clear hih hr hW hW0 hO0 wk wf ha hb sd s1 s2 s3 i1 i2 i3 m1 m2 m3
  go_enter Try.func35, Try.ntmps35
  go_wp2_with fail
  refine (wdeep_any G wb row s d (by omega) _ HW0.out).mono ?_
  rintro e w1 ⟨rfl, hw1⟩
  generalize hq1 : s.deep d = s1 at *
  have hO1 := HW0.out.wroteOb hw1 HO0.out (by decide) (by decide)
  obtain ⟨pb, hpb⟩ : ∃ pb, pb = w.heap.size := ⟨_, rfl⟩
  obtain ⟨row1, hW1, hr1, hF1⟩ := Wrote.then HW0.out (.inl rfl) HF0.out hw1
  rw [← hpb] at hO1
  simp only [← hpb]
  have HPB := hid hpb
  have HW1 := hid hW1
  have HR1 := hid hr1
  have HF1 := hid hF1
  have HO1 := hid hO1
  have HQ1 := hid hq1
  clear hw1 hW1 hr1 hF1 hO1 hq1 hpb HW0 HO0 HF0
  cases hbad : s1.bad with
  | true =>
    have hfin : WS.step (.mk kind f1 f2 f3 f4 f5 f6 a b dv h1 h2 h3) d s = s1 := by rw [WS.step_1 (by rw [HQ1.out]; exact hbad), HQ1.out]
    have HFIN := hid hfin
    clear hbad hfin
    go_wp2_with fail
    first | go_end0 | refine bodyPost_ret (results_none rfl _ _ _) rfl ?_
    exact ⟨rfl, by rw [HFIN.out]; exact ⟨row1, HW1.out, HR1.out, HF1.out⟩⟩
  | false =>
    have hl1b : s1.b.length ≤ 1048576 := by rw [HQ1.out.symm, WS.deep_b]; exact (WS.deep_len (by rw [HQ1.out]; exact hbad)).1
    have hd3 : d ≤ 2048 := (WS.deep_len (s := s) (by rw [HQ1.out]; exact hbad)).2.1
    have hfin := WS.step_3 (k := kind) (f1 := f1) (f2 := f2) (f3 := f3) (f4 := f4) (f5 := f5) (f6 := f6) (a := a) (b := b) (dv := dv) (h1 := h1) (h2 := h2) (h3 := h3) (d := d) (s := s) (by rw [HQ1.out]; exact hbad)
    rw [HQ1.out] at hfin
    have HFIN := hid hfin
    clear hbad hfin
    have c0 := HO1.out.cell 0
    simp [spArr] at c0
    go_wp2_with fail
    clear c0
    refine (wcount_any G wb row1 s1 kind kb1 kb2 (by omega) _ HW1.out).mono ?_
    rintro e w2 ⟨rfl, hw2⟩
    have hl2 := WS.count_len s1 kind
    generalize hq2 : s1.count kind = s2 at *
    have hO2 := HW1.out.wroteOb hw2 HO1.out (by decide) (by decide)
    have hx2 := Wrote.then HW1.out HR1.out HF1.out hw2
    have c1 := hO2.cell 1
    have c2 := hO2.cell 2
    have c3 := hO2.cell 3
    have c4 := hO2.cell 4
    have c5 := hO2.cell 5
    have c6 := hO2.cell 6
    simp [spArr] at c1 c2 c3 c4 c5 c6
    have HX2 := hid hx2
    have HO2 := hid hO2
    clear hw2 hx2 hO2 hq2 HW1 HR1 HF1 HO1
    go_wp2_with fail
    clear c1 c2 c3 c4 c5 c6
    go_loopw [32] (fun i wr => ∃ (k : Nat) (s5 : WS), i = .int .i64 k ∧ k ≤ 6 ∧ ([f1, f2, f3, f4, f5, f6].drop k).foldl WS.place s5 = [f1, f2, f3, f4, f5, f6].foldl WS.place s2 ∧ s5.b.length ≤ 1048581 + 5 * k ∧ Wrote G w wb row wr s5 ∧
        Ob pb G wr pb 64 (spArr kind [f1, f2, f3, f4, f5, f6] a0 a1 a2 b0 b1 b2 (.slice pd dv.length kd) [.slice p1 h1.length k1, .slice p2 h2.length k2, .slice p3 h3.length k3])) (fun i _ => 6 - (intOf i).toNat)
    case atStart => exact ⟨0, s2, rfl, by omega, rfl, by omega, HX2.out, HO2.out⟩
    case round =>
      obtain ⟨k, s5, rfl, hk, hrest, hl5, ⟨row5, hW5, hr5, hF5⟩, hO5⟩ := hrel
      have HREST := hid hrest
      have HW5 := hid hW5
      have HR5 := hid hr5
      have HF5 := hid hF5
      have HO5 := hid hO5
      clear hrest hW5 hr5 hF5 hO5 HX2 HO2
      by_cases hk6 : k < 6
      · obtain ⟨x, hx, hwx, hidx⟩ := P6.out k hk6
        obtain ⟨x0, x1⟩ := wf_i64_bd hwx
        have HX := hid hx
        clear hx hwx
        go_wp2_with fail
        refine (wplace_any G wb row5 s5 x x0 x1 (by omega) _ HW5.out).mono ?_
        rintro e w6 ⟨rfl, hw6⟩
        have hl6 := WS.place_len s5 x
        have HO6 := hid (HW5.out.wroteOb hw6 HO5.out (by decide) (by decide))
        have HX6 := hid (Wrote.then HW5.out HR5.out HF5.out hw6)
        clear hw6
        go_wp2_with fail
        exact ⟨⟨k + 1, _, by go_num, by omega, (foldl_drop HX.out s5).symm.trans HREST.out, by omega, HX6.out, HO6.out⟩, by simp [intOf]; omega⟩
      · obtain rfl : k = 6 := by omega
        have hs5 : s5 = [f1, f2, f3, f4, f5, f6].foldl WS.place s2 := HREST.out
        have hf := HFIN.out
        rw [← hs5] at hf
        have HFIN := hid hf
        clear hf
        clear hs5
        have c7 := HO5.out.cell 7
        have c8 := HO5.out.cell 8
        have c9 := HO5.out.cell 9
        simp [spArr] at c7 c8 c9
        go_wp2_with fail
        clear c7 c8 c9
        refine (TW.out a 1 row5 s5 _ _ HA.out HW5.out (by omega) (by omega) (by omega)).mono ?_
        rintro e w6 ⟨rfl, hw6⟩
        have hl6 := WS.term_len a 1 s5
        generalize hq6 : WS.term a 1 s5 = s6 at *
        have hO6 := HW5.out.wroteOb hw6 HO5.out (by decide) (by decide)
        obtain ⟨row6, hW6, hr6, hF6⟩ := Wrote.then HW5.out HR5.out HF5.out hw6
        have c7 := hO6.cell 10
        have c8 := hO6.cell 11
        have c9 := hO6.cell 12
        simp [spArr] at c7 c8 c9
        have HW6 := hid hW6
        have HR6 := hid hr6
        have HF6 := hid hF6
        have HO6 := hid hO6
        clear hw6 hW6 hr6 hF6 hO6 hq6 HW5 HR5 HF5 HO5
        go_wp2_with fail
        clear c7 c8 c9
        refine (TW.out b 1 row6 s6 _ _ HB.out HW6.out (by omega) (by omega) (by omega)).mono ?_
        rintro e w7 ⟨rfl, hw7⟩
        have hl7 := WS.term_len b 1 s6
        generalize hq7 : WS.term b 1 s6 = s7 at *
        have hO7 := HW6.out.wroteOb hw7 HO6.out (by decide) (by decide)
        obtain ⟨row7, hW7, hr7, hF7⟩ := Wrote.then HW6.out HR6.out HF6.out hw7
        have c13 := hO7.cell 13
        simp [spArr] at c13
        have HW7 := hid hW7
        have HR7 := hid hr7
        have HF7 := hid hF7
        have HO7 := hid hO7
        clear hw7 hW7 hr7 hF7 hO7 hq7 HW6 HR6 HF6 HO6
        go_wp2_with fail
        clear c13
        refine (wcount_any G wb row7 s7 dv.length (by omega) (by omega) (by omega) _ HW7.out).mono ?_
        rintro e w8 ⟨rfl, hw8⟩
        have hl8 := WS.count_len s7 dv.length
        generalize hq8 : s7.count dv.length = s8 at *
        have hO8 := HW7.out.wroteOb hw8 HO7.out (by decide) (by decide)
        have c13 := hO8.cell 13
        simp [spArr] at c13
        have HX8 := hid (Wrote.then HW7.out HR7.out HF7.out hw8)
        have HO8 := hid hO8
        clear hw8 hO8 hq8 HW7 HR7 HF7 HO7
        go_wp2_with fail
        clear c13
        go_loopw [55] (fun i wr => ∃ (k : Nat) (s9 : WS), i = .int .i64 k ∧ k ≤ dv.length ∧ (dv.drop k).foldl WS.div s9 = WS.divs dv s8 ∧ s9.b.length ≤ 1048700 + 5 * k ∧ Wrote G w wb row wr s9 ∧
            Ob pb G wr pb 64 (spArr kind [f1, f2, f3, f4, f5, f6] a0 a1 a2 b0 b1 b2 (.slice pd dv.length kd) [.slice p1 h1.length k1, .slice p2 h2.length k2, .slice p3 h3.length k3])) (fun i _ => dv.length - (intOf i).toNat)
        case atStart => exact ⟨0, s8, rfl, by omega, rfl, by omega, HX8.out, HO8.out⟩
        case round =>
          obtain ⟨k, s9, rfl, hk, hrest, hl9, ⟨row9, hW9, hr9, hF9⟩, hO9⟩ := hrel
          have HREST := hid hrest
          clear hrest HX8 HO8
          by_cases hkl : k < dv.length
          · obtain ⟨t, ht⟩ : ∃ t, dv[k]? = some t := ⟨_, List.getElem?_eq_getElem hkl⟩
            obtain ⟨bb, off, xs, hpd, hrx, hlx, hcx⟩ := SD.out.nth (n := 7) (fun d hd => by obtain ⟨t, _, rfl⟩ := List.mem_map.1 hd; exact t.wide) (i := k) (d := t.enc) (by simp [ht])
            obtain ⟨u0, u1, u2, v0, v1, v2, rfl, hwt, hu, hv⟩ := reps_dv_inv hrx
            obtain ⟨y0, y1⟩ := wf_i64_bd hwt
            subst hpd
            have hcells : ∀ j u, ([.int .i64 t.at_, u0, u1, u2, v0, v1, v2] : List Value)[j]? = some u → wr.cell? ⟨bb, off + k * 7 + j, none⟩ = some u := fun j u hu => hW9.com _ _ _ (hcx j u hu)
            have HC := hid hcells
            have HW9 := hid hW9
            have HR9 := hid hr9
            have HF9 := hid hF9
            have HO9 := hid hO9
            have HU := hid hu
            have HV := hid hv
            have HO1 := hid hrx.one
            have HT := hid ht
            clear hW9 hr9 hF9 hO9 hrx ht hcx hcells hlx hu hv hwt
            go_wp2_with (first
              | (refine wpList_load_cells rfl 81 (.tmp 57) rfl (b := bb) (off := off + k * 7) [.int .i64 t.at_, u0, u1, u2, v0, v1, v2] rfl HC.out _ Try.underlying81 rfl (by kernel_rfl) ?_)
              | (refine wpList_store_part rfl 81 (.tmp 9) (.tmp 58) rfl (off := 0) #[.int .i64 t.at_, u0, u1, u2, v0, v1, v2] [.int .i64 t.at_, u0, u1, u2, v0, v1, v2] rfl (Blk.new wr 81 #[.int .i64 0, .int .i64 0, .int .u32 0, .slice none 0 0, .int .i64 0, .int .u32 0, .slice none 0 0]) rfl (by kernel_rfl) HO1.out (by simp) (by rfl) ?_
                 intro w10 hb10 hg10
                 have c0 := hb10.cell 0
                 simp at c0
                 have HB10 := hid hb10
                 have HG10 := hid hg10
                 clear hb10 hg10))
            clear c0
            obtain ⟨hW10, hF10⟩ := HW9.out.fresh HG10.out
            have hD10 : Ob w.heap.size G w10 wr.heap.size 81 #[.int .i64 t.at_, u0, u1, u2, v0, v1, v2] := ⟨HF9.out.size, HB10.out, HW9.out.com.out (Nat.le_refl _)⟩
            have hO10 := HW9.out.keepsOb hF10 HO9.out (by decide) (by decide)
            obtain ⟨db, hdb⟩ : ∃ db, db = wr.heap.size := ⟨_, rfl⟩
            rw [← hdb] at hD10
            simp only [← hdb]
            have HO10 := hid hO10
            have HD10 := hid hD10
            obtain ⟨row10, hW10', hr10, hF10'⟩ := Wrote.then HW9.out HR9.out HF9.out ⟨row9, hW10, .inl rfl, hF10⟩
            have HW10 := hid hW10'
            have HR10 := hid hr10
            have HF10 := hid hF10'
            clear hF10 hD10 hO10 hdb HB10 HG10 HC hW10 hr10 hW10' hF10' HW9 HR9 HF9 HO9
            refine (wplace_any G wb row10 s9 t.at_ y0 y1 (by omega) _ HW10.out).mono ?_
            rintro e w11 ⟨rfl, hw11⟩
            have hl11 := WS.place_len s9 t.at_
            have hdiv : WS.div s9 t = WS.term t.b 1 (WS.term t.a 1 (s9.place t.at_)) := rfl
            generalize hq11 : s9.place t.at_ = s11 at *
            have hO11 := HW10.out.wroteOb hw11 HO10.out (by decide) (by decide)
            have hD11 := HW10.out.wroteOb hw11 HD10.out (by decide) (by decide)
            obtain ⟨row11, hW11, hr11, hF11⟩ := Wrote.then HW10.out HR10.out HF10.out hw11
            have c1 := hD11.cell 1
            have c2 := hD11.cell 2
            have c3 := hD11.cell 3
            simp at c1 c2 c3
            have HW11 := hid hW11
            have HR11 := hid hr11
            have HF11 := hid hF11
            have HO11 := hid hO11
            have HD11 := hid hD11
            have HDIV := hid hdiv
            clear hw11 hW11 hr11 hF11 hO11 hD11 hq11 hdiv HW10 HR10 HF10 HO10 HD10
            go_wp2_with fail
            clear c1 c2 c3
            refine (TW.out t.a 1 row11 s11 _ _ HU.out HW11.out (by omega) (by omega) (by omega)).mono ?_
            rintro e w12 ⟨rfl, hw12⟩
            have hl12 := WS.term_len t.a 1 s11
            generalize hq12 : WS.term t.a 1 s11 = s12 at *
            have hO12 := HW11.out.wroteOb hw12 HO11.out (by decide) (by decide)
            have hD12 := HW11.out.wroteOb hw12 HD11.out (by decide) (by decide)
            obtain ⟨row12, hW12, hr12, hF12⟩ := Wrote.then HW11.out HR11.out HF11.out hw12
            have c1 := hD12.cell 4
            have c2 := hD12.cell 5
            have c3 := hD12.cell 6
            simp at c1 c2 c3
            have HW12 := hid hW12
            have HR12 := hid hr12
            have HF12 := hid hF12
            have HO12 := hid hO12
            clear hw12 hW12 hr12 hF12 hO12 hD12 hq12 HW11 HR11 HF11 HO11 HD11
            go_wp2_with fail
            clear c1 c2 c3
            refine (TW.out t.b 1 row12 s12 _ _ HV.out HW12.out (by omega) (by omega) (by omega)).mono ?_
            rintro e w13 ⟨rfl, hw13⟩
            have hl13 := WS.term_len t.b 1 s12
            have HO13 := hid (HW12.out.wroteOb hw13 HO12.out (by decide) (by decide))
            have HX13 := hid (Wrote.then HW12.out HR12.out HF12.out hw13)
            clear hw13
            go_wp2_with fail
            refine ⟨⟨k + 1, _, by go_num, by omega, ?_, by omega, HX13.out, HO13.out⟩, by simp [intOf]; omega⟩
            rw [← HDIV.out]
            exact (foldl_drop HT.out s9).symm.trans HREST.out
          · obtain rfl : k = dv.length := by omega
            have hs9 : s9 = WS.divs dv s8 := by have := HREST.out; rw [List.drop_length] at this; exact this
            have hf := HFIN.out
            rw [← hs9] at hf
            have HFIN := hid hf
            clear hf
            have HX9 := hid (⟨row9, hW9, hr9, hF9⟩ : Wrote G w wb row wr s9)
            have c7 := hO9.cell 14
            have c8 := hO9.cell 15
            have c9 := hO9.cell 16
            simp [spArr] at c7 c8 c9
            clear hs9 hW9 hr9 hF9 hO9
            go_wp2_with fail
            clear c7 c8 c9
            go_loopw [79] (fun i wr => ∃ (k : Nat) (s10 : WS), i = .int .i64 k ∧ k ≤ 3 ∧ ([h1, h2, h3].drop k).foldl (fun s l => WS.steps l (d + 1) s) s10 = [h1, h2, h3].foldl (fun s l => WS.steps l (d + 1) s) s9 ∧ s10.b.length ≤ 1200000 + 5 * k ∧ Wrote G w wb row wr s10) (fun i _ => 3 - (intOf i).toNat)
            case atStart => exact ⟨0, s9, rfl, by omega, rfl, by omega, HX9.out⟩
            case round =>
              obtain ⟨k, s10, rfl, hk, hrest, hl10, row10, hW10, hr10, hF10⟩ := hrel
              have HREST := hid hrest
              have HW10 := hid hW10
              have HR10 := hid hr10
              have HF10 := hid hF10
              clear hrest hW10 hr10 hF10 HX9
              by_cases hk3 : k < 3
              · obtain ⟨l, p, c, hl, ⟨hstep, hsml⟩, hsl, hidx⟩ := P3.out k hk3
                have HL := hid hl
                have HSTEP := hid hstep
                have HSML := hid hsml
                have HSL := hid hsl
                clear hl hstep hsml hsl
                have hwrap : IntKind.i64.wrap (d + 1) = d + 1 := IntWalk.i64_in _ (by omega)
                go_wp2_with fail
                refine (HSTEP.out (d + 1) row10 s10 _ p c HSL.out HW10.out HSML.out (by omega) (by omega) (by omega)).mono ?_
                rintro e w11 ⟨rfl, hw11⟩
                have hl11 := WS.steps_len l (d + 1) s10 HSML.out
                have HX11 := hid (Wrote.then HW10.out HR10.out HF10.out hw11)
                clear hw11
                go_wp2_with fail
                refine ⟨⟨k + 1, _, by go_num, by omega, ?_, by omega, HX11.out⟩, by simp [intOf]; omega⟩
                exact (foldl_drop (g := fun s l => WS.steps l (d + 1) s) HL.out s10).symm.trans HREST.out
              · obtain rfl : k = 3 := by omega
                go_wp2_with fail
                first | go_end0 | refine bodyPost_ret (results_none rfl _ _ _) rfl ?_
                refine ⟨rfl, ?_⟩
                rw [HFIN.out, ← HREST.out]
                exact ⟨row10, HW10.out, HR10.out, HF10.out⟩

theorem wstep_any (G : GG) (wb : Nat) : ∀ (N : Nat), (∀ t : Sp, SizeOf.sizeOf t < N → StepW G wb t) ∧ (∀ l : List Sp, SizeOf.sizeOf l < N → StepsW G wb l) := by
  intro N
  induction N with
  | zero => exact ⟨fun t h => by omega, fun l h => by omega⟩
  | succ N ih =>
    obtain ⟨ih1, ih2⟩ := ih
    refine ⟨fun t ht => wstep_one G wb t fun kind f1 f2 f3 f4 f5 f6 a b dv h1 h2 h3 e => ?_, fun l hl => wsteps_any G wb l fun t ht => ih1 t ?_⟩
    · subst e
      simp at ht
      exact ⟨ih2 _ (by omega), ih2 _ (by omega), ih2 _ (by omega)⟩
    · have := Sp.mem_lt ht
      omega
end Go.Proofs.Ytolhahlnccekcaa
