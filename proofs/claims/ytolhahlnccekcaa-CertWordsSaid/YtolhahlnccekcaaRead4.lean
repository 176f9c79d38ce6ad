/-
  Walks of the certificate's reader: costs.
-/
import Derived.Test.YtolhahlnccekcaaRead3
namespace Go.Proofs.Ytolhahlnccekcaa
open Go.RowKit

def CtPost (r : Ct × RS) (G : GG) (w : World) (rb L : Nat) (e : Ending) (w' : World) : Prop :=
  ∃ G' cs, e = .returned (.agg ⟨cs⟩) ∧ Reps G' [r.1.enc] cs ∧ Rd G' w' rb L r.2 ∧ St G w (some rb) G' w'

theorem info_Cost : (Try.prog.info? 32).map (fun i => (i.zero, i.size, i.bytes)) = some (some (.agg #[.int .i64 0, .int .i64 0, .int .i64 0, .int .i64 0, .int .i64 0, .int .i64 0, .int .u32 0, .slice none 0 0, .int .i64 0, .int .u32 0, .slice none 0 0, .slice none 0 0]), 12, 144) := by kernel_rfl

def ctArr (k c i w z : Int) (a0 a1 a2 b0 b1 b2 v : Value) : Array Value := #[.int .i64 k, .int .i64 c, .int .i64 i, .int .i64 w, .int .i64 z, a0, a1, a2, b0, b1, b2, v]
def ctZero : Array Value := ctArr 0 0 0 0 0 (.int .i64 0) (.int .u32 0) (.slice none 0 0) (.int .i64 0) (.int .u32 0) (.slice none 0 0) (.slice none 0 0)
theorem ct_zero_reps (G : GG) : Reps G [Ct.zero.enc] ctZero.toList := by
  have hn : SliceIs G [] none 0 0 := ⟨rfl, Nat.le_refl _, by decide, [], .nil, fun h => by cases h⟩
  exact .mk_one_node <| .int (by decide) <| .int (by decide) <| .int (by decide) <| .int (by decide) <| .int (by decide) <| Reps.append (reps_tm_zero G) <| Reps.append (reps_tm_zero G) <| .mk_list hn .nil
theorem list12 (cs : List Value) (h : cs.length = 12) : ∃ x0 x1 x2 x3 x4 x5 x6 x7 x8 x9 x10 x11, cs = [x0, x1, x2, x3, x4, x5, x6, x7, x8, x9, x10, x11] := by
  match cs, h with
  | [x0, x1, x2, x3, x4, x5, x6, x7, x8, x9, x10, x11], _ => exact ⟨_, _, _, _, _, _, _, _, _, _, _, _, rfl⟩
abbrev TwoC (G0 : GG) (w0 : World) (rb tb sb : Nat) := Two G0 w0 rb tb sb 32 ctZero

theorem ct_zero_end {r : Ct × RS} {s : RS} {G0 G : GG} {w0 w w' : World} {rb L tb sb : Nat} {z : Array Value} (hr : r = (.zero, s)) (hT : TwoC G0 w0 rb tb sb G w ctZero) (hR : Rd G w rb L s) (hb : Blk w' sb 32 z) (hz : z = ctZero) (hg : w.grownBy w' (some sb)) :
    CtPost r G0 w0 rb L (.returned (.agg z)) w' := by
  subst hr hz
  exact ⟨G, ctZero.toList, rfl, ct_zero_reps G, hR.step hg (by simpa using fun e => hT.ne2 e.symm), hT.out hb hg⟩

theorem ct_end {r : Ct × RS} {g : RS → Ct × RS} {fin : List Ct × RS} {m : Int} {G0 G : GG} {w0 wr w' : World} {rb L tb sb n : Nat} {k c i w z : Int} {a b : Tm} {ts : List Ct} {s : RS} {a0 a1 a2 b0 b1 b2 : Value} {va : Option Addr} {vl vc : Nat}
    (hr : r = (.mk k c i w z a b fin.1, fin.2)) (hf : fin = (ts, s)) (hk : (Lit.int .i64 k).wf = true) (hc : (Lit.int .i64 c).wf = true) (hi : (Lit.int .i64 i).wf = true) (hw : (Lit.int .i64 w).wf = true) (hz : (Lit.int .i64 z).wf = true)
    (hG : Gath Ct.enc 32 12 g fin m G0 w0 rb L G wr n (.slice va vl vc) ts s) (hT : TwoC G0 w0 rb tb sb G wr (ctArr k c i w z a0 a1 a2 b0 b1 b2 (.slice va vl vc)))
    (hab : Reps G [a.enc, b.enc] ([a0, a1, a2] ++ [b0, b1, b2])) (hv2 : (Value.slice va vl vc).ownBlock ≠ some sb) {cs : Array Value} (hcs : cs = ctArr k c i w z a0 a1 a2 b0 b1 b2 (.slice va vl vc)) (hb : Blk w' sb 32 cs) (hg : wr.grownBy w' (some sb)) :
    CtPost r G0 w0 rb L (.returned (.agg cs)) w' := by
  subst hcs
  rw [hr, hf]
  obtain ⟨G', a', cap', he, hC, hE, hI, ho⟩ := hG.row.done hG.st.com
  injection he with e1 e2 e3
  subst e1 e3
  rw [← e2] at hI
  have ho2 := ho sb hT.o.out hv2
  refine ⟨G', (ctArr k c i w z a0 a1 a2 b0 b1 b2 (.slice va vl vc)).toList, rfl, ?_, (hG.rd.laid hE).step hg (by simpa using fun e => hT.ne2 e.symm), (hG.st.laid hE hC).step hg (fun g e => by injection e with e; subst e; exact ⟨hT.o.new, ho2⟩)⟩
  rw [show Ct.enc (Ct.mk k c i w z a b ts) = .node ([.int .i64 k, .int .i64 c, .int .i64 i, .int .i64 w, .int .i64 z] ++ ([a.enc, b.enc] ++ [.list (ts.map Ct.enc)])) by simp [Ct.enc, Ct.encs_eq]]
  exact .mk_one_node (Reps.append (cs := [.int .i64 k, .int .i64 c, .int .i64 i, .int .i64 w, .int .i64 z]) (xs := ([a0, a1, a2] ++ [b0, b1, b2]) ++ [_]) (.int hk <| .int hc <| .int hi <| .int hw <| .int hz .nil) (Reps.append (hab.ext hE) (.mk_list hI .nil)))

set_option maxRecDepth 100000 in
set_option maxHeartbeats 2000000 in
theorem cost_any (rb L : Nat) (hL : L ≤ 3000) : ∀ (f : Nat) (d : Int) (s : RS) (G : GG) (w : World), Rd G w rb L s → St G w (some rb) G w → 1 ≤ d → d ≤ 2049 → 2050 ≤ d + f →
    Calls Try.prog 15 #[.pointer (some ⟨rb, 0, none⟩), .int .i64 d] w (CtPost (RS.cost f d s) G w rb L) := by
  intro f
  induction f with
  | zero => intro d s G w _ _ _ _; omega
  | succ f ih =>
    intro d s G w h hS hd1 hd2 hf
    have IH := hid ih
    clear ih
    have hlt : rb < w.heap.size := (hS.out rb rfl).2
    have h1 := (h.alloc (Obj.cells ctZero 32)).alloc (Obj.cells ctZero 32)
    have hT1 : TwoC G w rb (w.heap.size + 1) w.heap.size G ((w.alloc (Obj.cells ctZero 32)).alloc (Obj.cells ctZero 32)) ctZero :=
      ⟨(hS.alloc _).alloc _, by simpa using Ob.made (B := w.heap.size) (hS.alloc (Obj.cells ctZero 32)).com (by simp) 32 ctZero, (Ob.made (B := w.heap.size) hS.com (Nat.le_refl _) 32 ctZero).alloc _, by omega⟩
    have H1 := hid h1
    have HT1 := hid hT1
    clear h hS h1 hT1
    go_enter Try.func15, Try.ntmps15
    go_wp2_with fail
    refine (deep_any G rb L s _ H1.out HT1.out.st.now d).mono ?_
    rintro e w1 ⟨rfl, hr2, hS2⟩
    generalize hq1 : s.deep d = q1 at *
    obtain ⟨b, s1⟩ := q1
    simp only at hr2
    have hT2 := HT1.out.call hS2
    obtain ⟨tb, htb⟩ : ∃ tb, tb = w.heap.size + 1 := ⟨_, rfl⟩
    obtain ⟨sb, hsb⟩ : ∃ sb, sb = w.heap.size := ⟨_, rfl⟩
    rw [← htb, ← hsb] at hT2
    simp only [← htb]
    simp only [← hsb]
    have HT2 := hid hT2
    have HR2 := hid hr2
    have HQ1 := hid hq1
    clear hr2 hS2 hT2 hq1 htb hsb HT1 H1
    cases b with
    | true =>
      go_wp2_with (first
        | (refine wpList_load_row rfl 32 _ rfl tb rfl 32 ctZero (0, 0) _ HT2.out.t.blk Try.underlying32 rfl (by kernel_rfl) ?_)
        | (refine wpList_store_part rfl 32 _ _ rfl ctZero ctZero.toList rfl HT2.out.o.blk rfl (by kernel_rfl) (ct_zero_reps G).one (by decide) (by rfl) ?_
           intro w2 hb2 hg2))
      exact ret_row _ rfl rfl hb2 Try.underlying32 rfl (by kernel_rfl) rfl (ct_zero_end (RS.cost_1 HQ1.out) HT2.out HR2.out hb2 rfl hg2)
    | false =>
      have hd3 : d ≤ 2048 := RS.deep_false HQ1.out
      go_wp2_with fail
      refine (count_any G rb L s1 _ HR2.out HT2.out.st.now).mono ?_
      rintro e w2 ⟨rfl, hR3, hS3⟩
      have hrg := s1.count_range
      generalize hq2 : s1.count = q2 at *
      obtain ⟨k1, s2⟩ := q2
      simp only at hR3 hrg
      have hk1 : (Lit.int .i64 k1).wf = true := WalkArith.wf_i64 (by omega)
      have HK1 := hid hk1
      have HT3 := hid (HT2.out.call hS3)
      have HR3 := hid hR3
      have HQ2 := hid hq2
      clear hR3 hS3 hq2 hrg hk1 HT2 HR2
      go_wp2_with fail
      refine (count_any G rb L s2 _ HR3.out HT3.out.st.now).mono ?_
      rintro e w3 ⟨rfl, hR4, hS4⟩
      have hrg := s2.count_range
      generalize hq3 : s2.count = q3 at *
      obtain ⟨k2, s3⟩ := q3
      simp only at hR4 hrg
      have hk2 : (Lit.int .i64 k2).wf = true := WalkArith.wf_i64 (by omega)
      have HK2 := hid hk2
      have HT4 := hid (HT3.out.call hS4)
      have HR4 := hid hR4
      have HQ3 := hid hq3
      clear hR4 hS4 hq3 hrg hk2 HT3 HR3
      go_wp2_with fail
      refine (count_any G rb L s3 _ HR4.out HT4.out.st.now).mono ?_
      rintro e w4 ⟨rfl, hR5, hS5⟩
      have hrg := s3.count_range
      generalize hq4 : s3.count = q4 at *
      obtain ⟨k3, s4⟩ := q4
      simp only at hR5 hrg
      have hk3 : (Lit.int .i64 k3).wf = true := WalkArith.wf_i64 (by omega)
      have HK3 := hid hk3
      have hT5 := HT4.out.call hS5
      have c0 := hT5.t.cell 0
      have c1 := hT5.t.cell 1
      have c2 := hT5.t.cell 2
      have f0 := hT5.t.frozen 0
      have f1 := hT5.t.frozen 1
      have f2 := hT5.t.frozen 2
      simp [ctZero, ctArr] at c0 c1 c2
      have hT6 := ((hT5.set_ 0 (.int .i64 k1)).set_ 1 (.int .i64 k2)).set_ 2 (.int .i64 k3)
      have hR6 := ((hR5.far hT5.ne1 0 (.int .i64 k1)).far hT5.ne1 1 (.int .i64 k2)).far hT5.ne1 2 (.int .i64 k3)
      have HT6 := hid hT6
      have HR6 := hid hR6
      have HQ4 := hid hq4
      clear hR5 hS5 hq4 hrg hk3 HT4 HR4 hT5 hT6 hR6
      go_wp2_with fail
      clear c0 c1 c2 f0 f1 f2
      refine (place_any G rb L s4 _ HR6.out HT6.out.st.now).mono ?_
      rintro e w5 ⟨rfl, hR7, hS7⟩
      have hrg := s4.place_range
      generalize hq5 : s4.place = q5 at *
      obtain ⟨k4, s5⟩ := q5
      simp only at hR7 hrg
      have hk4 : (Lit.int .i64 k4).wf = true := WalkArith.wf_i64 (by omega)
      have HK4 := hid hk4
      have HT7 := hid (HT6.out.call hS7)
      have HR7 := hid hR7
      have HQ5 := hid hq5
      clear hR7 hS7 hq5 hrg hk4 HT6 HR6
      go_wp2_with fail
      refine (place_any G rb L s5 _ HR7.out HT7.out.st.now).mono ?_
      rintro e w6 ⟨rfl, hR8, hS8⟩
      have hrg := s5.place_range
      generalize hq6 : s5.place = q6 at *
      obtain ⟨k5, s6⟩ := q6
      simp only at hR8 hrg
      have hk5 : (Lit.int .i64 k5).wf = true := WalkArith.wf_i64 (by omega)
      have HK5 := hid hk5
      have hT8 := HT7.out.call hS8
      have c3 := hT8.t.cell 3
      have c4 := hT8.t.cell 4
      have f3 := hT8.t.frozen 3
      have f4 := hT8.t.frozen 4
      simp [ctZero, ctArr] at c3 c4
      have hT9 : TwoC G w rb tb sb G _ (ctArr k1 k2 k3 k4 k5 (.int .i64 0) (.int .u32 0) (.slice none 0 0) (.int .i64 0) (.int .u32 0) (.slice none 0 0) (.slice none 0 0)) := (hT8.set_ 3 (.int .i64 k4)).set_ 4 (.int .i64 k5)
      have hR9 := (hR8.far hT8.ne1 3 (.int .i64 k4)).far hT8.ne1 4 (.int .i64 k5)
      have HT9 := hid hT9
      have HR9 := hid hR9
      have HQ6 := hid hq6
      clear hR8 hS8 hq6 hrg hk5 HT7 HR7 hT8 hT9 hR9
      go_wp2_with fail
      clear c3 c4 f3 f4
      refine (term_any rb L hL 2049 1 s6 _ _ HR9.out HT9.out.st.now (by omega) (by omega) (by omega)).mono ?_
      rintro e w7 ⟨G7, a0, a1, a2, rfl, hra, hR10, hS10⟩
      have hqa : s6.term1 = RS.term 2049 1 s6 := rfl
      generalize hq7 : RS.term 2049 1 s6 = q7 at *
      obtain ⟨ta, s7⟩ := q7
      simp only at hra hR10
      have HT10 := hid (HT9.out.call hS10)
      have HR10 := hid hR10
      have HRA := hid hra
      have HO1 := hid hra.one
      have HQ7 := hid hqa
      clear hra hR10 hS10 hqa hq7 HT9 HR9
      go_wp2_with fail
      refine (term_any rb L hL 2049 1 s7 _ _ HR10.out HT10.out.st.now (by omega) (by omega) (by omega)).mono ?_
      rintro e w8 ⟨G8, b0, b1, b2, rfl, hrb, hR11, hS11⟩
      have hqb : s7.term1 = RS.term 2049 1 s7 := rfl
      generalize hq8 : RS.term 2049 1 s7 = q8 at *
      obtain ⟨tb', s8⟩ := q8
      simp only at hrb hR11
      have hab : Reps G8 [ta.enc, tb'.enc] ([a0, a1, a2] ++ [b0, b1, b2]) := Reps.append (HRA.out.ext hS11.ext) hrb
      have HT11 := hid (HT10.out.call hS11)
      have HAB := hid hab
      have HO2 := hid hrb.one
      have HR11 := hid hR11
      have HQ8 := hid hqb
      clear hrb hR11 hS11 hqb hq8 hab HT10 HR10 HRA
      go_wp2_with (first
        | (refine wpList_store_part rfl 29 (.tmp 29) (.tmp 26) rfl (off := 5) (ctArr k1 k2 k3 k4 k5 a0 a1 a2 (.int .i64 0) (.int .u32 0) (.slice none 0 0) (.slice none 0 0)) [a0, a1, a2] rfl HT11.out.t.blk rfl (by kernel_rfl) HO1.out (by simp [ctArr]) (by rfl) ?_
           intro w9 hb9 hg9
           have HB9 := hid hb9
           have HG9 := hid hg9
           clear hb9 hg9)
        | (refine wpList_store_part rfl 29 (.tmp 30) (.tmp 28) rfl (off := 8) (ctArr k1 k2 k3 k4 k5 a0 a1 a2 b0 b1 b2 (.slice none 0 0)) [b0, b1, b2] rfl HB9.out rfl (by kernel_rfl) HO2.out (by simp [ctArr]) (by rfl) ?_
           intro w10 hb10 hg10
           have HB10 := hid hb10
           have HG10 := hid hg10
           clear hb10 hg10))
      have hT12 := (HT11.out.put HB9.out HG9.out).put HB10.out HG10.out
      have hR12 := (HR11.out.step HG9.out (by simpa using fun e => HT11.out.ne1 e.symm)).step HG10.out (by simpa using fun e => HT11.out.ne1 e.symm)
      have HT12 := hid hT12
      have HR12 := hid hR12
      clear hT12 hR12 HT11 HR11 HB9 HG9 HB10 HG10
      refine (many_any G8 rb L s8 _ HR12.out HT12.out.st.now).mono ?_
      rintro e w11 ⟨rfl, hR13, hS13⟩
      have hrg := s8.many_range
      generalize hq9 : s8.many = q9 at *
      obtain ⟨m, s9⟩ := q9
      obtain ⟨m0, m1⟩ := hrg
      have hlm := hR13.len
      simp only at hR13 m0 m1 hlm
      obtain ⟨fin, hfin⟩ : ∃ fin, fin = loop (RS.cost f (d + 1)) m.toNat [] s9 := ⟨_, rfl⟩
      have hT13 := HT12.out.call hS13
      have hg0 : Gath Ct.enc 32 12 (RS.cost f (d + 1)) fin m G w rb L G8 w11 0 (.slice none 0 0) [] s9 := ⟨hT13.st, hR13, Row.nil _ _ _ _ _, by simp, hfin.symm⟩
      have HT13 := hid hT13
      have HG0 := hid hg0
      have HFIN := hid (RS.cost_2 HQ1.out HQ2.out HQ3.out HQ4.out HQ5.out HQ6.out HQ7.out HQ8.out hq9 hfin)
      clear hR13 hS13 hT13 hg0 hfin hq9 HT12 HR12 HQ1 HQ2 HQ3 HQ4 HQ5 HQ6 HQ7 HQ8 HO1 HO2
      go_wp2_with fail
      go_loopw [33] (fun i wr => ∃ (k : Nat) (G1 : GG) (ts : List Ct) (v : Value) (s5 : RS), i = .int .i64 k ∧ (k : Int) ≤ m ∧ Gath Ct.enc 32 12 (RS.cost f (d + 1)) fin m G w rb L G1 wr k v ts s5 ∧
          TwoC G w rb tb sb G1 wr (ctArr k1 k2 k3 k4 k5 a0 a1 a2 b0 b1 b2 v) ∧ Reps G1 [ta.enc, tb'.enc] ([a0, a1, a2] ++ [b0, b1, b2]) ∧ v.ownBlock ≠ some tb ∧ v.ownBlock ≠ some sb) (fun i _ => m.toNat - (intOf i).toNat)
      case atStart => exact ⟨0, G8, [], .slice none 0 0, s9, rfl, by omega, HG0.out, HT13.out, HAB.out, by simp [Value.ownBlock], by simp [Value.ownBlock]⟩
      case round =>
        obtain ⟨k, G1, ts, v, s5, rfl, hk, hGa, hT, hAB, hv1, hv2⟩ := hrel
        clear HG0 HT13 HAB
        obtain ⟨va, vc, rfl⟩ := hGa.form
        obtain ⟨a, cap, r0, r1, rf0, rf1, hlen⟩ := hGa.rd.cells
        have hlen2 : ts.length ≤ 3000 := by have := hGa.len; omega
        have HA := hid hGa
        have HT := hid hT
        have HAB := hid hAB
        have HV1 := hid hv1
        have HV2 := hid hv2
        have c11 := hT.t.cell 11
        have f11 := hT.t.frozen 11
        simp [ctArr] at c11
        clear hGa hT hAB hv1 hv2
        rcases (by cases s5.bad <;> simp <;> omega : ((k : Int) < m ∧ s5.bad = false) ∨ (((k : Int) < m ∧ s5.bad = true) ∨ m ≤ k)) with ⟨hkm, hbad⟩ | hx
        · rw [hbad] at r1
          have HBAD := hid hbad
          clear hbad
          obtain ⟨i0, hi0, hz0, hz1, hz2⟩ := info_parts info_Cost
          have hwrap : IntKind.i64.wrap (d + 1) = d + 1 := IntWalk.i64_in _ (by omega)
          go_wp2_with fail
          go_region_law (first
            | (refine step_append_row _ rfl (.tmp 40) (.tmp 45) 30 rfl i0 _ 144 Try.underlying30 hi0 hz0 hz1 hz2 rfl (by omega) HW6.out HC6.out [t.enc] [x0, x1, x2, x3, x4, x5, x6, x7, x8, x9, x10, x11] (Src.blk (Blk.new w5 32 ⟨[x0, x1, x2, x3, x4, x5, x6, x7, x8, x9, x10, x11]⟩) 1) HR5.out rfl ?_ hB6 ?_
               · simp only [List.length_cons, List.length_nil, List.length_map]; omega
               intro v' w7 hW7 hg7 hob7
               obtain ⟨va', vc', rfl⟩ := hW7.form
               have hT7 := HT6.out.step hg7 (fun g e => ⟨(HW6.out.lt e).1, HW6.out.out g e⟩) HV1.out HV2.out
               have d11 := hT7.t.cell 11
               have g11 := hT7.t.frozen 11
               simp [ctArr] at d11
               simp only [List.length_append, List.length_cons, List.length_nil, Nat.zero_add, List.length_map] at hW7 hob7 hg7
               have HW7 := hid hW7
               have HG7 := hid hg7
               have HOB7 := hid hob7
               have HT7 := hid hT7
               clear hW7 hg7 hob7 hT7)
            | (go_simp
               go_at_call 15
               refine (IH.out (d + 1) s5 G1 wr.drew HA.out.rd.drew HA.out.st.drew.now (by omega) (by omega) (by omega)).mono ?_
               rintro e w5 ⟨G2, cs, rfl, hr5, hR5, hS5⟩
               generalize hq10 : RS.cost f (d + 1) s5 = q10 at *
               obtain ⟨t, s6⟩ := q10
               simp only at hr5 hR5
               have HQ10 := hid hq10
               clear hq10
               obtain ⟨x0, x1, x2, x3, x4, x5, x6, x7, x8, x9, x10, x11, rfl⟩ := list12 cs (t.wide.cells hr5)
               have hT5 := HT.out.drew.call hS5
               have c25 := hT5.t.cell 11
               have c26 := (hT5.alloc (Obj.cells ⟨[x0, x1, x2, x3, x4, x5, x6, x7, x8, x9, x10, x11]⟩ 32)).t.cell 11
               simp only [ctArr, List.getElem?_toArray, List.getElem?_cons_succ, List.getElem?_cons_zero] at c25 c26
               have hW6 := (HA.out.row.drew.call hS5 (fun g hg => by intro he; have := (HA.out.row.lt he).1; injection hg with hg; omega)).alloc (Obj.cells ⟨[x0, x1, x2, x3, x4, x5, x6, x7, x8, x9, x10, x11]⟩ 32)
               have hB6 : w.heap.size ≤ (w5.alloc (Obj.cells ⟨[x0, x1, x2, x3, x4, x5, x6, x7, x8, x9, x10, x11]⟩ 32)).heap.size := by have := hT5.st.size; simp; omega
               have HT6 := hid (hT5.alloc (Obj.cells ⟨[x0, x1, x2, x3, x4, x5, x6, x7, x8, x9, x10, x11]⟩ 32))
               have HTL := hid hT5.t.lt
               have HOL := hid hT5.o.lt
               have HC6 := hid (hS5.com.alloc (Obj.cells ⟨[x0, x1, x2, x3, x4, x5, x6, x7, x8, x9, x10, x11]⟩ 32))
               have HW6 := hid hW6
               have HR5 := hid hr5
               have HRD5 := hid hR5
               have HS5 := hid (HA.out.st.drew.call hS5)
               have HAB5 := hid (HAB.out.ext hS5.ext)
               clear hW6 hr5 hR5 hS5 hT5))
          all_goals go_wp2_with fail
          all_goals
            have hn1 : (Value.slice va' (ts.length + 1) vc').ownBlock ≠ some tb := by
              have := HTL.out
              rcases HOB7.out with h | h <;> rw [h]
              · exact HV1.out
              · simp; omega
            have hn2 : (Value.slice va' (ts.length + 1) vc').ownBlock ≠ some sb := by
              have := HOL.out
              rcases HOB7.out with h | h <;> rw [h]
              · exact HV2.out
              · simp; omega
            exact ⟨⟨k + 1, G2, ts ++ [t], .slice va' (ts.length + 1) vc', s6, by go_num, by omega, (HA.out.more HBAD.out hkm HQ10.out HS5.out HRD5.out HW6.out HW7.out HG7.out).set_ HT7.out.t.new HT7.out.t.out hn1 11 _, HT7.out.set_ 11 _, HAB5.out, hn1, hn2⟩, by simp [intOf]; omega⟩
        · have hf2 : fin = (ts, s5) := by
            rcases hx with ⟨_, hb⟩ | hm
            · exact HA.out.bad hb
            · exact HA.out.over hm
          have HF2 := hid hf2
          have hof : ∀ u ∈ (ctArr k1 k2 k3 k4 k5 a0 a1 a2 b0 b1 b2 (.slice va ts.length vc)).toList, u.oneCell' = true := by
            intro u hu
            have := HAB.out.one u
            simp [ctArr] at hu this
            rcases hu with h | h | h | h | h | h | h | h | h | h | h | h <;> first | (subst h; rfl) | exact this (by simp [h])
          have HOF := hid hof
          clear hf2 hof
          rcases hx with ⟨hkm, hbad⟩ | hkm
          all_goals
            try (rw [hbad] at r1; clear hbad)
            go_wp2_with (first
              | (refine wpList_load_row rfl 32 _ rfl tb rfl 32 _ (0, 0) _ HT.out.t.blk Try.underlying32 rfl (by kernel_rfl) ?_)
              | (refine wpList_store_part rfl 32 _ _ rfl (off := 0) (ctArr k1 k2 k3 k4 k5 a0 a1 a2 b0 b1 b2 (.slice va ts.length vc)) (ctArr k1 k2 k3 k4 k5 a0 a1 a2 b0 b1 b2 (.slice va ts.length vc)).toList rfl HT.out.o.blk rfl (by kernel_rfl) HOF.out (by simp [ctArr, ctZero]) (by rfl) ?_
                 intro w13 hb13 hg13
                 have HB13 := hid hb13
                 have HG13 := hid hg13
                 clear hb13 hg13))
            exact ret_row _ rfl rfl HB13.out Try.underlying32 rfl (by kernel_rfl) rfl (ct_end HFIN.out HF2.out HK1.out HK2.out HK3.out HK4.out HK5.out HA.out HT.out HAB.out HV2.out rfl HB13.out HG13.out)
end Go.Proofs.Ytolhahlnccekcaa
