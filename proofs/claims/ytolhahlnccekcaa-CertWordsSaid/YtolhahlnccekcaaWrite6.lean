/-
  Walks of the certificate's writer: a whole certificate.
-/
import Derived.Test.YtolhahlnccekcaaWrite5
import Derived.BigQuiet
import Derived.BigRegion
import Derived.Deep.QuietTactic
namespace Go.Proofs.Ytolhahlnccekcaa
open Go.RowKit

def cfArr (name : ByteArray) (entry : Int) (pv : Value) (result depth : Int) (sv : Value) (cc : List Value) : Array Value := ⟨[.string name, .int .i64 entry, pv, .int .i64 result, .int .i64 depth, sv] ++ cc⟩
theorem reps_cf_inv {G : GG} {c : Cf} {cs : List Value} (h : Reps G [c.enc] cs) : ∃ pp kp ps ks cc, cs = (cfArr c.name c.entry (.slice pp c.params.length kp) c.result c.depth (.slice ps c.steps.length ks) cc).toList ∧
    (Lit.int .i64 c.entry).wf = true ∧ (Lit.int .i64 c.result).wf = true ∧ (Lit.int .i64 c.depth).wf = true ∧ SliceIs G (c.params.map Pm.enc) pp c.params.length kp ∧ SliceIs G (c.steps.map Sp.enc) ps c.steps.length ks ∧ Reps G [c.cost.enc] cc ∧ cc.length = 12 := by
  have g0 := Reps.inv_one_node (show Reps G [.node [.str c.name, .int .i64 c.entry, .list (c.params.map Pm.enc), .int .i64 c.result, .int .i64 c.depth, .list (Sp.encs c.steps), c.cost.enc]] cs from h)
  obtain ⟨x1, rfl, g1⟩ := g0.inv_str
  obtain ⟨x2, rfl, w1, g2⟩ := g1.inv_int
  obtain ⟨pp, kp, x3, rfl, sp, g3⟩ := g2.inv_list
  obtain ⟨x4, rfl, w2, g4⟩ := g3.inv_int
  obtain ⟨x5, rfl, w3, g5⟩ := g4.inv_int
  obtain ⟨ps, ks, xs, rfl, ss, g6⟩ := g5.inv_list
  rw [List.length_map] at sp
  rw [Sp.encs_eq, List.length_map] at ss
  exact ⟨pp, kp, ps, ks, xs, by simp [cfArr, Sp.encs_eq], w1, w2, w3, sp, ss, g6, c.cost.wide.cells g6⟩
theorem reps_pm_inv {G : GG} {t : Pm} {cs : List Value} (h : Reps G [t.enc] cs) : cs = [.int .i64 t.kind, .int .i64 t.size] ∧ (Lit.int .i64 t.kind).wf = true ∧ (Lit.int .i64 t.size).wf = true := by
  obtain ⟨xs, rfl, w0, h⟩ := h.inv_one_node.inv_int
  obtain ⟨xs, rfl, w1, h⟩ := h.inv_int
  obtain rfl := h.inv_nil
  exact ⟨rfl, w0, w1⟩

theorem cfArr_cost (name : ByteArray) (entry : Int) (pv : Value) (result depth : Int) (sv : Value) (cc : List Value) (j : Nat) (u : Value) (hu : cc[j]? = some u) : (cfArr name entry pv result depth sv cc)[6 + j]? = some u := by
  have e : cfArr name entry pv result depth sv cc = ([Value.string name, .int .i64 entry, pv, .int .i64 result, .int .i64 depth, sv] ++ cc).toArray := rfl
  rw [e, List.getElem?_toArray, List.getElem?_append_right (by simp)]
  simpa using hu
theorem steps_len1 (l : List Sp) (s : WS) (h : Sp.smalls l) (hs : s.b.length ≤ 30000000) : (WS.steps l 1 s).b.length ≤ 40000000 := by
  have h1 := WS.steps_len l 1 s h
  have e : (2050 - (1 : Int)).toNat = 2049 := by decide
  rw [e] at h1
  omega
theorem cost_len1 (c : Ct) (s : WS) (hs : s.b.length ≤ 40000000) : (WS.cost c 1 s).b.length ≤ 40000000 := by
  have h1 := WS.cost_len c 1 s
  omega
theorem write_eq {c : Cf} {s : WS} (h : WS.body c = s) : c.write = (s.b ++ tl 4 s.b.length, !s.bad && decide ((s.b ++ tl 4 s.b.length).length ≤ 1048576)) := by
  subst h
  unfold Cf.write tail4
  rfl

def WritePost (G : GG) (w : World) (c : Cf) (e : Ending) (w' : World) : Prop :=
  ∃ G' a cap, e = .returned (.tuple #[.slice a c.write.1.length cap, .bool c.write.2]) ∧ SliceIs G' (c.write.1.map byteD) a c.write.1.length cap ∧ St G w none G' w'

theorem write_end {G : GG} {w w' : World} {wb : Nat} {row : Option Nat} {s : WS} {c : Cf} {ok : Bool} {a : Option Addr} {cap : Nat} (hb : c.write = (s.b, ok)) (hW : Wr G w' wb row s) (hc : w'.cell? ⟨wb, 0, none⟩ = some (.slice a s.b.length cap))
    (hrow : row = none ∨ ∃ g, row = some g ∧ w.heap.size ≤ g) (hS : St G w none G w') : WritePost G w c (.returned (.tuple #[.slice a s.b.length cap, .bool ok])) w' := by
  obtain ⟨v, e, hB, hR, hC, hO⟩ := hW
  have hv : v = .slice a s.b.length cap := by
    have := hB.cell 0
    rw [hc] at this
    simpa using this.symm
  subst hv
  have hN : ∀ g, (Value.slice a s.b.length cap).ownBlock = some g → w.heap.size ≤ g := by
    intro g hg
    rw [e] at hg
    rcases hrow with h | ⟨g', h, hl⟩
    · rw [h] at hg; cases hg
    · rw [h] at hg; injection hg with hg; omega
  have hnew : ∀ g, (Value.slice a s.b.length cap).ownBlock = some g → w.heap.size ≤ g := hN
  have hR' : Row w.heap.size G w' 5 1 (.slice a s.b.length cap) (s.b.map byteD) := by
    obtain ⟨⟨xs, h1, h2⟩, h3⟩ := hR
    refine ⟨⟨xs, ⟨h1.1, ?_⟩, h2⟩, h3⟩
    rcases h1.2 with h | ⟨g, cp, cur, h4, h5, h6⟩
    · exact .inl h
    · exact .inr ⟨g, cp, cur, h4, hnew g (by rw [h4]; rfl), h6⟩
  obtain ⟨G', a', cap', he, hC', hE, hI, ho⟩ := hR'.done hC
  rw [List.length_map] at he hI
  injection he with e1 e2 e3
  subst e1 e3
  exact ⟨G', a, cap, by rw [hb], by rw [hb]; exact hI, hS.laid hE hC'⟩

set_option maxRecDepth 100000 in
set_option maxHeartbeats 2000000 in
theorem write_any (G : GG) (c : Cf) (w : World) (cs : List Value) (hC : Com w G) (hr : Reps G [c.enc] cs) (hn : c.name.size ≤ 1000000) (hp : c.params.length ≤ 1000000) (hsm : Sp.smalls c.steps) :
    Calls Try.prog 16 #[.agg ⟨cs⟩] w (WritePost G w c) := by
  obtain ⟨pp, kp, ps, ks, cc, rfl, v1, v2, v3, sp, ss, hcc, hcl⟩ := reps_cf_inv hr
  obtain ⟨x1, y1⟩ := wf_i64_bd v1
  obtain ⟨x2, y2⟩ := wf_i64_bd v2
  obtain ⟨x3, y3⟩ := wf_i64_bd v3
  have hlm : c.steps.length ≤ 9223372036854775807 := by have := ss.2.1; have := ss.2.2.1; unfold maxLen at this; omega
  have HR := hid hr
  have SP := hid sp
  have SS := hid ss
  have HCC := hid hcc
  have HCL := hid hcl
  have HC := hid hC
  have hW0 : Wr G ((w.alloc (Obj.cells (cfArr c.name c.entry (.slice pp c.params.length kp) c.result c.depth (.slice ps c.steps.length ks) cc) 34)).alloc (Obj.cells #[.slice none 0 0, .bool false] 72)) (w.heap.size + 1) none ⟨[], false⟩ :=
    ⟨.slice none 0 0, rfl, by simpa using Blk.new (w.alloc (Obj.cells (cfArr c.name c.entry (.slice pp c.params.length kp) c.result c.depth (.slice ps c.steps.length ks) cc) 34)) 72 #[.slice none 0 0, .bool false], Row.nil _ _ _ _ _, (hC.alloc _).alloc _, hC.out (by omega)⟩
  have hO0 := (Ob.made (B := w.heap.size) hC (Nat.le_refl _) 34 (cfArr c.name c.entry (.slice pp c.params.length kp) c.result c.depth (.slice ps c.steps.length ks) cc)).alloc (Obj.cells #[.slice none 0 0, .bool false] 72)
  have HW0 := hid hW0
  have HO0 := hid hO0
  have k0 : (cfArr c.name c.entry (.slice pp c.params.length kp) c.result c.depth (.slice ps c.steps.length ks) cc)[0]? = some (.string c.name) := rfl
  clear hr sp ss hcc hcl hC hW0 hO0 v1 v2 v3
  go_enter Try.func16, Try.ntmps16
  go_wp2_with fail
  clear k0
  refine (wcount_any G (w.heap.size + 1) none ⟨[], false⟩ c.name.size (by omega) (by omega) (by simp) _ HW0.out).mono ?_
  rintro e w1 ⟨rfl, hw1⟩
  have hl1 := WS.count_len ⟨[], false⟩ c.name.size
  have hbody : WS.body c = WS.cost c.cost 1 (WS.steps c.steps 1 (((c.params.foldl WS.param (((⟨((WS.mk [] false).count c.name.size).b ++ c.name.data.toList.map (·.toNat), ((WS.mk [] false).count c.name.size).bad⟩ : WS).place c.entry).count c.params.length)).count c.result).place c.depth)) := rfl
  generalize hq1 : (WS.mk [] false).count c.name.size = s1 at *
  have hO1 := HW0.out.wroteOb hw1 HO0.out (by decide) (by decide)
  obtain ⟨wb, hwb⟩ : ∃ wb, wb = w.heap.size + 1 := ⟨_, rfl⟩
  obtain ⟨pb, hpb⟩ : ∃ pb, pb = w.heap.size := ⟨_, rfl⟩
  rw [← hwb] at hw1
  rw [← hpb] at hO1
  simp only [← hwb]
  simp only [← hpb]
  have hl1' : s1.b.length ≤ 5 := by simpa using hl1
  clear hl1
  obtain ⟨row1, hW1, hr0, hF0⟩ := hw1
  have hF1 : WFr wb none w w1 := (((WFr.refl wb none w).alloc _).alloc _).trans (.inl rfl) hF0
  have hr1 : row1 = none ∨ ∃ g, row1 = some g ∧ w.heap.size ≤ g := by
    rcases hr0 with h | ⟨g, h, hg⟩
    · exact .inl h
    · simp at hg; exact .inr ⟨g, h, by omega⟩
  clear hr0 hF0
  obtain ⟨a1, e1, ho1, c0, c1, f0, f1, hR1, hB1⟩ := hW1.cells
  have k0 := hO1.cell 0
  have hk0 : (cfArr c.name c.entry (.slice pp c.params.length kp) c.result c.depth (.slice ps c.steps.length ks) cc)[0]? = some (.string c.name) := rfl
  rw [hk0] at k0
  clear hk0
  obtain ⟨i0, hi0, hz0, hz1, hz2⟩ := info_parts info_u8
  have HW1 := hid hW1
  have HR1 := hid hr1
  have HF1 := hid hF1
  have HO1 := hid hO1
  have HRR := hid hR1
  have HBB := hid hB1
  have HOO := hid ho1
  have HBODY := hid hbody
  have HWB := hid hwb
  have HPB := hid hpb
  clear hW1 hr1 hF1 hO1 hR1 hB1 ho1 hbody hwb hpb hq1 HW0 HO0
  go_wp2_with fail
  go_region_law (refine step_append_str_row _ rfl (.tmp 19) (.tmp 21) 22 9 rfl 5 i0 Try.underlying22 Try.underlying9 hi0 hz0 hz1 hz2 HRR.out.drew HW1.out.com.drew c.name rfl ?_ (Nat.zero_le _) ?_; (simp only [List.length_map]; omega); intro v' w7 hW7 hg7 hob7; obtain ⟨va', vc', rfl⟩ := hW7.form; simp only [List.length_append, List.length_map, Array.length_toList, ByteArray.size_data] at hW7 hob7 hg7; have HW7 := hid hW7; have HG7 := hid hg7; have HOB7 := hid hob7; have hB7 := HBB.out.drew.grown hg7 (fun e => HW1.out.ne (HOO.out.symm.trans e.symm)); have d0 := hB7.cell 0; have g0 := hB7.frozen 0; simp at d0; clear hW7 hg7 hob7 hB7)
  all_goals
    have hpush := wr_push HOO.out HBB.out HW1.out.com HW1.out.outWb HW1.out.ne HW1.out.out (gdrew (grefl w1 none)) (xs := c.name.data.toList.map (·.toNat)) (by rw [List.map_map]; exact HW7.out) HG7.out HOB7.out
    have hO2 := HW1.out.wroteOb hpush HO1.out (by decide) (by decide)
    obtain ⟨row2, hW2, hr2, hF2⟩ := Wrote.then HW1.out HR1.out HF1.out hpush
    have hl2 : (s1.b ++ c.name.data.toList.map (·.toNat)).length ≤ 1000010 := by simp; omega
    generalize hq2 : (⟨s1.b ++ c.name.data.toList.map (·.toNat), s1.bad⟩ : WS) = s2 at *
    have hl2' : s2.b.length ≤ 1000010 := by rw [← hq2]; exact hl2
    have c0 := (hO2.cell 1).trans (show (cfArr c.name c.entry (.slice pp c.params.length kp) c.result c.depth (.slice ps c.steps.length ks) cc)[1]? = some (.int .i64 c.entry) from rfl)
    have HW2 := hid hW2
    have HR2 := hid hr2
    have HF2 := hid hF2
    have HO2 := hid hO2
    clear hpush hW2 hr2 hF2 hO2 hq2 hl2 HW1 HR1 HF1 HO1 HW7 HG7 HOB7 HOO HBB HRR k0 d0 g0 c1 f0 f1
    go_wp2_with fail
    clear c0
    refine (wplace_any G wb row2 s2 c.entry x1 y1 (by omega) _ HW2.out).mono ?_
    rintro e w3 ⟨rfl, hw3⟩
    have hl3 := WS.place_len s2 c.entry
    generalize hq3 : s2.place c.entry = s3 at *
    have hO3 := HW2.out.wroteOb hw3 HO2.out (by decide) (by decide)
    obtain ⟨row3, hW3, hr3, hF3⟩ := Wrote.then HW2.out HR2.out HF2.out hw3
    have c0 := (hO3.cell 2).trans (show (cfArr c.name c.entry (.slice pp c.params.length kp) c.result c.depth (.slice ps c.steps.length ks) cc)[2]? = some (.slice pp c.params.length kp) from rfl)
    have HW3 := hid hW3
    have HR3 := hid hr3
    have HF3 := hid hF3
    have HO3 := hid hO3
    clear hw3 hW3 hr3 hF3 hO3 hq3 HW2 HR2 HF2 HO2
    go_wp2_with fail
    clear c0
    refine (wcount_any G wb row3 s3 c.params.length (by omega) (by omega) (by omega) _ HW3.out).mono ?_
    rintro e w4 ⟨rfl, hw4⟩
    have hl4 := WS.count_len s3 c.params.length
    generalize hq4 : s3.count c.params.length = s4 at *
    have hO4 := HW3.out.wroteOb hw4 HO3.out (by decide) (by decide)
    obtain ⟨row4, hW4, hr4, hF4⟩ := Wrote.then HW3.out HR3.out HF3.out hw4
    have c0 := (hO4.cell 2).trans (show (cfArr c.name c.entry (.slice pp c.params.length kp) c.result c.depth (.slice ps c.steps.length ks) cc)[2]? = some (.slice pp c.params.length kp) from rfl)
    have HW4 := hid hW4
    have HR4 := hid hr4
    have HF4 := hid hF4
    have HO4 := hid hO4
    clear hw4 hW4 hr4 hF4 hO4 hq4 HW3 HR3 HF3 HO3
    go_wp2_with fail
    clear c0
    go_loopw [37] (fun i wr => ∃ (k : Nat) (s5 : WS), i = .int .i64 k ∧ k ≤ c.params.length ∧ (c.params.drop k).foldl WS.param s5 = c.params.foldl WS.param s4 ∧ s5.b.length ≤ 1000020 + 10 * k ∧ Wrote G w wb none wr s5 ∧ Ob pb G wr pb 34 (cfArr c.name c.entry (.slice pp c.params.length kp) c.result c.depth (.slice ps c.steps.length ks) cc)) (fun i _ => c.params.length - (intOf i).toNat)
    case atStart => exact ⟨0, s4, rfl, by omega, rfl, by omega, ⟨row4, HW4.out, HR4.out, HF4.out⟩, HO4.out⟩
    case round =>
      obtain ⟨k, s5, rfl, hk, hrest, hl5, ⟨row5, hW5, hr5, hF5⟩, hO5⟩ := hrel
      have HREST := hid hrest
      have HO5 := hid hO5
      clear hrest hO5
      by_cases hkl : k < c.params.length
      · obtain ⟨t, ht⟩ : ∃ t, c.params[k]? = some t := ⟨_, List.getElem?_eq_getElem hkl⟩
        obtain ⟨bb, off, xs, hpp, hrx, hlx, hcx⟩ := SP.out.nth (n := 2) (fun d hd => by obtain ⟨t, _, rfl⟩ := List.mem_map.1 hd; exact t.wide) (i := k) (d := t.enc) (by simp [ht])
        subst hpp
        obtain ⟨rfl, u1, u2⟩ := reps_pm_inv hrx
        obtain ⟨p1, q1⟩ := wf_i64_bd u1
        obtain ⟨p2, q2⟩ := wf_i64_bd u2
        have e0 := hW5.com _ _ _ (hcx 0 _ rfl)
        have e1 := hW5.com _ _ _ (hcx 1 _ rfl)
        simp only [Nat.add_zero] at e0
        have hW6 := hW5.alloc (Obj.cells #[.int .i64 t.kind, .int .i64 t.size] 46)
        have hD6 := Ob.made (B := pb) hW5.com (by have := HPB.out; have := hF5.size; omega) 46 #[.int .i64 t.kind, .int .i64 t.size]
        have hO6 := HO5.out.alloc (Obj.cells #[.int .i64 t.kind, .int .i64 t.size] 46)
        have HW6 := hid hW6
        have HD6 := hid hD6
        have HO6 := hid hO6
        have HR6 := hid hr5
        have HF6 := hid (hF5.alloc (Obj.cells #[.int .i64 t.kind, .int .i64 t.size] 46))
        have HT := hid ht
        clear hW5 hr5 hF5 hW6 hD6 hO6 hrx hlx hcx u1 u2 ht HO5
        go_wp2_with fail
        clear e0 e1
        refine (wcount_any G wb row5 s5 t.kind p1 q1 (by omega) _ HW6.out).mono ?_
        rintro e w8 ⟨rfl, hw8⟩
        have hl8 := WS.count_len s5 t.kind
        have hpar : WS.param s5 t = (s5.count t.kind).count t.size := rfl
        generalize hq8 : s5.count t.kind = s8 at *
        have hO8 := HW6.out.wroteOb hw8 HO6.out (by decide) (by decide)
        have hD8 := HW6.out.wroteOb hw8 HD6.out (by decide) (by decide)
        obtain ⟨row8, hW8, hr8, hF8⟩ := Wrote.then HW6.out HR6.out HF6.out hw8
        have c1 := hD8.cell 1
        simp at c1
        have HW8 := hid hW8
        have HR8 := hid hr8
        have HF8 := hid hF8
        have HO8 := hid hO8
        have HPAR := hid hpar
        clear hw8 hW8 hr8 hF8 hO8 hD8 hq8 hpar HW6 HR6 HF6 HO6 HD6
        go_wp2_with fail
        clear c1
        refine (wcount_any G wb row8 s8 t.size p2 q2 (by omega) _ HW8.out).mono ?_
        rintro e w9 ⟨rfl, hw9⟩
        have hl9 := WS.count_len s8 t.size
        have HO9 := hid (HW8.out.wroteOb hw9 HO8.out (by decide) (by decide))
        have HX9 := hid (Wrote.then HW8.out HR8.out HF8.out hw9)
        clear hw9
        go_wp2_with fail
        refine ⟨⟨k + 1, _, by go_num, by omega, ?_, by omega, HX9.out, HO9.out⟩, by simp [intOf]; omega⟩
        rw [← HPAR.out]
        exact (foldl_drop HT.out s5).symm.trans HREST.out
      · obtain rfl : k = c.params.length := by omega
        have hs5 : s5 = c.params.foldl WS.param s4 := by have := HREST.out; rw [List.drop_length] at this; exact this
        have hf := HBODY.out
        rw [← hs5] at hf
        have HBODY := hid hf
        have HW5 := hid hW5
        have HR5 := hid hr5
        have HF5 := hid hF5
        have hO5 := HO5.out
        have c0 := (hO5.cell 3).trans (show (cfArr c.name c.entry (.slice pp c.params.length kp) c.result c.depth (.slice ps c.steps.length ks) cc)[3]? = some (.int .i64 c.result) from rfl)
        clear hs5 hf hW5 hr5 hF5 hO5
        go_wp2_with fail
        clear c0
        refine (wcount_any G wb row5 s5 c.result x2 y2 (by omega) _ HW5.out).mono ?_
        rintro e w6 ⟨rfl, hw6⟩
        have hl6 := WS.count_len s5 c.result
        generalize hq6 : s5.count c.result = s6 at *
        have hO6 := HW5.out.wroteOb hw6 HO5.out (by decide) (by decide)
        obtain ⟨row6, hW6, hr6, hF6⟩ := Wrote.then HW5.out HR5.out HF5.out hw6
        have c0 := (hO6.cell 4).trans (show (cfArr c.name c.entry (.slice pp c.params.length kp) c.result c.depth (.slice ps c.steps.length ks) cc)[4]? = some (.int .i64 c.depth) from rfl)
        have HW6 := hid hW6
        have HR6 := hid hr6
        have HF6 := hid hF6
        have HO6 := hid hO6
        clear hw6 hW6 hr6 hF6 hO6 hq6 HW5 HR5 HF5 HO5
        go_wp2_with fail
        clear c0
        refine (wplace_any G wb row6 s6 c.depth x3 y3 (by omega) _ HW6.out).mono ?_
        rintro e w8 ⟨rfl, hw8⟩
        have hl8 := WS.place_len s6 c.depth
        generalize hq8 : s6.place c.depth = s8 at *
        have hO8 := HW6.out.wroteOb hw8 HO6.out (by decide) (by decide)
        obtain ⟨row8, hW8, hr8, hF8⟩ := Wrote.then HW6.out HR6.out HF6.out hw8
        have c0 := (hO8.cell 5).trans (show (cfArr c.name c.entry (.slice pp c.params.length kp) c.result c.depth (.slice ps c.steps.length ks) cc)[5]? = some (.slice ps c.steps.length ks) from rfl)
        have HW8 := hid hW8
        have HR8 := hid hr8
        have HF8 := hid hF8
        have HO8 := hid hO8
        clear hw8 hW8 hr8 hF8 hO8 hq8 HW6 HR6 HF6 HO6
        go_wp2_with fail
        clear c0
        refine ((wstep_any G wb (SizeOf.sizeOf c.steps + 1)).2 c.steps (Nat.lt_succ_self _) 1 row8 s8 _ ps ks SS.out HW8.out hsm (by omega) (by omega) (by omega)).mono ?_
        rintro e w9 ⟨rfl, hw9⟩
        have hl9 := steps_len1 c.steps s8 hsm (by omega)
        generalize hq9 : WS.steps c.steps 1 s8 = s9 at *
        have hO9 := HW8.out.wroteOb hw9 HO8.out (by decide) (by decide)
        obtain ⟨row9, hW9, hr9, hF9⟩ := Wrote.then HW8.out HR8.out HF8.out hw9
        have hcells : ∀ j u, cc[j]? = some u → w9.cell? ⟨pb, 6 + j, none⟩ = some u := fun j u hu => (hO9.cell (6 + j)).trans (cfArr_cost _ _ _ _ _ _ _ j u hu)
        have HC9 := hid hcells
        have HW9 := hid hW9
        have HR9 := hid hr9
        have HF9 := hid hF9
        clear hw9 hW9 hr9 hF9 hO9 hq9 hcells HW8 HR8 HF8 HO8
        go_wp2_with (refine wpList_load_cells rfl 32 (.tmp 63) rfl (b := pb) (off := 6) cc rfl HC9.out _ Try.underlying32 rfl (by rw [HCL.out]; kernel_rfl) ?_)
        refine (wcost_any G wb (SizeOf.sizeOf c.cost + 1) c.cost (Nat.lt_succ_self _) 1 row9 s9 _ cc HCC.out HW9.out (by omega) (by omega) (by omega)).mono ?_
        rintro e w10 ⟨rfl, hw10⟩
        have hl10 := cost_len1 c.cost s9 hl9
        generalize hq10 : WS.cost c.cost 1 s9 = s10 at *
        obtain ⟨row10, hW10, hr10, hF10⟩ := Wrote.then HW9.out HR9.out HF9.out hw10
        have hwr : c.write = (s10.b ++ tl 4 s10.b.length, !s10.bad && decide ((s10.b ++ tl 4 s10.b.length).length ≤ 1048576)) := write_eq HBODY.out
        obtain ⟨a10, e10, ho10, c0, c1, f0, f1, hR10, hB10⟩ := hW10.cells
        have HW10 := hid hW10
        have HX10 := hid (⟨row10, hW10, hr10, hF10⟩ : Wrote G w wb none w10 s10)
        have HWR := hid hwr
        clear hw10 hW10 hr10 hF10 hq10 hwr ho10 hR10 hB10 HW9 HR9 HF9 HC9
        go_wp2_with fail
        clear c0 c1 f0 f1
        go_loopw [7, 71] (fun nv i wr => ∃ (k m : Nat) (s5 : WS), i = .int .i64 k ∧ k ≤ 4 ∧ nv = .int .i64 m ∧ m ≤ 1099511627776 ∧ s5.bad = s10.bad ∧ s5.b ++ tl (4 - k) m = s10.b ++ tl 4 s10.b.length ∧ s5.b.length ≤ 40000000 + k ∧ Wrote G w wb none wr s5) (fun _ i _ => 4 - (intOf i).toNat)
        case atStart => exact ⟨0, s10.b.length, s10, rfl, by omega, rfl, by omega, rfl, rfl, by omega, HX10.out⟩
        case round =>
          obtain ⟨k, m, s5, rfl, hk, rfl, hm, hbad, hrest, hl5, row5, hW5, hr5, hF5⟩ := hrel
          obtain ⟨a5, e5, ho5, c0, c1, f0, f1, hR5, hB5⟩ := hW5.cells
          have HREST := hid hrest
          have HBAD := hid hbad
          have HW5 := hid hW5
          have HR5 := hid hr5
          have HF5 := hid hF5
          have HRR := hid hR5
          have HBB := hid hB5
          have HOO := hid ho5
          clear hrest hbad hW5 hr5 hF5 hR5 hB5 ho5 HX10
          by_cases hk4 : k < 4
          · obtain ⟨x, hx⟩ : ∃ x : Nat, x = m % 256 := ⟨_, rfl⟩
            have HX := hid hx
            have hxw : IntKind.u8.wrap (m : Int) = (x : Int) := by simp [IntKind.wrap, IntKind.bits, IntKind.signed]; omega
            have hxi : (m : Int) % 256 = (x : Int) := by omega
            clear hx
            go_wp2_with (at_builtin; refine wpList_append_row _ rfl (.tmp 77) (.tmp 80) 22 rfl i0 _ 1 Try.underlying22 hi0 hz0 hz1 hz2 rfl (by omega) (HRR.out.alloc _) (HW5.out.com.alloc _) [byteD x] [.int .u8 x] (Src.blk (Blk.new wr 5 #[.int .u8 x]) 1) (.int (WalkArith.wf_u8 (by have := HX.out; omega)) .nil) rfl ?_ (Nat.zero_le _) ?_; (simp only [List.length_map, List.length_cons, List.length_nil]; omega); intro v11 w11 hW11 hg11 hob11; obtain ⟨va1, vc1, rfl⟩ := hW11.form; simp only [List.length_append, List.length_cons, List.length_nil, Nat.zero_add, List.length_map] at hW11 hob11 hg11; have HW11 := hid hW11; have HG11 := hid hg11; have HOB11 := hid hob11; have hB11 := (HBB.out.alloc (Obj.cells #[.int .u8 x] 5)).grown hg11 (fun e => HW5.out.ne (HOO.out.symm.trans e.symm)); have d0 := hB11.cell 0; have g0 := hB11.frozen 0; simp at d0; clear hW11 hg11 hob11 hB11)
            have hpush := wr_push HOO.out HBB.out HW5.out.com HW5.out.outWb HW5.out.ne HW5.out.out (galloc (grefl wr none) _) (xs := [x]) HW11.out HG11.out HOB11.out
            refine ⟨⟨k + 1, m / 256, ⟨s5.b ++ [x], s5.bad⟩, by go_num, by omega, by simp, by omega, HBAD.out, ?_, by simp; omega, Wrote.then HW5.out HR5.out HF5.out hpush⟩, by simp [intOf]; omega⟩
            rw [← HREST.out, show 4 - k = (4 - (k + 1)) + 1 by omega, tl, HX.out]
            simp
          · obtain rfl : k = 4 := by omega
            have hfin : s10.b ++ tl 4 s10.b.length = s5.b := by rw [← HREST.out]; simp [tl]
            have hw := HWR.out
            rw [hfin, ← HBAD.out] at hw
            have hS : St G w none G wr := ⟨Ext.refl _ _, HW5.out.com, ⟨HF5.out.os, HF5.out.tape, HF5.out.output, HF5.out.size, fun k hk _ => HF5.out.block k hk (by have := HWB.out; omega) (by simp)⟩, fun _ h => by cases h⟩
            have HWR := hid hw
            have HSS := hid hS
            have C0 := hid c0
            clear hfin hw hS
            cases hb5 : s5.bad <;> rw [hb5] at c1
            · have hw2 := HWR.out
              rw [hb5] at hw2
              have HWR := hid hw2
              have HB5 := hid hb5
              clear hb5 hw2
              by_cases hlen : (s5.b.length : Int) ≤ 1048576
              · have hd : decide ((s5.b.length : Int) ≤ 1048576) = true := decide_eq_true hlen
                go_wp2_with fail
                go_quiet (fail)
                go_wp2_with fail
                go_ret2
                exact write_end (s := s5) (ok := true) (by rw [HWR.out]; simp; omega) (HW5.out.drewN _) (by simpa using C0.out) HR5.out (HSS.out.drewN _)
              · have hd : decide ((s5.b.length : Int) ≤ 1048576) = false := decide_eq_false hlen
                go_wp2_with fail
                go_quiet (fail)
                go_wp2_with fail
                go_ret2
                exact write_end (s := s5) (ok := false) (by rw [HWR.out]; simp; omega) (HW5.out.drewN _) (by simpa using C0.out) HR5.out (HSS.out.drewN _)
            · have hw2 := HWR.out
              rw [hb5] at hw2
              have HWR := hid hw2
              have HB5 := hid hb5
              clear hb5 hw2
              go_wp2_with fail
              go_quiet (fail)
              go_wp2_with fail
              go_ret2
              exact write_end (s := s5) (ok := false) (by rw [HWR.out]; simp) (HW5.out.drewN _) (by simpa using C0.out) HR5.out (HSS.out.drewN _)
end Go.Proofs.Ytolhahlnccekcaa
