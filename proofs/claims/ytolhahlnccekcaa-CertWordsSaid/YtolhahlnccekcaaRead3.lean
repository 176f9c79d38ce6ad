/-
  Walks of the certificate's reader: steps and costs.
-/
import Derived.Test.YtolhahlnccekcaaRead2
namespace Go.Proofs.Ytolhahlnccekcaa
open Go.RowKit

def SpPost (r : Sp × RS) (G : GG) (w : World) (rb L : Nat) (e : Ending) (w' : World) : Prop :=
  ∃ G' cs, e = .returned (.agg ⟨cs⟩) ∧ Reps G' [r.1.enc] cs ∧ Rd G' w' rb L r.2 ∧ St G w (some rb) G' w'
def SpsPost (r : List Sp × RS) (G : GG) (w : World) (rb L : Nat) (e : Ending) (w' : World) : Prop :=
  ∃ G' a cap, e = .returned (.slice a r.1.length cap) ∧ SliceIs G' (r.1.map Sp.enc) a r.1.length cap ∧ Rd G' w' rb L r.2 ∧ St G w (some rb) G' w'

theorem info_Step : (Try.prog.info? 64).map (fun i => (i.zero, i.size, i.bytes)) = some (some (.agg #[.int .i64 0, .int .i64 0, .int .i64 0, .int .i64 0, .int .i64 0, .int .i64 0, .int .i64 0, .int .i64 0, .int .u32 0, .slice none 0 0, .int .i64 0, .int .u32 0, .slice none 0 0, .slice none 0 0, .slice none 0 0, .slice none 0 0, .slice none 0 0]), 17, 232) := by kernel_rfl

theorem sps_end {g : RS → Sp × RS} {r fin : List Sp × RS} {m : Int} {G0 G : GG} {w0 wr : World} {rb L k : Nat} {ts : List Sp} {s : RS} {a : Option Addr} {vc : Nat} (hr : r = fin) (hf : fin = (ts, s))
    (hG : Gath Sp.enc 64 17 g fin m G0 w0 rb L G wr k (.slice a ts.length vc) ts s) : SpsPost r G0 w0 rb L (.returned (.slice a ts.length vc)) wr := by
  subst hr hf
  obtain ⟨G', a', cap', he, hC, hE, hI, ho⟩ := hG.row.done hG.st.com
  injection he with e1 e2 e3
  subst e1 e3
  rw [← e2] at hI
  exact ⟨G', _, _, rfl, hI, hG.rd.laid hE, hG.st.laid hE hC⟩

set_option maxRecDepth 100000 in
set_option maxHeartbeats 1000000 in
theorem steps_any (rb L : Nat) (hL : L ≤ 3000) (d : Int) (g : RS → Sp × RS) (hstep : ∀ (s : RS) (G : GG) (w : World), Rd G w rb L s → St G w (some rb) G w → Calls Try.prog 23 #[.pointer (some ⟨rb, 0, none⟩), .int .i64 d] w (SpPost (g s) G w rb L))
    (s : RS) (G : GG) (w : World) (h : Rd G w rb L s) (hS : St G w (some rb) G w) :
    Calls Try.prog 14 #[.pointer (some ⟨rb, 0, none⟩), .int .i64 d] w (SpsPost (RS.stepsBy g s) G w rb L) := by
  have H := hid h
  have HS := hid hS
  have HSTEP := hid hstep
  have hlt : rb < w.heap.size := (hS.out rb rfl).2
  clear h hS hstep
  go_enter Try.func14, Try.ntmps14
  go_wp2_with fail
  refine (many_any G rb L s _ H.out HS.out).mono ?_
  rintro e w1 ⟨rfl, hR1, hS1⟩
  have hrg := s.many_range
  have hfin : RS.stepsBy g s = loop g s.many.1.toNat [] s.many.2 := rfl
  generalize hq1 : s.many = q1 at *
  obtain ⟨m, s1⟩ := q1
  obtain ⟨m0, m1⟩ := hrg
  have hlm := hR1.len
  simp only at hR1 m0 m1 hlm hfin
  obtain ⟨fin, hfe⟩ : ∃ fin, fin = loop g m.toNat [] s1 := ⟨_, rfl⟩
  have hg0 : Gath Sp.enc 64 17 g fin m G w rb L G w1 0 (.slice none 0 0) [] s1 := ⟨hS1, hR1, Row.nil _ _ _ _ _, by simp, hfe.symm⟩
  have HG0 := hid hg0
  have HFIN := hid (hfin.trans hfe.symm)
  clear hR1 hS1 hg0 hfin hfe hq1
  go_wp2_with fail
  go_loopw [5, 8] (fun v i wr => ∃ (k : Nat) (G1 : GG) (ts : List Sp) (s5 : RS), i = .int .i64 k ∧ (k : Int) ≤ m ∧ Gath Sp.enc 64 17 g fin m G w rb L G1 wr k v ts s5) (fun _ i _ => m.toNat - (intOf i).toNat)
  case atStart => exact ⟨0, G, [], s1, rfl, by omega, HG0.out⟩
  case round =>
    obtain ⟨k, G1, ts, s5, rfl, hk, hGa⟩ := hrel
    clear HG0
    obtain ⟨va, vc, rfl⟩ := hGa.form
    obtain ⟨a, cap, r0, r1, rf0, rf1, hlen⟩ := hGa.rd.cells
    have hlen2 : ts.length ≤ 3000 := by have := hGa.len; omega
    have HA := hid hGa
    clear hGa
    by_cases hkm : (k : Int) < m
    · cases hbad : s5.bad <;> rw [hbad] at r1 <;> have HBAD := hid hbad <;> clear hbad
      · obtain ⟨i0, hi0, hz0, hz1, hz2⟩ := info_parts info_Step
        go_wp2_with fail
        refine (HSTEP.out s5 G1 wr HA.out.rd HA.out.st.now).mono ?_
        rintro e w5 ⟨G2, cs, rfl, hr5, hR5, hS5⟩
        generalize hq5 : g s5 = q5 at *
        obtain ⟨t, s6⟩ := q5
        simp only at hr5 hR5
        have HQ5 := hid hq5
        have hcl : cs.length = 17 := t.wide.cells hr5
        have hW6 := (HA.out.row.call hS5 (fun g hg => by intro he; have := (HA.out.row.lt he).1; injection hg with hg; omega)).alloc (Obj.cells ⟨cs⟩ 64)
        have hC6 := hS5.com.alloc (Obj.cells ⟨cs⟩ 64)
        have hB6 : w.heap.size ≤ (w5.alloc (Obj.cells ⟨cs⟩ 64)).heap.size := by have := (HA.out.st.call hS5).size; simp; omega
        have HCL := hid hcl
        have HR5 := hid hr5
        have HRD5 := hid hR5
        have HS5 := hid hS5
        have HW6 := hid hW6
        have HC6 := hid hC6
        clear hq5 hcl hr5 hR5 hS5 hW6 hC6
        go_wp2_with (first
          | (refine wpList_buildSlice_one rfl 25 (.tmp 17) rfl 64 i0 _ 17 232 Try.underlying25 hi0 hz0 hz1 hz2 rfl (by omega) (by omega) cs rfl HCL.out ?_)
          | (at_builtin
             refine wpList_append_row _ rfl (.tmp 14) (.tmp 18) 25 rfl i0 _ 232 Try.underlying25 hi0 hz0 hz1 hz2 rfl (by omega) HW6.out HC6.out [t.enc] cs (Src.blk (Blk.new w5 64 ⟨cs⟩) 1) HR5.out HCL.out ?_ hB6 ?_
             · simp only [List.length_cons, List.length_nil, List.length_map]; omega
             intro v' w7 hW7 hg7 hob7
             have HW7 := hid hW7
             have HG7 := hid hg7
             clear hW7 hg7 hob7))
        exact ⟨⟨k + 1, G2, ts ++ [t], s6, by go_num, by omega, HA.out.more HBAD.out hkm HQ5.out (HA.out.st.call HS5.out) HRD5.out HW6.out HW7.out HG7.out⟩, by simp [intOf]; omega⟩
      · go_wp2_with fail
        go_ret
        exact sps_end HFIN.out (HA.out.bad HBAD.out) HA.out
    · go_wp2_with fail
      go_ret
      exact sps_end HFIN.out (HA.out.over (by omega)) HA.out
/-- a step's cells -/
def spArr (kind : Int) (l : List Int) (a0 a1 a2 b0 b1 b2 dv : Value) (vs : List Value) : Array Value :=
  #[.int .i64 kind, .int .i64 (l.getD 0 0), .int .i64 (l.getD 1 0), .int .i64 (l.getD 2 0), .int .i64 (l.getD 3 0), .int .i64 (l.getD 4 0), .int .i64 (l.getD 5 0), a0, a1, a2, b0, b1, b2, dv, vs.getD 0 (.slice none 0 0), vs.getD 1 (.slice none 0 0), vs.getD 2 (.slice none 0 0)]
def spZero : Array Value := spArr 0 [] (.int .i64 0) (.int .u32 0) (.slice none 0 0) (.int .i64 0) (.int .u32 0) (.slice none 0 0) (.slice none 0 0) []
theorem spArr_place (kind : Int) (l : List Int) (a0 a1 a2 b0 b1 b2 dv : Value) (vs : List Value) (x : Int) (h : l.length < 6) : (spArr kind l a0 a1 a2 b0 b1 b2 dv vs).setIfInBounds (l.length + 1) (.int .i64 x) = spArr kind (l ++ [x]) a0 a1 a2 b0 b1 b2 dv vs := by
  match l, h with
  | [], _ => rfl
  | [_], _ => rfl
  | [_, _], _ => rfl
  | [_, _, _], _ => rfl
  | [_, _, _, _], _ => rfl
  | [_, _, _, _, _], _ => rfl
theorem spArr_list (kind : Int) (l : List Int) (a0 a1 a2 b0 b1 b2 dv : Value) (vs : List Value) (x : Value) (h : vs.length < 3) : (spArr kind l a0 a1 a2 b0 b1 b2 dv vs).setIfInBounds (vs.length + 14) x = spArr kind l a0 a1 a2 b0 b1 b2 dv (vs ++ [x]) := by
  match vs, h with
  | [], _ => rfl
  | [_], _ => rfl
  | [_, _], _ => rfl
theorem spArr_size (kind : Int) (l : List Int) (a0 a1 a2 b0 b1 b2 dv : Value) (vs : List Value) : (spArr kind l a0 a1 a2 b0 b1 b2 dv vs).size = 17 := rfl
theorem spArr_some (kind : Int) (l : List Int) (a0 a1 a2 b0 b1 b2 dv : Value) (vs : List Value) (i : Nat) (h : i < 17) : ∃ v, (spArr kind l a0 a1 a2 b0 b1 b2 dv vs)[i]? = some v := ⟨_, Array.getElem?_eq_getElem (by rw [spArr_size]; exact h)⟩
theorem idx6 (tb k : Nat) (hk : k < 6) (w : World) : (Instr.index 86 (.agg #[.pointer (some ⟨tb, 1, none⟩), .pointer (some ⟨tb, 2, none⟩), .pointer (some ⟨tb, 3, none⟩), .pointer (some ⟨tb, 4, none⟩), .pointer (some ⟨tb, 5, none⟩), .pointer (some ⟨tb, 6, none⟩)]) (.int .i64 k)).run Try.prog w = .ok (.pointer (some ⟨tb, k + 1, none⟩)) w := by
  rcases (by omega : k = 0 ∨ k = 1 ∨ k = 2 ∨ k = 3 ∨ k = 4 ∨ k = 5) with h | h | h | h | h | h <;> subst h <;> rfl
theorem idx3 (tb k : Nat) (hk : k < 3) (w : World) : (Instr.index 88 (.agg #[.pointer (some ⟨tb, 14, none⟩), .pointer (some ⟨tb, 15, none⟩), .pointer (some ⟨tb, 16, none⟩)]) (.int .i64 k)).run Try.prog w = .ok (.pointer (some ⟨tb, k + 14, none⟩)) w := by
  rcases (by omega : k = 0 ∨ k = 1 ∨ k = 2) with h | h | h <;> subst h <;> rfl
theorem sp_zero_reps (G : GG) : Reps G [Sp.zero.enc] spZero.toList := by
  have hn : SliceIs G [] none 0 0 := ⟨rfl, Nat.le_refl _, by decide, [], .nil, fun h => by cases h⟩
  exact .mk_one_node <| .int (by decide) <| .int (by decide) <| .int (by decide) <| .int (by decide) <| .int (by decide) <| .int (by decide) <| .int (by decide) <|
    Reps.append (reps_tm_zero G) <| Reps.append (reps_tm_zero G) <| .mk_list hn <| .mk_list hn <| .mk_list hn <| .mk_list hn .nil

abbrev TwoS (G0 : GG) (w0 : World) (rb tb sb : Nat) := Two G0 w0 rb tb sb 64 spZero

/-- what the walk knows of the step that it fills -/
structure Fill (G0 : GG) (w0 : World) (rb L tb sb : Nat) (G : GG) (w : World) (s : RS) (cs : Array Value) : Prop where
  two : TwoS G0 w0 rb tb sb G w cs
  rd : Rd G w rb L s
theorem Fill.call {G0 G G' : GG} {w0 w w' : World} {rb L tb sb : Nat} {s s' : RS} {cs : Array Value} (h : Fill G0 w0 rb L tb sb G w s cs) (hR : Rd G' w' rb L s') (hS : St G w (some rb) G' w') : Fill G0 w0 rb L tb sb G' w' s' cs := ⟨h.two.call hS, hR⟩
theorem Fill.set_ {G0 G : GG} {w0 w : World} {rb L tb sb : Nat} {s : RS} {cs : Array Value} (h : Fill G0 w0 rb L tb sb G w s cs) (i : Nat) (u : Value) : Fill G0 w0 rb L tb sb G (w.setCell ⟨tb, i, none⟩ u) s (cs.setIfInBounds i u) :=
  ⟨h.two.set_ i u, h.rd.far h.two.ne1 i u⟩

theorem Fill.put {G0 G : GG} {w0 w w' : World} {rb L tb sb : Nat} {s : RS} {cs cs' : Array Value} (h : Fill G0 w0 rb L tb sb G w s cs) (hb : Blk w' tb 64 cs') (hg : w.grownBy w' (some tb)) : Fill G0 w0 rb L tb sb G w' s cs' :=
  ⟨h.two.put hb hg, h.rd.step hg (by simpa using fun e => h.two.ne1 e.symm)⟩
theorem info_Div : (Try.prog.info? 81).map (fun i => (i.zero, i.size, i.bytes)) = some (some (.agg #[.int .i64 0, .int .i64 0, .int .u32 0, .slice none 0 0, .int .i64 0, .int .u32 0, .slice none 0 0]), 7, 88) := by kernel_rfl

def listDat (l : List Sp) : Dat := .list (l.map Sp.enc)
theorem sp_reps {G : GG} {kind : Int} {l : List Int} {a b : Tm} {dv : List Dv} {hs : List (List Sp)} {a0 a1 a2 b0 b1 b2 v : Value} {vs : List Value} (h0 : 0 ≤ kind) (h1 : kind ≤ 2147483647) (hl : l.length = 6) (hwf : ∀ x ∈ l, (Lit.int .i64 x).wf = true)
    (hr : Reps G ([a.enc, b.enc] ++ [.list (dv.map Dv.enc)]) ([a0, a1, a2] ++ [b0, b1, b2] ++ [v])) (hh : hs.length = 3) (hv : Reps G (hs.map listDat) vs) :
    Reps G [(Sp.mk kind (l.getD 0 0) (l.getD 1 0) (l.getD 2 0) (l.getD 3 0) (l.getD 4 0) (l.getD 5 0) a b dv (hs.getD 0 []) (hs.getD 1 []) (hs.getD 2 [])).enc] (spArr kind l a0 a1 a2 b0 b1 b2 v vs).toList := by
  match l, hl with
  | [x0, x1, x2, x3, x4, x5], _ =>
    match hs, hh with
    | [p, q, r], _ =>
      obtain ⟨u0, k0, t0, rfl, s0, hv⟩ := Reps.inv_list hv
      obtain ⟨u1, k1, t1, rfl, s1, hv⟩ := Reps.inv_list hv
      obtain ⟨u2, k2, t2, rfl, s2, hv⟩ := Reps.inv_list hv
      obtain rfl := hv.inv_nil
      simp only [List.mem_cons, List.not_mem_nil, or_false, forall_eq_or_imp, forall_eq] at hwf
      obtain ⟨w0, w1, w2, w3, w4, w5⟩ := hwf
      rw [show Sp.enc (Sp.mk kind _ _ _ _ _ _ a b dv _ _ _) = .node ([.int .i64 kind, .int .i64 x0, .int .i64 x1, .int .i64 x2, .int .i64 x3, .int .i64 x4, .int .i64 x5] ++ (([a.enc, b.enc] ++ [.list (dv.map Dv.enc)]) ++ [.list (p.map Sp.enc), .list (q.map Sp.enc), .list (r.map Sp.enc)])) by simp [Sp.enc, Sp.encs_eq]]
      refine .mk_one_node (Reps.append (cs := [.int .i64 kind, .int .i64 x0, .int .i64 x1, .int .i64 x2, .int .i64 x3, .int .i64 x4, .int .i64 x5]) (xs := ([a0, a1, a2] ++ [b0, b1, b2] ++ [v]) ++ [_, _, _]) (.int (WalkArith.wf_i64 (by omega)) <| .int w0 <| .int w1 <| .int w2 <| .int w3 <| .int w4 <| .int w5 .nil) (Reps.append hr (.mk_list s0 <| .mk_list s1 <| .mk_list s2 .nil)))

theorem dv_zero_cells (p : Int) : (Value.agg #[.int .i64 p, .int .i64 0, .int .u32 0, .slice none 0 0, .int .i64 0, .int .u32 0, .slice none 0 0]).cells.size = 7 := rfl

theorem reps_one {α : Type} {g : RS → α × RS} {n : Nat} {acc : List α} {s s' : RS} {t : α} (h : g s = (t, s')) : reps g (n + 1) acc s = reps g n (acc ++ [t]) s' := by simp [reps, h]
theorem reps_len {α : Type} {g : RS → α × RS} : ∀ (n : Nat) (acc : List α) (s : RS), (reps g n acc s).1.length = acc.length + n
  | 0, acc, s => rfl
  | n + 1, acc, s => by rw [reps, reps_len n]; simp; omega

theorem sp_zero_end {r : Sp × RS} {s : RS} {G0 G : GG} {w0 w w' : World} {rb L tb sb : Nat} {z : Array Value} (hr : r = (.zero, s)) (hT : TwoS G0 w0 rb tb sb G w spZero) (hR : Rd G w rb L s) (hb : Blk w' sb 64 z) (hz : z = spZero) (hg : w.grownBy w' (some sb)) :
    SpPost r G0 w0 rb L (.returned (.agg z)) w' := by
  subst hr hz
  exact ⟨G, spZero.toList, rfl, sp_zero_reps G, hR.step hg (by simpa using fun e => hT.ne2 e.symm), hT.out hb hg⟩

set_option maxRecDepth 100000 in
set_option maxHeartbeats 2000000 in
theorem step_any (rb L : Nat) (hL : L ≤ 3000) : ∀ (f : Nat) (d : Int) (s : RS) (G : GG) (w : World), Rd G w rb L s → St G w (some rb) G w → 1 ≤ d → d ≤ 2049 → 2050 ≤ d + f →
    Calls Try.prog 23 #[.pointer (some ⟨rb, 0, none⟩), .int .i64 d] w (SpPost (RS.step f d s) G w rb L) := by
  intro f
  induction f with
  | zero => intro d s G w _ _ _ _; omega
  | succ f ih =>
    intro d s G w h hS hd1 hd2 hf
    have IH := hid ih
    clear ih
    have hlt : rb < w.heap.size := (hS.out rb rfl).2
    have h1 := (h.alloc (Obj.cells spZero 64)).alloc (Obj.cells spZero 64)
    have hT1 : TwoS G w rb (w.heap.size + 1) w.heap.size G ((w.alloc (Obj.cells spZero 64)).alloc (Obj.cells spZero 64)) spZero :=
      ⟨(hS.alloc _).alloc _, by simpa using Ob.made (B := w.heap.size) (hS.alloc (Obj.cells spZero 64)).com (by simp) 64 spZero, (Ob.made (B := w.heap.size) hS.com (Nat.le_refl _) 64 spZero).alloc _, by omega⟩
    have H1 := hid h1
    have HT1 := hid hT1
    clear h hS h1 hT1
    go_enter Try.func23, Try.ntmps23
    go_wp2_with fail
    refine (deep_any G rb L s _ H1.out HT1.out.st.now d).mono ?_
    rintro e w1 ⟨rfl, hr2, hS2⟩
    generalize hq1 : s.deep d = q1 at *
    obtain ⟨b, s1⟩ := q1
    simp only at hr2
    have hT2 := HT1.out.call hS2
    obtain ⟨tb, htb⟩ : ∃ tb, tb = w.heap.size + 1 := ⟨_, rfl⟩
    obtain ⟨sb, hsb⟩ : ∃ sb, sb = w.heap.size := ⟨_, rfl⟩
    rw [← htb, ← hsb] at hT2
    simp only [← htb]
    simp only [← hsb]
    have HT2 := hid hT2
    have HR2 := hid hr2
    have HQ1 := hid hq1
    clear hr2 hS2 hT2 hq1 htb hsb HT1 H1
    cases b with
    | true =>
      go_wp2_with (first
        | (refine wpList_load_row rfl 64 _ rfl tb rfl 64 spZero (0, 0) _ HT2.out.t.blk Try.underlying64 rfl (by kernel_rfl) ?_)
        | (refine wpList_store_part rfl 64 _ _ rfl spZero spZero.toList rfl HT2.out.o.blk rfl (by kernel_rfl) (sp_zero_reps G).one (by decide) (by rfl) ?_
           intro w2 hb2 hg2))
      exact ret_row _ rfl rfl hb2 Try.underlying64 rfl (by kernel_rfl) rfl (sp_zero_end (RS.step_1 HQ1.out) HT2.out HR2.out hb2 rfl hg2)
    | false =>
      have hd3 : d ≤ 2048 := RS.deep_false HQ1.out
      go_wp2_with fail
      refine (count_any G rb L s1 _ HR2.out HT2.out.st.now).mono ?_
      rintro e w2 ⟨rfl, hR3, hS3⟩
      have hrg := s1.count_range
      generalize hq2 : s1.count = q2 at *
      obtain ⟨kind, s2⟩ := q2
      obtain ⟨k0, k1⟩ := hrg
      simp only at hR3 k0 k1
      have hF3 : Fill G w rb L tb sb G w2 s2 spZero := ⟨HT2.out.call hS3, hR3⟩
      have c0 := hF3.two.t.cell 0
      have f0 := hF3.two.t.frozen 0
      simp [spZero, spArr] at c0
      have HF4 := hid (hF3.set_ 0 (.int .i64 kind))
      have HQ2 := hid hq2
      clear hR3 hS3 hF3 hq2 HT2 HR2
      go_wp2_with fail
      obtain ⟨fin1, hfin1⟩ : ∃ fin, reps RS.place 6 [] s2 = fin := ⟨_, rfl⟩
      have HFIN1 := hid hfin1
      clear hfin1 c0 f0
      go_loopw [25] (fun i wr => ∃ (l : List Int) (s5 : RS), i = .int .i64 l.length ∧ l.length ≤ 6 ∧ (∀ x ∈ l, (Lit.int .i64 x).wf = true) ∧ reps RS.place (6 - l.length) l s5 = fin1 ∧
          Fill G w rb L tb sb G wr s5 (spArr kind l (.int .i64 0) (.int .u32 0) (.slice none 0 0) (.int .i64 0) (.int .u32 0) (.slice none 0 0) (.slice none 0 0) [])) (fun i _ => 6 - (intOf i).toNat)
      case atStart => exact ⟨[], s2, rfl, by simp, by simp, HFIN1.out, HF4.out⟩
      case round =>
        obtain ⟨l, s5, rfl, hl6, hwf, hrp, hF⟩ := hrel
        have HF := hid hF
        have HWF := hid hwf
        have HRP := hid hrp
        clear hF hwf hrp
        by_cases hk6 : l.length < 6
        · have hidx := idx6 tb l.length hk6
          go_wp2_with fail
          refine (place_any G rb L s5 _ HF.out.rd HF.out.two.st.now).mono ?_
          rintro e w5 ⟨rfl, hR5, hS5⟩
          have hrg := s5.place_range
          generalize hq5 : s5.place = q5 at *
          obtain ⟨x, s6⟩ := q5
          obtain ⟨x0, x1⟩ := hrg
          simp only at hR5 x0 x1
          have hF5 := HF.out.call hR5 hS5
          obtain ⟨y, hy⟩ := spArr_some kind l (.int .i64 0) (.int .u32 0) (.slice none 0 0) (.int .i64 0) (.int .u32 0) (.slice none 0 0) (.slice none 0 0) [] (l.length + 1) (by omega)
          have c5 := (hF5.two.t.cell (l.length + 1)).trans hy
          have f5 := hF5.two.t.frozen (l.length + 1)
          have HF5 := hid hF5
          have HQ5 := hid hq5
          clear hR5 hS5 hF5 hy hq5
          go_wp2_with fail
          refine ⟨⟨l ++ [x], s6, by rw [List.length_append]; simp, by simp; omega, ?_, ?_, ?_⟩, by simp [intOf]; omega⟩
          · intro z hz
            rcases List.mem_append.1 hz with hz | hz
            · exact HWF.out z hz
            · rw [List.mem_singleton.1 hz]; exact WalkArith.wf_i64 (by omega)
          · rw [← HRP.out, show 6 - l.length = (6 - (l ++ [x]).length) + 1 by simp; omega, reps_one HQ5.out]
          · have := HF5.out.set_ (l.length + 1) (.int .i64 x)
            rw [spArr_place _ _ _ _ _ _ _ _ _ _ _ hk6] at this
            exact this
        · have hl : l.length = 6 := by omega
          have HL := hid hl
          have hfin2 : fin1 = (l, s5) := by rw [← HRP.out, hl]; rfl
          have HFIN2 := hid hfin2
          clear hl hfin2
          have HFIN1' := hid (HFIN1.out.trans HFIN2.out)
          go_wp2_with fail
          refine (term_any rb L hL 2049 1 s5 _ _ HF.out.rd HF.out.two.st.now (by omega) (by omega) (by omega)).mono ?_
          rintro e w6 ⟨G6, a0, a1, a2, rfl, hra, hR6, hS6⟩
          have hqa : s5.term1 = RS.term 2049 1 s5 := rfl
          generalize hq6 : RS.term 2049 1 s5 = q6 at *
          obtain ⟨ta, s6⟩ := q6
          simp only at hra hR6
          have HF6 := hid (HF.out.call hR6 hS6)
          have HRA := hid hra
          have HO1 := hid hra.one
          have HQ6 := hid hqa
          clear hra hR6 hS6 hqa hq6
          go_wp2_with fail
          refine (term_any rb L hL 2049 1 s6 _ _ HF6.out.rd HF6.out.two.st.now (by omega) (by omega) (by omega)).mono ?_
          rintro e w7 ⟨G7, b0, b1, b2, rfl, hrb, hR7, hS7⟩
          have hqb : s6.term1 = RS.term 2049 1 s6 := rfl
          generalize hq7 : RS.term 2049 1 s6 = q7 at *
          obtain ⟨tb', s7⟩ := q7
          simp only at hrb hR7
          have hab : Reps G7 [ta.enc, tb'.enc] ([a0, a1, a2] ++ [b0, b1, b2]) := Reps.append (HRA.out.ext hS7.ext) hrb
          have hF7 := HF6.out.call hR7 hS7
          have HO2 := hid hrb.one
          have HAB := hid hab
          have HF7 := hid hF7
          have HQ7 := hid hqb
          clear hrb hR7 hS7 hqb hq7 hab hF7
          go_wp2_with (first
            | (refine wpList_store_part rfl 29 (.tmp 37) (.tmp 34) rfl (off := 7) (spArr kind l a0 a1 a2 (.int .i64 0) (.int .u32 0) (.slice none 0 0) (.slice none 0 0) []) [a0, a1, a2] rfl HF7.out.two.t.blk rfl (by kernel_rfl) HO1.out (by simp [spArr]) (by rfl) ?_
               intro w8 hb8 hg8
               have HB8 := hid hb8
               have HG8 := hid hg8
               clear hb8 hg8)
            | (refine wpList_store_part rfl 29 (.tmp 38) (.tmp 36) rfl (off := 10) (spArr kind l a0 a1 a2 b0 b1 b2 (.slice none 0 0) []) [b0, b1, b2] rfl HB8.out rfl (by kernel_rfl) HO2.out (by simp [spArr]) (by rfl) ?_
               intro w9 hb9 hg9
               have HB9 := hid hb9
               have HG9 := hid hg9
               clear hb9 hg9))
          have hF9 := (HF7.out.put HB8.out HG8.out).put HB9.out HG9.out
          have HF9 := hid hF9
          clear hF9 HB8 HG8 HB9 HG9 HF7 HF6 HRA HF
          refine (many_any G7 rb L s7 _ HF9.out.rd HF9.out.two.st.now).mono ?_
          rintro e w10 ⟨rfl, hR10, hS10⟩
          have hrg := s7.many_range
          generalize hq10 : s7.many = q10 at *
          obtain ⟨m, s8⟩ := q10
          obtain ⟨m0, m1⟩ := hrg
          have hlm := hR10.len
          simp only at hR10 m0 m1 hlm
          obtain ⟨fin2, hfin2⟩ : ∃ fin, fin = loop RS.div m.toNat [] s8 := ⟨_, rfl⟩
          have hF10 := HF9.out.call hR10 hS10
          have hg0 : Gath Dv.enc 81 7 RS.div fin2 m G w rb L G7 w10 0 (.slice none 0 0) [] s8 := ⟨hF10.two.st, hR10, Row.nil _ _ _ _ _, by simp, hfin2.symm⟩
          have HF10 := hid hF10
          have HG0 := hid hg0
          have HFIN2 := hid hfin2
          have HQ10 := hid hq10
          clear hR10 hS10 hF10 hg0 hfin2 hq10 HF9
          go_wp2_with fail
          go_loopw [41] (fun i wr => ∃ (k : Nat) (G1 : GG) (ts : List Dv) (v : Value) (s9 : RS), i = .int .i64 k ∧ (k : Int) ≤ m ∧ Gath Dv.enc 81 7 RS.div fin2 m G w rb L G1 wr k v ts s9 ∧
              TwoS G w rb tb sb G1 wr (spArr kind l a0 a1 a2 b0 b1 b2 v []) ∧ Reps G1 [ta.enc, tb'.enc] ([a0, a1, a2] ++ [b0, b1, b2])) (fun i _ => m.toNat - (intOf i).toNat)
          case atStart => exact ⟨0, G7, [], .slice none 0 0, s8, rfl, by omega, HG0.out, HF10.out.two, HAB.out⟩
          case round =>
            obtain ⟨k, G1, ts, v, s9, rfl, hk, hGa, hT, hAB⟩ := hrel
            clear HG0 HF10 HAB
            obtain ⟨va, vc, rfl⟩ := hGa.form
            obtain ⟨a, cap, r0, r1, rf0, rf1, hlen⟩ := hGa.rd.cells
            have hlen2 : ts.length ≤ 3000 := by have := hGa.len; omega
            have HA := hid hGa
            have HT := hid hT
            have HAB := hid hAB
            clear hGa hT hAB
            rcases (by cases s9.bad <;> simp <;> omega : ((k : Int) < m ∧ s9.bad = false) ∨ (((k : Int) < m ∧ s9.bad = true) ∨ m ≤ k)) with ⟨hkm, hbad⟩ | hx
            · rw [hbad] at r1
              have HBAD := hid hbad
              clear hbad
              obtain ⟨i0, hi0, hz0, hz1, hz2⟩ := info_parts info_Div
              go_wp2_with fail
              refine (place_any G1 rb L s9 _ HA.out.rd HA.out.st.now).mono ?_
              rintro e w5 ⟨rfl, hR5, hS5⟩
              have hrg := s9.place_range
              generalize hq5 : s9.place = q5 at *
              obtain ⟨x, s10⟩ := q5
              obtain ⟨x0, x1⟩ := hrg
              simp only at hR5 x0 x1
              have hlt5 : ∀ g, (Value.slice va ts.length vc).ownBlock = some g → g < w5.heap.size := fun g e => ((HA.out.row.call hS5 (fun g hg he => by have := (HA.out.row.lt he).1; injection hg with hg; omega)).lt e).2
              have HLT5 := hid hlt5
              clear hlt5
              have hvb : ∀ g, some rb = some g → (Value.slice va ts.length vc).ownBlock ≠ some g := fun g hg he => by have := (HA.out.row.lt he).1; injection hg with hg; omega
              have hT5 := (HT.out.call hS5).alloc (Obj.cells #[.int .i64 x, .int .i64 0, .int .u32 0, .slice none 0 0, .int .i64 0, .int .u32 0, .slice none 0 0] 81)
              have hR5' := hR5.alloc (Obj.cells #[.int .i64 x, .int .i64 0, .int .u32 0, .slice none 0 0, .int .i64 0, .int .u32 0, .slice none 0 0] 81)
              have hW5 := (HA.out.row.call hS5 hvb).alloc (Obj.cells #[.int .i64 x, .int .i64 0, .int .u32 0, .slice none 0 0, .int .i64 0, .int .u32 0, .slice none 0 0] 81)
              have hD5 := Ob.made (B := w.heap.size) hS5.com (by have := hT5.st.size; simp at this; have := (HT.out.call hS5).st.size; omega) 81 #[.int .i64 x, .int .i64 0, .int .u32 0, .slice none 0 0, .int .i64 0, .int .u32 0, .slice none 0 0]
              have HVB := hid hvb
              have HT5 := hid hT5
              have HR5 := hid hR5'
              have HW5 := hid hW5
              have HD5 := hid hD5
              have HQ5 := hid hq5
              clear hvb hT5 hR5' hR5 hW5 hD5 hq5 hS5
              go_wp2_with fail
              refine (term_any rb L hL 2049 1 s10 _ _ HR5.out HT5.out.st.now (by omega) (by omega) (by omega)).mono ?_
              rintro e w6 ⟨G6, p0, p1, p2, rfl, hrp, hR6, hS6⟩
              have hqa : s10.term1 = RS.term 2049 1 s10 := rfl
              generalize hq6 : RS.term 2049 1 s10 = q6 at *
              obtain ⟨tp, s11⟩ := q6
              simp only at hrp hR6
              obtain ⟨db, hdb⟩ : ∃ db, db = w5.heap.size := ⟨_, rfl⟩
              have hD6 := HD5.out.call hS6 (by have := HD5.out.new; simp; omega)
              rw [← hdb] at hD6
              simp only [← hdb]
              have HAB6 := hid (HAB.out.ext hS6.ext)
              have HT6 := hid (HT5.out.call hS6)
              have HW6 := hid (HW5.out.call hS6 HVB.out)
              have HVD6 := hid (show (Value.slice va ts.length vc).ownBlock ≠ some db from fun e => by have := HLT5.out _ e; omega)
              have HD6 := hid hD6
              have HR6 := hid hR6
              have HRP := hid hrp
              have HO1 := hid hrp.one
              have HQ6 := hid hqa
              clear hrp hR6 hS6 hqa hq6 hD6 hdb HD5 HW5 HT5 HR5
              go_wp2_with fail
              refine (term_any rb L hL 2049 1 s11 _ _ HR6.out HT6.out.st.now (by omega) (by omega) (by omega)).mono ?_
              rintro e w7 ⟨G7, q0, q1, q2, rfl, hrq, hR7, hS7⟩
              have hqb : s11.term1 = RS.term 2049 1 s11 := rfl
              generalize hq7 : RS.term 2049 1 s11 = q7 at *
              obtain ⟨tq, s12⟩ := q7
              simp only at hrq hR7
              have HAB7 := hid (HAB6.out.ext hS7.ext)
              have HT7 := hid (HT6.out.call hS7)
              have HW7 := hid (HW6.out.call hS7 HVB.out)
              have HD7 := hid (HD6.out.call hS7 (by have := HD6.out.new; simp; omega))
              have HR7 := hid hR7
              have HRD := hid (Reps.mk_one_node (.int (WalkArith.wf_i64 (show (-9223372036854775808 : Int) ≤ x ∧ x ≤ 9223372036854775807 by omega)) (Reps.append (HRP.out.ext hS7.ext) hrq)) : Reps G7 [(Dv.mk x tp tq).enc] ([.int .i64 x, p0, p1, p2, q0, q1, q2]))
              have HO2 := hid hrq.one
              have HQ7 := hid hqb
              have HVD := hid (HVD6.out)
              clear hrq hR7 hS7 hqb hq7 HD6 HW6 HT6 HR6 HRP
              go_wp2_with (first
                | (refine wpList_store_part rfl 29 (.tmp 54) (.tmp 51) rfl (off := 1) #[.int .i64 x, p0, p1, p2, .int .i64 0, .int .u32 0, .slice none 0 0] [p0, p1, p2] rfl HD7.out.blk rfl (by kernel_rfl) HO1.out (by simp) (by rfl) ?_
                   intro w8 hb8 hg8
                   have HB8 := hid hb8
                   have HG8 := hid hg8
                   clear hb8 hg8)
                | (refine wpList_store_part rfl 29 (.tmp 55) (.tmp 53) rfl (off := 4) #[.int .i64 x, p0, p1, p2, q0, q1, q2] [q0, q1, q2] rfl HB8.out rfl (by kernel_rfl) HO2.out (by simp) (by rfl) ?_
                   intro w9 hb9 hg9
                   have hD8 : Ob w.heap.size G7 w8 db 81 _ := ⟨HD7.out.new, HB8.out, HD7.out.out⟩
                   have hT9 := (HT7.out.other HD7.out (by decide) HG8.out).other hD8 (by decide) hg9
                   have hne : rb ≠ db := by have := HD7.out.new; omega
                   have hvd : (Value.slice va ts.length vc).ownBlock ≠ some db := HVD.out
                   have hR9 := (HR7.out.step HG8.out (by simpa using fun e => hne e.symm)).step hg9 (by simpa using fun e => hne e.symm)
                   have hW9 := (HW7.out.step HG8.out (fun g e => by injection e with e; subst e; exact hvd)).step hg9 (fun g e => by injection e with e; subst e; exact hvd)
                   have c13 := hT9.t.cell 13
                   have f13 := hT9.t.frozen 13
                   have HR9 := hid (hR9.alloc (Obj.cells #[.int .i64 x, p0, p1, p2, q0, q1, q2] 81))
                   have HW9 := hid (hW9.alloc (Obj.cells #[.int .i64 x, p0, p1, p2, q0, q1, q2] 81))
                   have HC9 := hid (hT9.st.com.alloc (Obj.cells #[.int .i64 x, p0, p1, p2, q0, q1, q2] 81))
                   have hB9 : w.heap.size ≤ (w9.alloc (Obj.cells #[.int .i64 x, p0, p1, p2, q0, q1, q2] 81)).heap.size := by have := hT9.st.size; simp; omega
                   have HB9 := hid hb9
                   have HG9 := hid hg9
                   have HT9 := hid (hT9.alloc (Obj.cells #[.int .i64 x, p0, p1, p2, q0, q1, q2] 81))
                   simp [spArr] at c13
                   clear hb9 hg9 hT9 hR9 hW9 hne hvd hD8)
                | (at_builtin
                   refine wpList_append_row _ rfl (.tmp 57) (.tmp 59) 62 rfl i0 _ 88 Try.underlying62 hi0 hz0 hz1 hz2 rfl (by omega) HW9.out HC9.out [(Dv.mk x tp tq).enc] [.int .i64 x, p0, p1, p2, q0, q1, q2] (Src.blk (Blk.new w9 81 #[.int .i64 x, p0, p1, p2, q0, q1, q2]) 1) HRD.out rfl ?_ hB9 ?_
                   · simp only [List.length_cons, List.length_nil, List.length_map]; omega
                   intro v' w11 hW11 hg11 hob11
                   obtain ⟨va', vc', rfl⟩ := hW11.form
                   have hv1 : (Value.slice va ts.length vc).ownBlock ≠ some tb := HW9.out.ne_ob HT9.out.t.blk (by decide)
                   have hv2 : (Value.slice va ts.length vc).ownBlock ≠ some sb := HW9.out.ne_ob HT9.out.o.blk (by decide)
                   have hT11 := HT9.out.step hg11 (fun g e => ⟨(HW9.out.lt e).1, HW9.out.out g e⟩) hv1 hv2
                   have hR11 := HR9.out.step hg11 (fun e => HVB.out rb rfl e)
                   have d13 := hT11.t.cell 13
                   have g13 := hT11.t.frozen 13
                   simp [spArr] at d13
                   simp only [List.length_append, List.length_cons, List.length_nil, Nat.zero_add, List.length_map] at hW11
                   have HT11 := hid hT11
                   have HR11 := hid hR11
                   have HW11 := hid hW11
                   clear hW11 hg11 hob11 hv1 hv2 hT11 hR11)
                | (refine wpList_load_row rfl 81 _ rfl db rfl 81 #[.int .i64 x, p0, p1, p2, q0, q1, q2] (0, 0) _ HB9.out Try.underlying81 rfl (by kernel_rfl) ?_)
                | (refine wpList_buildSlice_one rfl 62 (.tmp 58) rfl 81 i0 _ 7 88 Try.underlying62 hi0 hz0 hz1 hz2 rfl (by omega) (by omega) [.int .i64 x, p0, p1, p2, q0, q1, q2] rfl rfl ?_))
              have hv' : (Value.slice va' (ts.length + 1) vc').ownBlock ≠ some tb := HW11.out.ne_ob HT11.out.t.blk (by decide)
              have hdiv : RS.div s9 = (Dv.mk x tp tq, s12) := by simp only [RS.div, HQ5.out, HQ6.out, HQ7.out]
              exact ⟨⟨k + 1, G7, ts ++ [Dv.mk x tp tq], .slice va' (ts.length + 1) vc', s12, by go_num, by omega, ⟨HT11.out.st.set_own HT11.out.t.new HT11.out.t.out 13 _, HR11.out.far HT11.out.ne1 13 _,
                by rw [List.map_append]; exact HW11.out.set_ hv' 13 _, by have := HA.out.len; simp; omega, HA.out.one HBAD.out hkm hdiv⟩, HT11.out.set_ 13 _, HAB7.out⟩, by simp [intOf]; omega⟩
            · have hf2 : fin2 = (ts, s9) := by
                rcases hx with ⟨_, hb⟩ | hm
                · exact HA.out.bad hb
                · exact HA.out.over hm
              have HF2 := hid hf2
              clear hf2
              obtain ⟨G2, a', cap', he, hC, hE, hI, ho⟩ := HA.out.row.done HA.out.st.com
              injection he with e1 e2 e3
              subst e1 e3
              rw [← e2] at hI
              have hv1 : (Value.slice va ts.length vc).ownBlock ≠ some tb := HA.out.row.ne_ob HT.out.t.blk (by decide)
              have hv2 : (Value.slice va ts.length vc).ownBlock ≠ some sb := HA.out.row.ne_ob HT.out.o.blk (by decide)
              have hT2 := HT.out.laid hE hC (ho tb HT.out.t.out hv1) (ho sb HT.out.o.out hv2)
              have habd : Reps G2 ([ta.enc, tb'.enc] ++ [.list (ts.map Dv.enc)]) ([a0, a1, a2] ++ [b0, b1, b2] ++ [.slice va ts.length vc]) := Reps.append (HAB.out.ext hE) (.mk_list hI .nil)
              obtain ⟨fin3, hfin3⟩ : ∃ fin, reps (RS.stepsBy (RS.step f (d + 1))) 3 [] s9 = fin := ⟨_, rfl⟩
              have HF3 := hid (⟨hT2, HA.out.rd.laid hE⟩ : Fill G w rb L tb sb G2 wr s9 (spArr kind l a0 a1 a2 b0 b1 b2 (.slice va ts.length vc) []))
              have HABD := hid habd
              have HFIN3 := hid hfin3
              clear hv1 hv2 hT2 habd hfin3 hI ho hC hE e2
              rcases hx with ⟨hkm, hbad⟩ | hkm
              all_goals
                try (rw [hbad] at r1; clear hbad)
                go_wp2_with fail
                go_loopw [67] (fun i wr => ∃ (hs : List (List Sp)) (vs : List Value) (G1 : GG) (s5 : RS), i = .int .i64 vs.length ∧ vs.length ≤ 3 ∧ hs.length = vs.length ∧ reps (RS.stepsBy (RS.step f (d + 1))) (3 - vs.length) hs s5 = fin3 ∧
                    Reps G1 ([ta.enc, tb'.enc] ++ [.list (ts.map Dv.enc)]) ([a0, a1, a2] ++ [b0, b1, b2] ++ [.slice va ts.length vc]) ∧ Reps G1 (hs.map listDat) vs ∧
                    Fill G w rb L tb sb G1 wr s5 (spArr kind l a0 a1 a2 b0 b1 b2 (.slice va ts.length vc) vs)) (fun i _ => 3 - (intOf i).toNat)
                case atStart => exact ⟨[], [], G2, s9, rfl, by simp, rfl, HFIN3.out, HABD.out, .nil, HF3.out⟩
                case round =>
                  obtain ⟨hs, vs, G3, s10, rfl, hv3, hlv, hrp, habd, hrv, hF⟩ := hrel
                  have HRP := hid hrp
                  have HABD := hid habd
                  have HRV := hid hrv
                  have HF := hid hF
                  have HLV := hid hlv
                  clear hrp habd hrv hF hlv
                  by_cases hk3 : vs.length < 3
                  · have hidx := idx3 tb vs.length hk3
                    have hwrap : IntKind.i64.wrap (d + 1) = d + 1 := IntWalk.i64_in _ (by omega)
                    go_wp2_with fail
                    refine (steps_any rb L hL (d + 1) (RS.step f (d + 1)) (fun s G w h hS => IH.out (d + 1) s G w h hS (by omega) (by omega) (by omega)) s10 _ _ HF.out.rd HF.out.two.st.now).mono ?_
                    rintro e w12 ⟨G4, ax, cx, rfl, hsl, hR12, hS12⟩
                    generalize hq12 : RS.stepsBy (RS.step f (d + 1)) s10 = q12 at *
                    obtain ⟨lx, s11⟩ := q12
                    simp only at hsl hR12
                    have hF12 := HF.out.call hR12 hS12
                    obtain ⟨y, hy⟩ := spArr_some kind l a0 a1 a2 b0 b1 b2 (.slice va ts.length vc) vs (vs.length + 14) (by omega)
                    have c5 := (hF12.two.t.cell (vs.length + 14)).trans hy
                    have f5 := hF12.two.t.frozen (vs.length + 14)
                    have HF12 := hid hF12
                    have HQ12 := hid hq12
                    have HABD4 := hid (HABD.out.ext hS12.ext)
                    have hnew : Reps G4 ((hs ++ [lx]).map listDat) (vs ++ [.slice ax lx.length cx]) := by rw [List.map_append]; exact Reps.append (HRV.out.ext hS12.ext) (.mk_list hsl .nil)
                    have HNEW := hid hnew
                    clear hsl hR12 hS12 hF12 hy hq12 hnew
                    go_wp2_with fail
                    refine ⟨⟨hs ++ [lx], vs ++ [.slice ax lx.length cx], G4, s11, by rw [List.length_append]; simp, by simp; omega, by have := HLV.out; simp; omega, ?_, HABD4.out, HNEW.out, ?_⟩, by simp [intOf]; omega⟩
                    · rw [← HRP.out, show 3 - vs.length = (3 - (vs ++ [Value.slice ax lx.length cx]).length) + 1 by simp; omega, reps_one HQ12.out]
                    · have := HF12.out.set_ (vs.length + 14) (.slice ax lx.length cx)
                      rw [spArr_list _ _ _ _ _ _ _ _ _ _ _ hk3] at this
                      exact this
                  · have hv : vs.length = 3 := by omega
                    have hfin4 : fin3 = (hs, s10) := by rw [← HRP.out, hv]; rfl
                    have hsr := sp_reps k0 k1 HL.out HWF.out HABD.out (HLV.out.trans hv) HRV.out
                    have HSR := hid hsr
                    have HO := hid hsr.one
                    have hstep := RS.step_2 HQ1.out HQ2.out HFIN1'.out HQ6.out HQ7.out HQ10.out (HFIN2.out.symm.trans HF2.out) (HFIN3.out.trans hfin4)
                    have HSTEP := hid hstep
                    clear hv hfin4 hsr hstep
                    go_wp2_with (first
                      | (refine wpList_load_row rfl 64 _ rfl tb rfl 64 _ (0, 0) _ HF.out.two.t.blk Try.underlying64 rfl (by kernel_rfl) ?_)
                      | (refine wpList_store_part rfl 64 _ _ rfl (off := 0) (spArr kind l a0 a1 a2 b0 b1 b2 (.slice va ts.length vc) vs) (spArr kind l a0 a1 a2 b0 b1 b2 (.slice va ts.length vc) vs).toList rfl HF.out.two.o.blk rfl (by kernel_rfl) HO.out (by simp [spArr, spZero]) (by rfl) ?_
                         intro w13 hb13 hg13
                         have HB13 := hid hb13
                         have HG13 := hid hg13
                         clear hb13 hg13))
                    refine ret_row _ rfl rfl HB13.out Try.underlying64 rfl (by kernel_rfl) rfl ?_
                    rw [HSTEP.out]
                    exact ⟨G3, (spArr kind l a0 a1 a2 b0 b1 b2 (.slice va ts.length vc) vs).toList, rfl, HSR.out, HF.out.rd.step HG13.out (by simpa using fun e => HF.out.two.ne2 e.symm), HF.out.two.out HB13.out HG13.out⟩
end Go.Proofs.Ytolhahlnccekcaa
