/-
  Walks: Same, at two certificates that are zero.
-/
import Derived.Test.YtolhahlnccekcaaParse2
namespace Go.Proofs.Ytolhahlnccekcaa
open Go.RowKit

def ZPost (w : World) (e : Ending) (w' : World) : Prop := e = .returned (.bool true) ∧ w.grownBy w' none

set_option maxHeartbeats 400000 in
theorem eqParams_nil (w : World) (a : Option Addr) (c : Nat) : Calls Try.prog 18 #[.slice a 0 c, .slice none 0 0] w (ZPost w) := by
  go_enter Try.func18, Try.ntmps18
  go_wp2_with fail
  go_loopw [13] (fun i wr => i = .int .i64 0 ∧ wr = w) (fun _ _ => 0)
  case atStart => exact ⟨rfl, rfl⟩
  case round =>
    obtain ⟨rfl, rfl⟩ := hrel
    go_wp2_with fail
    go_ret
    exact ⟨rfl, grefl _ _⟩
set_option maxHeartbeats 400000 in
theorem eqSteps_nil (w : World) (a : Option Addr) (c : Nat) (f : Value) : Calls Try.prog 19 #[.slice a 0 c, .slice none 0 0, f] w (ZPost w) := by
  go_enter Try.func19, Try.ntmps19
  go_wp2_with fail
  go_loopw [17] (fun i wr => i = .int .i64 0 ∧ wr = w) (fun _ _ => 0)
  case atStart => exact ⟨rfl, rfl⟩
  case round =>
    obtain ⟨rfl, rfl⟩ := hrel
    go_wp2_with fail
    go_ret
    exact ⟨rfl, grefl _ _⟩
set_option maxHeartbeats 400000 in
theorem eqCosts_nil (w : World) (a : Option Addr) (c : Nat) (f : Value) : Calls Try.prog 33 #[.slice a 0 c, .slice none 0 0, f] w (ZPost w) := by
  go_enter Try.func33, Try.ntmps33
  go_wp2_with fail
  go_loopw [17] (fun i wr => i = .int .i64 0 ∧ wr = w) (fun _ _ => 0)
  case atStart => exact ⟨rfl, rfl⟩
  case round =>
    obtain ⟨rfl, rfl⟩ := hrel
    go_wp2_with fail
    go_ret
    exact ⟨rfl, grefl _ _⟩
set_option maxHeartbeats 400000 in
theorem eqTerms_nil (w : World) (a : Option Addr) (c : Nat) (f : Value) : Calls Try.prog 38 #[.slice a 0 c, .slice none 0 0, f] w (ZPost w) := by
  go_enter Try.func38, Try.ntmps38
  go_wp2_with fail
  go_loopw [17] (fun i wr => i = .int .i64 0 ∧ wr = w) (fun _ _ => 0)
  case atStart => exact ⟨rfl, rfl⟩
  case round =>
    obtain ⟨rfl, rfl⟩ := hrel
    go_wp2_with fail
    go_ret
    exact ⟨rfl, grefl _ _⟩

theorem zgrown {w w1 w2 : World} (h : w.grownBy w1 none) (k : w1.grownBy w2 none) : w.grownBy w2 none := gtrans h k

set_option maxHeartbeats 400000 in
theorem termSame_zero (w : World) (a : Option Addr) (c : Nat) : Calls Try.prog 30 #[.agg #[.int .i64 0, .int .u32 0, .slice a 0 c], .agg #[.int .i64 0, .int .u32 0, .slice none 0 0]] w (ZPost w) := by
  have hg := galloc (galloc (grefl w none) (Obj.cells #[.int .i64 0, .int .u32 0, .slice a 0 c] 29)) (Obj.cells #[.int .i64 0, .int .u32 0, .slice none 0 0] 29)
  have HG := hid hg
  clear hg
  go_enter Try.func30, Try.ntmps30
  go_wp2_with fail
  refine (eqTerms_nil _ _ _ _).mono ?_
  rintro e w1 ⟨rfl, hg1⟩
  have HG1 := hid (zgrown HG.out hg1)
  clear hg1
  go_wp2_with fail
  go_ret
  exact ⟨rfl, HG1.out⟩

@[go_sem] theorem eq5 (w : World) : (Op.equalIn 10000 83 (.agg #[.int .i64 0, .int .i64 0, .int .i64 0, .int .i64 0, .int .i64 0]) (.agg #[.int .i64 0, .int .i64 0, .int .i64 0, .int .i64 0, .int .i64 0])).run Try.prog w = .ok true w := by
  have u3 := Try.underlying3
  have a3 := Try.isAgg3
  have z3 := Try.sizeOf3
  rw [show (10000 : Nat) = 9999 + 1 from rfl, Op.equalIn]
  simp only [Sem.run_bind, run_underlying Try.underlying83, Result.andThen_ok]
  simp only [Std.Legacy.Range.forIn_eq_forIn_range', Std.Legacy.Range.size, Nat.sub_zero, Nat.add_sub_cancel, Nat.div_one, List.range'_succ, List.range'_zero, List.forIn_cons, List.forIn_nil]
  go_simp
@[go_sem] theorem eq3 (w : World) : (Op.equalIn 10000 59 (.agg #[.int .i64 0, .int .i64 0, .int .i64 0]) (.agg #[.int .i64 0, .int .i64 0, .int .i64 0])).run Try.prog w = .ok true w := by
  have u3 := Try.underlying3
  have a3 := Try.isAgg3
  have z3 := Try.sizeOf3
  rw [show (10000 : Nat) = 9999 + 1 from rfl, Op.equalIn]
  simp only [Sem.run_bind, run_underlying Try.underlying59, Result.andThen_ok]
  simp only [Std.Legacy.Range.forIn_eq_forIn_range', Std.Legacy.Range.size, Nat.sub_zero, Nat.add_sub_cancel, Nat.div_one, List.range'_succ, List.range'_zero, List.forIn_cons, List.forIn_nil]
  go_simp

set_option maxHeartbeats 1000000 in
theorem costSame_zero (w : World) (a a' a'' : Option Addr) (k k' k'' : Nat) : Calls Try.prog 21 #[.agg (ctArr 0 0 0 0 0 (.int .i64 0) (.int .u32 0) (.slice a 0 k) (.int .i64 0) (.int .u32 0) (.slice a' 0 k') (.slice a'' 0 k'')), .agg ctZero] w (ZPost w) := by
  obtain ⟨cz, hcz⟩ : ∃ cz, cz = ctArr 0 0 0 0 0 (.int .i64 0) (.int .u32 0) (.slice a 0 k) (.int .i64 0) (.int .u32 0) (.slice a' 0 k') (.slice a'' 0 k'') := ⟨_, rfl⟩
  rw [← hcz]
  have hg := galloc (galloc (grefl w none) (Obj.cells cz 32)) (Obj.cells ctZero 32)
  have HG := hid hg
  clear hg
  have hb0 : Blk ((w.alloc (Obj.cells cz 32)).alloc (Obj.cells ctZero 32)) w.heap.size 32 cz := (Blk.new w _ _).alloc _
  have hb1 : Blk ((w.alloc (Obj.cells cz 32)).alloc (Obj.cells ctZero 32)) (w.heap.size + 1) 32 ctZero := by simpa using Blk.new (w.alloc (Obj.cells cz 32)) 32 ctZero
  have HB0 := hid hb0
  have HB1 := hid hb1
  clear hb0 hb1
  subst hcz
  unfold ctZero at *
  unfold ctArr at *
  go_enter Try.func21, Try.ntmps21
  go_wp2_with fail
  refine (termSame_zero _ _ _).mono ?_
  rintro e w1 ⟨rfl, hg1⟩
  have HG1 := hid (zgrown HG.out hg1)
  have hb0 := HB0.out.grown hg1 (by simp)
  have hb1 := HB1.out.grown hg1 (by simp)
  obtain ⟨pa, hpa⟩ : ∃ pa, pa = w.heap.size := ⟨_, rfl⟩
  obtain ⟨pb, hpb⟩ : ∃ pb, pb = w.heap.size + 1 := ⟨_, rfl⟩
  rw [← hpb] at hb1
  simp only [← hpb]
  rw [← hpa] at hb0
  simp only [← hpa]
  have a6 := hb0.cell 6
  have a7 := hb0.cell 7
  have a8 := hb0.cell 8
  have a9 := hb0.cell 9
  have a10 := hb0.cell 10
  have a11 := hb0.cell 11
  have b6 := hb1.cell 6
  have b7 := hb1.cell 7
  have b8 := hb1.cell 8
  have b9 := hb1.cell 9
  have b10 := hb1.cell 10
  have b11 := hb1.cell 11
  simp at a6 a7 a8 a9 a10 a11 b6 b7 b8 b9 b10 b11
  have HB0 := hid hb0
  have HB1 := hid hb1
  clear hg1 hb0 hb1 hpa hpb
  go_wp2_with fail
  refine (termSame_zero _ _ _).mono ?_
  rintro e w2 ⟨rfl, hg2⟩
  have HG2 := hid (zgrown HG1.out hg2)
  have a11 := (HB0.out.grown hg2 (by simp)).cell 11
  have b11 := (HB1.out.grown hg2 (by simp)).cell 11
  simp at a11 b11
  clear hg2
  go_wp2_with fail
  refine (eqCosts_nil _ _ _ _).mono ?_
  rintro e w3 ⟨rfl, hg3⟩
  have HG3 := hid (zgrown HG2.out hg3)
  clear hg3
  go_wp2_with fail
  go_ret
  exact ⟨rfl, HG3.out⟩

def zArr (a1 : Option Addr) (k1 : Nat) (a2 : Option Addr) (k2 : Nat) (a3 : Option Addr) (k3 : Nat) (a4 : Option Addr) (k4 : Nat) (a5 : Option Addr) (k5 : Nat) : Array Value :=
  #[.string ByteArray.empty, .int .i64 0, .slice a1 0 k1, .int .i64 0, .int .i64 0, .slice a2 0 k2, .int .i64 0, .int .i64 0, .int .i64 0, .int .i64 0, .int .i64 0, .int .i64 0, .int .u32 0, .slice a3 0 k3, .int .i64 0, .int .u32 0, .slice a4 0 k4, .slice a5 0 k5]
theorem zero_inv {G : GG} {cs : List Value} (h : Reps G [Cf.zero.enc] cs) : ∃ a1 k1 a2 k2 a3 k3 a4 k4 a5 k5, cs = (zArr a1 k1 a2 k2 a3 k3 a4 k4 a5 k5).toList := by
  obtain ⟨pp, kp, ps, ks, cc, rfl, _, _, _, _, _, h, _⟩ := reps_cf_inv h
  have h := Reps.inv_one_node (show Reps G [.node [.int .i64 0, .int .i64 0, .int .i64 0, .int .i64 0, .int .i64 0, Tm.zero.enc, Tm.zero.enc, .list []]] cc from h)
  obtain ⟨x, rfl, _, h⟩ := h.inv_int
  obtain ⟨x, rfl, _, h⟩ := h.inv_int
  obtain ⟨x, rfl, _, h⟩ := h.inv_int
  obtain ⟨x, rfl, _, h⟩ := h.inv_int
  obtain ⟨x, rfl, _, h⟩ := h.inv_int
  obtain ⟨c1, c2, rfl, h1, h⟩ := Reps.inv_node (show Reps G (.node [.int .i64 0, .int .u32 0, .list []] :: _) _ from h)
  obtain ⟨c3, c4, rfl, h2, h⟩ := Reps.inv_node (show Reps G (.node [.int .i64 0, .int .u32 0, .list []] :: _) _ from h)
  obtain ⟨a5, k5, x, rfl, _, h⟩ := h.inv_list
  obtain rfl := h.inv_nil
  obtain ⟨x, rfl, _, h1⟩ := h1.inv_int
  obtain ⟨x, rfl, _, h1⟩ := h1.inv_int
  obtain ⟨a3, k3, x, rfl, _, h1⟩ := h1.inv_list
  obtain rfl := h1.inv_nil
  obtain ⟨x, rfl, _, h2⟩ := h2.inv_int
  obtain ⟨x, rfl, _, h2⟩ := h2.inv_int
  obtain ⟨a4, k4, x, rfl, _, h2⟩ := h2.inv_list
  obtain rfl := h2.inv_nil
  exact ⟨pp, kp, ps, ks, a3, k3, a4, k4, a5, k5, rfl⟩

set_option maxRecDepth 100000 in
set_option maxHeartbeats 1000000 in
theorem certSame_zero (w : World) (cs : List Value) (G : GG) (hr : Reps G [Cf.zero.enc] cs) : Calls Try.prog 7 #[.agg ⟨cs⟩, .agg cfZero] w (ZPost w) := by
  obtain ⟨a1, k1, a2, k2, a3, k3, a4, k4, a5, k5, hcs⟩ := zero_inv hr
  clear hr
  subst hcs
  obtain ⟨cz, hcz⟩ : ∃ cz, cz = zArr a1 k1 a2 k2 a3 k3 a4 k4 a5 k5 := ⟨_, rfl⟩
  rw [show (⟨(zArr a1 k1 a2 k2 a3 k3 a4 k4 a5 k5).toList⟩ : Array Value) = zArr a1 k1 a2 k2 a3 k3 a4 k4 a5 k5 from rfl, ← hcz]
  have hg := galloc (galloc (grefl w none) (Obj.cells cz 34)) (Obj.cells cfZero 34)
  have HG := hid hg
  clear hg
  have hb0 : Blk ((w.alloc (Obj.cells cz 34)).alloc (Obj.cells cfZero 34)) w.heap.size 34 cz := (Blk.new w _ _).alloc _
  have hb1 : Blk ((w.alloc (Obj.cells cz 34)).alloc (Obj.cells cfZero 34)) (w.heap.size + 1) 34 cfZero := by simpa using Blk.new (w.alloc (Obj.cells cz 34)) 34 cfZero
  have HB0 := hid hb0
  have HB1 := hid hb1
  have hcost := fun w => costSame_zero w a3 a4 a5 k3 k4 k5
  simp only [ctZero, ctArr] at hcost
  have HCOST := hid hcost
  clear hb0 hb1 hcost
  have hz : cfZero = #[.string ByteArray.empty, .int .i64 0, .slice none 0 0, .int .i64 0, .int .i64 0, .slice none 0 0, .int .i64 0, .int .i64 0, .int .i64 0, .int .i64 0, .int .i64 0, .int .i64 0, .int .u32 0, .slice none 0 0, .int .i64 0, .int .u32 0, .slice none 0 0, .slice none 0 0] := rfl
  rw [hz] at HG HB0 HB1 ⊢
  subst hcz
  unfold zArr at *
  clear hz
  go_enter Try.func7, Try.ntmps7
  go_wp2_with fail
  refine (eqParams_nil _ _ _).mono ?_
  rintro e w1 ⟨rfl, hg1⟩
  have HG1 := hid (zgrown HG.out hg1)
  have hb0 := HB0.out.grown hg1 (by simp)
  have hb1 := HB1.out.grown hg1 (by simp)
  obtain ⟨pa, hpa⟩ : ∃ pa, pa = w.heap.size := ⟨_, rfl⟩
  obtain ⟨pb, hpb⟩ : ∃ pb, pb = w.heap.size + 1 := ⟨_, rfl⟩
  rw [← hpb] at hb1
  simp only [← hpb]
  rw [← hpa] at hb0
  simp only [← hpa]
  have a5 := hb0.cell 5
  have b5 := hb1.cell 5
  simp at a5 b5
  have HB0 := hid hb0
  have HB1 := hid hb1
  clear hg1 hb0 hb1 hpa hpb
  go_wp2_with fail
  refine (eqSteps_nil _ _ _ _).mono ?_
  rintro e w2 ⟨rfl, hg2⟩
  have HG2 := hid (zgrown HG1.out hg2)
  have hb0 := HB0.out.grown hg2 (by simp)
  have hb1 := HB1.out.grown hg2 (by simp)
  have a6 := hb0.cell 6
  have a7 := hb0.cell 7
  have a8 := hb0.cell 8
  have a9 := hb0.cell 9
  have a10 := hb0.cell 10
  have a11 := hb0.cell 11
  have a12 := hb0.cell 12
  have a13 := hb0.cell 13
  have a14 := hb0.cell 14
  have a15 := hb0.cell 15
  have a16 := hb0.cell 16
  have a17 := hb0.cell 17
  have b6 := hb1.cell 6
  have b7 := hb1.cell 7
  have b8 := hb1.cell 8
  have b9 := hb1.cell 9
  have b10 := hb1.cell 10
  have b11 := hb1.cell 11
  have b12 := hb1.cell 12
  have b13 := hb1.cell 13
  have b14 := hb1.cell 14
  have b15 := hb1.cell 15
  have b16 := hb1.cell 16
  have b17 := hb1.cell 17
  simp at a6 a7 a8 a9 a10 a11 a12 a13 a14 a15 a16 a17 b6 b7 b8 b9 b10 b11 b12 b13 b14 b15 b16 b17
  clear hg2 hb0 hb1
  go_wp2_with fail
  refine (HCOST.out _).mono ?_
  rintro e w3 ⟨rfl, hg3⟩
  have HG3 := hid (zgrown HG2.out hg3)
  clear hg3
  go_wp2_with fail
  go_ret
  exact ⟨rfl, HG3.out⟩
end Go.Proofs.Ytolhahlnccekcaa
