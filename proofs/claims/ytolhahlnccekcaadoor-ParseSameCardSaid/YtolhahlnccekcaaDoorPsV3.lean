/-
  remontoirelaw10.flat gives a slice that may be written.
-/
import Derived.Test.YtolhahlnccekcaaDoorPsV2
namespace Go.Proofs.YtolhahlnccekcaaDoor.Abs
open Go.RowKit
set_option linter.unusedVariables false
set_option linter.unusedSimpArgs false
set_option maxRecDepth 10000
def flatV_C (f : T_parse_Node → Int → Option (List T_remontoireref10_N)) : Prop := ∀ (a0 : T_parse_Node) (a1 : Int) (r : (List T_remontoireref10_N)), f a0 a1 = some r → ∀ (q : Pa) (m : M) (vs : List V), vs.map V.weak1 = [.agg ((T_parse_Node.C a0)), .lit (.int .i64 a1)] →
  SC Tryd.prog 15 vs q m (fun v m' => ∃ id cap junk, (∃ j, (j :: q) <:+ id) ∧ v = .arr id 0 r.length cap ∧ m' = m.set id ((r.map T_remontoireref10_N.C).flatten ++ junk) ∧ plain junk ∧ ((r.map T_remontoireref10_N.C).flatten ++ junk).length = cap * 5 ∧ ∀ off, m.ver id off = 0)
theorem plain_N (x : T_remontoireref10_N) : plain (T_remontoireref10_N.C x) := by
  intro v hv
  unfold T_remontoireref10_N.C at hv
  simp only [List.mem_cons, List.not_mem_nil, or_false] at hv
  rcases hv with rfl | rfl | rfl | rfl | rfl <;> exact ⟨rfl, rfl⟩
theorem plain_Ns (l : List T_remontoireref10_N) : plain (l.map T_remontoireref10_N.C).flatten := by
  intro v hv
  obtain ⟨r, hr, hv⟩ := List.mem_flatten.1 hv
  obtain ⟨x, _, rfl⟩ := List.mem_map.1 hr
  exact plain_N x v hv
theorem len_Ns (l : List T_remontoireref10_N) : (l.map T_remontoireref10_N.C).flatten.length = l.length * 5 := by
  rw [flatten_len (sz := 5) (fun r hr => by obtain ⟨x, _, rfl⟩ := List.mem_map.1 hr; rfl), List.length_map]
theorem flatV_b {rec_remontoirelaw10_flat : T_parse_Node → Int → Option (List T_remontoireref10_N)} (hrec : flatV_C rec_remontoirelaw10_flat) (n : Nat) : flatV_C (remontoirelaw10_flat_b rec_remontoirelaw10_flat n) := by
  intro a0 a1 r h q m vs hv
  refine SC.weak ?_
  rw [hv]
  refine SC_ofV Tryd.func15 rfl (fun xs w => Tryd.call15 xs w) Tryd.ntmps15 (by kernel_rfl) (congrArg Array.toList Tryd.results15) ?_
  unfold remontoirelaw10_flat_b at h
  refine SW_fresh fun hfr => ?_
  refine SW_seq ?_
  refine SW_reg fun K hK => ?_
  simp only [go_sem, Nat.reduceAdd]
  apply hK
  simp only [thenQ_normal]
  refine SW_seq ?_
  refine SW_regX 12 rfl rfl (X := XLit Tryd.prog 34 1 [(0, .tmp 19)]) (fun hx h hE hf hd Q => XLit_ok rfl hx h hE hf hd Q) ?_
  simp only [go_sem, ↓reduceIte, Nat.reduceEqDiff, Nat.reduceAdd, Nat.reduceLT, Nat.reduceLeDiff, List.take_succ_cons, List.take_zero, List.drop_succ_cons, List.drop_zero]
  unfold XLit
  simp only [go_sem, ↓reduceIte, Nat.reduceEqDiff, Nat.reduceAdd, Nat.reduceLT, Nat.reduceLeDiff, List.map_cons, List.map_nil, List.flatten_cons, List.flatten_nil, List.append_nil]
  refine ⟨plain_N ⟨a0.Kind_, a0.At_, a0.Text_, a0.Num_, (a0.List_.length : Int)⟩, ?_⟩
  refine SW_seq ?_
  refine SW_seq ?_
  refine SW_reg fun K hK => ?_
  simp only [go_sem, ↓reduceIte, Nat.reduceEqDiff, Nat.reduceAdd]
  apply hK
  simp only [thenQ_normal]
  refine SW_if (decide ((20000 : Int) < a1)) (by simp only [go_sem, ↓reduceIte]) (fun c2 => ?_) (fun c2 => ?_)
  · replace h := ite_t c2 h
    refine SW_seq ?_
    refine SW_reg fun K hK => ?_
    simp only [go_sem, ↓reduceIte, Nat.reduceEqDiff, Nat.reduceAdd, c2]
    apply hK
    simp only [thenQ_normal]
    refine SW_ret ?_
    try simp only [thenQ_ret]
    obtain rfl := some_eq h
    refine ⟨by first | exact .inl rfl | exact .inl trivial | exact .inr rfl | exact .inr trivial, ?_⟩
    simp only [go_sem, ↓reduceIte, back_set, back_self]
    exact ⟨14 :: q, 1, 1, _, rfl, ⟨14, suf_self⟩, if_pos rfl, plain_N ⟨a0.Kind_, a0.At_, a0.Text_, a0.Num_, (a0.List_.length : Int)⟩, (hfr.at_ (j := 14) (by omega)).2.1, 14 :: q, 1, [], ⟨14, suf_self⟩, rfl, by simp, fun _ h => (by cases h), rfl, (hfr.at_ (j := 14) (by omega)).2.1⟩
  · replace h := ite_f c2 h
    refine SW_skip ?_
    try simp only [thenQ_normal]
    refine SW_seq ?_
    refine SW_seq ?_
    refine SW_reg fun K hK => ?_
    simp only [go_sem, ↓reduceIte, Nat.reduceEqDiff, Nat.reduceAdd, c2]
    apply hK
    simp only [thenQ_normal]
    refine SW_block ?_
    obtain ⟨y6, hy6, h⟩ := bind_some h
    refine SW_countW [] [] rfl (fun c E' m' => ∃ (v4 : (List T_remontoireref10_N)), ∃ (v5 : Int), ∃ (id : Pa) (cap : Nat) (junk : List V), remontoirelaw10_flat_l1 rec_remontoirelaw10_flat a0 a1 c v4 v5 = some y6 ∧ (E' 1 = .lit (.int .i64 a1) ∧ E' 5 = .arr id 0 v4.length cap ∧ E' 25 = .list .none (a0.List_.map T_parse_Node.C) ∧ E' 26 = .lit (.int .i64 (a0.List_.length : Int)) ∧ E' 27 = .lit (.int .i64 v5) ∧ m'.gl = m.gl ∧ m.back q m' = m) ∧
      m'.blk id = some ((v4.map T_remontoireref10_N.C).flatten ++ junk) ∧ plain junk ∧ ((v4.map T_remontoireref10_N.C).flatten ++ junk).length = cap * 5 ∧ (∀ off, m'.ver id off = 0) ∧ ∃ j, (j :: q) <:+ id) n ⟨[(T_remontoireref10_N.mk a0.Kind_ a0.At_ a0.Text_ a0.Num_ (a0.List_.length : Int))], (0 : Int), (14 :: q), 1, [], hy6, ?_, ?_, ?_, ?_, ?_, ?_⟩ ?_
    · simp only [go_sem, ↓reduceIte, Nat.reduceEqDiff, back_set, back_self]
    · simp only [go_sem, ↓reduceIte, Nat.reduceEqDiff, List.flatten_cons, List.flatten_nil, List.append_nil, List.map_cons, List.map_nil]
    · exact fun _ h => (by cases h)
    · rfl
    · simp only [go_sem]
      exact (hfr.at_ (j := 14) (by omega)).2.1
    · exact ⟨14, suf_self⟩
    rintro i3 c7 E8 m9 ⟨v4, v5, id, cap, junk, hy6, e10, hb, hp, hl, hver, hsuf⟩ _
    refine SW_fresh fun hfr2 => ?_
    rcases c7 with _ | c7
    · exact absurd hy6 (by rw [remontoirelaw10_flat_l1]; exact fun e => nomatch e)
    rw [remontoirelaw10_flat_l1] at hy6
    refine SW_seq ?_
    refine SW_reg fun K hK => ?_
    simp only [go_sem, Nat.reduceAdd, e10]
    apply hK
    simp only [thenQ_normal]
    refine SW_seq ?_
    refine SW_if (decide (v5 < (a0.List_.length : Int))) (by simp only [go_sem, ↓reduceIte]) (fun c11 => ?_) (fun c11 => ?_)
    · replace hy6 := ite_t c11 hy6
      refine SW_skip ?_
      try simp only [thenQ_normal]
      refine SW_seq ?_
      refine SW_block ?_
      refine SW_seq ?_
      obtain ⟨x12, h17, hy6⟩ := bind_some hy6
      obtain ⟨f14, f15, f16⟩ := idxL_some h17
      refine SW_reg fun K hK => ?_
      simp only [go_sem, ↓reduceIte, Nat.reduceEqDiff, Nat.reduceAdd, f14, f15, f16, e10]
      apply hK
      simp only [thenQ_normal]
      obtain ⟨x18, h19, hy6⟩ := bind_some hy6
      obtain ⟨f20, hy6⟩ := need_some hy6
      refine SW_regX 5 rfl rfl (X := XApp Tryd.prog 34 34 (.tmp 31) (.tmp 35)) (fun hx h hE hf hd Q => XApp_ok rfl hx h hE hf hd Q) ?_
      simp only [go_sem, ↓reduceIte, Nat.reduceEqDiff, Nat.reduceAdd, Nat.reduceLT, Nat.reduceLeDiff, List.take_succ_cons, List.take_zero, List.drop_succ_cons, List.drop_zero, e10]
      refine SC.mono (hrec x12 (IntKind.i64.wrap (a1 + (1 : Int))) _ h19 _ _ _ (by simp only [go_sem])) ?_
      rintro v m' ⟨id2, cap2, junk2, ⟨j2, hsuf2⟩, rfl, rfl, hp2, hl2, hver2⟩
      simp only [go_sem, ↓reduceIte, Nat.reduceEqDiff, Nat.reduceAdd, Nat.reduceLT, Nat.reduceLeDiff, e10]
      have hid2 : m9.blk id2 = none := (hfr2 _ (Nat.zero_le _) id2 (under_tail hsuf2)).1
      have hbox : m9.blk (3 :: i3 :: 22 :: q) = none := (hfr2.at_ (j := 3) (by omega)).1
      have hne2 : id ≠ id2 := by rintro rfl; rw [hb] at hid2; cases hid2
      have hneb : id ≠ 3 :: i3 :: 22 :: q := by rintro rfl; rw [hb] at hbox; cases hbox
      have hA := len_Ns v4
      have hB := len_Ns x18
      have hfl : (((x18.map T_remontoireref10_N.C).flatten ++ junk2).take (x18.length * 5)) = (x18.map T_remontoireref10_N.C).flatten := by rw [← hB, List.take_left]
      have htk : (((v4.map T_remontoireref10_N.C).flatten ++ junk).take (v4.length * 5)) = (v4.map T_remontoireref10_N.C).flatten := by rw [← hA, List.take_left]
      have hrow : ((v4 ++ x18).map T_remontoireref10_N.C).flatten = (v4.map T_remontoireref10_N.C).flatten ++ (x18.map T_remontoireref10_N.C).flatten := by rw [List.map_append, List.flatten_append]
      rw [List.length_append, hB] at hl2
      unfold XApp
      refine ⟨37, 5, _, _, id, v4.length, cap, (v4.map T_remontoireref10_N.C).flatten ++ junk, x18.length, (x18.map T_remontoireref10_N.C).flatten, by kernel_rfl, sz37, zc37, by37, by simp only [go_sem, ↓reduceIte, Nat.reduceEqDiff], ?_, ?_, by decide, by decide, rfl, hl, (plain_Ns _).app hp, plain_Ns _, f20, fun hroom => ?_, fun cap' hcap => ?_⟩
      · show (if id = id2 then _ else if id = 3 :: i3 :: 22 :: q then _ else m9.blk id) = _
        rw [if_neg hne2, if_neg hneb]; exact hb
      · have := NewsM.arr (P := Tryd.prog) (m := (m9.set (3 :: i3 :: 22 :: q) (T_parse_Node.C x12)).set id2 ((x18.map T_remontoireref10_N.C).flatten ++ junk2)) (n := 5) (u := 34) (e := 37) (id := id2) (len := x18.length) (cap := cap2) (cs := (x18.map T_remontoireref10_N.C).flatten ++ junk2) (by kernel_rfl) (if_pos rfl) ((plain_Ns _).app hp2) (by rw [List.length_append, hB]; omega)
        rw [hfl] at this
        have he : ∀ (E : Env) (m : M), ev m (upd E 35 (.arr id2 0 x18.length cap2)) (.tmp 35) = .arr id2 0 x18.length cap2 := fun E m => by simp only [go_sem, ↓reduceIte]
        rw [he]
        simp only [go_sem] at this
        exact this
      · refine SW_reg fun K hK => ?_
        simp only [go_sem, ↓reduceIte, Nat.reduceEqDiff, Nat.reduceAdd, e10]
        apply hK
        simp only [thenQ_normal]
        have hjl : x18.length * 5 ≤ junk.length := by
          rw [List.length_append, hA] at hl
          have := Nat.mul_le_mul_right 5 hroom
          omega
        refine ⟨c7, Nat.lt_succ_self _, v4 ++ x18, IntKind.i64.wrap (v5 + (1 : Int)), id, cap, junk.drop (x18.length * 5), hy6, ?_, ?_, hp.drop _, ?_, hver, hsuf⟩
        · simp only [go_sem, ↓reduceIte, Nat.reduceEqDiff, List.length_append, e10]
          obtain ⟨j, hj⟩ := hsuf
          rw [back_set (under_tail hj), back_set (under_tail (under_tail (under_tail (under_tail hsuf2)))), back_set (suf_cons (suf_cons (suf_cons suf_self))), e10.2.2.2.2.2.2]
        · show (if id = id then some _ else _) = _
          rw [if_pos rfl, htk, hB, hrow, ← hA, List.drop_append, List.drop_of_length_le (by omega), List.nil_append, Nat.add_sub_cancel_left]
        · rw [hrow, List.length_append, hA, hB, List.length_drop]
          rw [List.length_append, hA] at hl
          omega
      · refine SW_reg fun K hK => ?_
        simp only [go_sem, ↓reduceIte, Nat.reduceEqDiff, Nat.reduceAdd, e10]
        apply hK
        simp only [thenQ_normal]
        refine ⟨c7, Nat.lt_succ_self _, v4 ++ x18, IntKind.i64.wrap (v5 + (1 : Int)), 10 :: i3 :: 22 :: q, cap', List.replicate ((cap' - (v4.length + x18.length)) * 5) .top, hy6, ?_, ?_, .tops _, ?_, (hfr2.at_ (j := 10) (by omega)).2.1, ⟨22, suf_cons (suf_cons suf_self)⟩⟩
        · simp only [go_sem, ↓reduceIte, Nat.reduceEqDiff, List.length_append, e10]
          rw [back_set (suf_cons (suf_cons (suf_cons suf_self))), back_set (under_tail (under_tail (under_tail (under_tail hsuf2)))), back_set (suf_cons (suf_cons (suf_cons suf_self))), e10.2.2.2.2.2.2]
        · show (if 10 :: i3 :: 22 :: q = 10 :: i3 :: 22 :: q then some _ else _) = _
          rw [if_pos rfl, htk, hrow]
        · rw [hrow, List.length_append, hA, hB, List.length_replicate]
          have := Nat.mul_le_mul_right 5 hcap
          rw [Nat.sub_mul]
          omega
    · replace hy6 := ite_f c11 hy6
      refine SW_exit ?_
      try simp only [thenQ_exit, blockQ_exit, ↓reduceIte, thenQ_normal]
      obtain rfl := some_eq hy6
      refine SW_seq ?_
      refine SW_reg fun K hK => ?_
      simp only [go_sem, ↓reduceIte, Nat.reduceEqDiff, Nat.reduceAdd, c11, e10]
      apply hK
      simp only [thenQ_normal]
      refine SW_ret ?_
      try simp only []
      obtain rfl := some_eq h
      refine ⟨by first | exact .inl rfl | exact .inl trivial | exact .inr rfl | exact .inr trivial, ?_⟩
      obtain ⟨j, hj⟩ := hsuf
      refine ⟨id, v4.length, cap, _, ?_, ⟨j, hj⟩, hb, (plain_Ns _).app hp, hver, id, cap, junk, ⟨j, hj⟩, rfl, ?_, hp, by rw [← List.length_append]; exact hl, (hfr j (Nat.zero_le _) id hj).2.1⟩
      · simp only [go_sem, ↓reduceIte, e10]
      · rw [e10.2.2.2.2.2.2]
theorem flatV_ok : ∀ n, flatV_C (remontoirelaw10_flat n)
  | 0 => fun _ _ _ h => none_some_ h
  | n + 1 => flatV_b (flatV_ok n) n
end Go.Proofs.YtolhahlnccekcaaDoor.Abs
