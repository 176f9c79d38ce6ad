/-
  Walks: each function does what its model says. Written by a program of mine (gen.py) for this claim.
-/
import Derived.Test.YtolhahlnccekcaaDoorPjGMw2
import Derived.Test.YtolhahlnccekcaaDoorPjGMm
import Derived.Test.YtolhahlnccekcaaDoorPjFacts
namespace Go.Proofs.YtolhahlnccekcaaDoor.Abs
open Go.RowKit
set_option linter.unusedVariables false
set_option maxRecDepth 10000

def parse_Count_C (f : T_parse_Node → Option Int) : Prop := ∀ (a0 : T_parse_Node) (r : Int), f a0 = some r → ∀ (q : Pa) (m : M) (vs : List V), vs.map V.weak1 = [.agg ((T_parse_Node.C a0))] → SC Tryd.prog 17 vs q m (fun v m' => v = .lit (.int .i64 r) ∧ m' = m)

theorem parse_Count_b_ok {rec_parse_Count : T_parse_Node → Option Int} (hrec_parse_Count : parse_Count_C rec_parse_Count) (n : Nat) : parse_Count_C (parse_Count_b rec_parse_Count n) := by
  intro a0 r h q m vs hv
  refine SC.weak ?_
  rw [hv]
  refine SC_of Tryd.func17 rfl (fun xs w => Tryd.call17 xs w) Tryd.ntmps17 (by kernel_rfl) (congrArg Array.toList Tryd.results17) V.weak (fun _ _ _ => V.weak_ok) ?_
  unfold parse_Count_b at h
  refine SW_seq ?_
  refine SW_reg fun K hK => ?_
  simp only [go_sem, Nat.reduceAdd]
  apply hK
  simp only [thenQ_normal]
  refine SW_seq ?_
  refine SW_reg fun K hK => ?_
  simp only [go_sem, Nat.reduceAdd]
  apply hK
  simp only [thenQ_normal]
  refine SW_seq ?_
  refine SW_seq ?_
  refine SW_reg fun K hK => ?_
  simp only [go_sem, ↓reduceIte, Nat.reduceEqDiff, Nat.reduceAdd]
  apply hK
  simp only [thenQ_normal]
  refine SW_block ?_
  obtain ⟨y5, hy5, h⟩ := bind_some h
  refine SW_countW [] [] rfl (fun c E' m' => ∃ (v3 : Int), ∃ (v4 : Int), parse_Count_l1 rec_parse_Count a0 c v3 v4 = some y5 ∧ E' 3 = .lit (.int .i64 v3) ∧ E' 7 = .list .none (a0.List_.map T_parse_Node.C) ∧ E' 8 = .lit (.int .i64 (a0.List_.length : Int)) ∧ E' 9 = .lit (.int .i64 v4) ∧ m'.gl = m.gl ∧ m.back q m' = m) n ⟨(1 : Int), (0 : Int), hy5, ?_⟩ ?_
  · simp only [go_sem, ↓reduceIte, Nat.reduceEqDiff, back_set, back_self]
  rintro i2 c6 E7 m8 ⟨v3, v4, hy5, e9⟩ _
  rcases c6 with _ | c6
  · exact absurd hy5 (by rw [parse_Count_l1]; exact fun e => nomatch e)
  rw [parse_Count_l1] at hy5
  refine SW_seq ?_
  refine SW_reg fun K hK => ?_
  simp only [go_sem, e9]
  apply hK
  simp only [thenQ_normal]
  refine SW_seq ?_
  refine SW_if (decide (v4 < (a0.List_.length : Int))) (by simp only [go_sem, ↓reduceIte]) (fun c10 => ?_) (fun c10 => ?_)
  · replace hy5 := ite_t c10 hy5
    refine SW_skip ?_
    try simp only [thenQ_normal]
    refine SW_seq ?_
    refine SW_block ?_
    refine SW_seq ?_
    obtain ⟨x11, h16, hy5⟩ := bind_some hy5
    obtain ⟨f13, f14, f15⟩ := idxL_some h16
    refine SW_reg fun K hK => ?_
    simp only [go_sem, ↓reduceIte, Nat.reduceEqDiff, Nat.reduceAdd, f13, f14, f15, e9]
    apply hK
    simp only [thenQ_normal]
    obtain ⟨x17, h18, hy5⟩ := bind_some hy5
    refine SW_reg fun K hK => ?_
    simp only [go_sem, ↓reduceIte, Nat.reduceEqDiff, Nat.reduceAdd, e9]
    refine SC.by_ (hrec_parse_Count x11 _ h18 _ _ _ (by simp only [go_sem])) ?_
    simp only [go_sem, ↓reduceIte, Nat.reduceEqDiff, Nat.reduceAdd]
    apply hK
    simp only [thenQ_normal, blockQ_normal]
    refine SW_reg fun K hK => ?_
    simp only [go_sem, ↓reduceIte, Nat.reduceEqDiff, Nat.reduceAdd, e9]
    apply hK
    simp only [thenQ_normal]
    refine ⟨c6, Nat.lt_succ_self _, (IntKind.i64.wrap (v3 + x17)), (IntKind.i64.wrap (v4 + (1 : Int))), hy5, ?_⟩
    simp only [go_sem, ↓reduceIte, Nat.reduceEqDiff, back_set, e9]
  · replace hy5 := ite_f c10 hy5
    refine SW_exit ?_
    try simp only [thenQ_exit, blockQ_exit, ↓reduceIte, thenQ_normal]
    obtain rfl := some_eq hy5
    refine SW_seq ?_
    refine SW_reg fun K hK => ?_
    simp only [go_sem, ↓reduceIte, Nat.reduceEqDiff, Nat.reduceAdd, c10, e9]
    apply hK
    simp only [thenQ_normal]
    refine SW_ret ?_
    try simp only []
    obtain rfl := some_eq h
    refine ⟨by first | exact .inl rfl | exact .inl trivial | exact .inr rfl | exact .inr trivial, ?_⟩
    simp only [go_sem, ↓reduceIte, e9]

theorem parse_Count_ok : ∀ n, parse_Count_C (parse_Count n)
  | 0 => fun _ _ h => none_some_ h
  | n + 1 => parse_Count_b_ok (parse_Count_ok n) n

def parse_Same_C (f : T_parse_Node → T_parse_Node → Option Bool) : Prop := ∀ (a0 : T_parse_Node) (a1 : T_parse_Node) (r : Bool), f a0 a1 = some r → ∀ (q : Pa) (m : M) (vs : List V), vs.map V.weak1 = [.agg ((T_parse_Node.C a0)), .agg ((T_parse_Node.C a1))] → SC Tryd.prog 18 vs q m (fun v m' => v = .lit (.bool r) ∧ m' = m)

def slices_EqualFunc_L_parse_Node_L_parse_Node_parse_Node_parse_Node__Same_C (f : (List T_parse_Node) → (List T_parse_Node) → Option Bool) : Prop := ∀ (a0 : (List T_parse_Node)) (a1 : (List T_parse_Node)) (r : Bool), f a0 a1 = some r → ∀ (q : Pa) (m : M) (vs : List V), vs.map V.weak1 = [.list .none (a0.map T_parse_Node.C), .list .none (a1.map T_parse_Node.C), .fn (.func 18) [] []] → SC Tryd.prog 33 vs q m (fun v m' => v = .lit (.bool r) ∧ m' = m)

theorem parse_Same_b_ok {rec_slices_EqualFunc_L_parse_Node_L_parse_Node_parse_Node_parse_Node__Same : (List T_parse_Node) → (List T_parse_Node) → Option Bool} (hrec_slices_EqualFunc_L_parse_Node_L_parse_Node_parse_Node_parse_Node__Same : slices_EqualFunc_L_parse_Node_L_parse_Node_parse_Node_parse_Node__Same_C rec_slices_EqualFunc_L_parse_Node_L_parse_Node_parse_Node_parse_Node__Same) (n : Nat) : parse_Same_C (parse_Same_b rec_slices_EqualFunc_L_parse_Node_L_parse_Node_parse_Node_parse_Node__Same n) := by
  intro a0 a1 r h q m vs hv
  refine SC.weak ?_
  rw [hv]
  refine SC_of Tryd.func18 rfl (fun xs w => Tryd.call18 xs w) Tryd.ntmps18 (by kernel_rfl) (congrArg Array.toList Tryd.results18) V.weak (fun _ _ _ => V.weak_ok) ?_
  unfold parse_Same_b at h
  refine SW_seq ?_
  refine SW_reg fun K hK => ?_
  simp only [go_sem, ↓reduceIte, Nat.reduceEqDiff, Nat.reduceAdd]
  apply hK
  simp only [thenQ_normal]
  refine SW_seq ?_
  obtain ⟨y3, hy3, h⟩ := bind_some h
  refine SW_joinK 30 [] [] rfl (fun E' m' => E' 4 = .lit (.bool y3) ∧ m'.gl = m.gl ∧ m.back q m' = m) ?_ ?_
  · rcases bool_or (a0.Kind_ == a1.Kind_) with c4 | c4
    · replace hy3 := ite_t c4 hy3
      rcases bool_or (decide (a0.Text_ = a1.Text_)) with c5 | c5
      · replace hy3 := ite_t c5 hy3
        rcases bool_or (a0.Num_ == a1.Num_) with c6 | c6
        · replace hy3 := ite_t c6 hy3
          obtain ⟨x7, h8, hy3⟩ := bind_some hy3
          refine SW_reg fun K hK => ?_
          simp only [go_sem, ↓reduceIte, Nat.reduceEqDiff, Nat.reduceAdd, c4, c5, c6]
          refine SC.by_ (hrec_slices_EqualFunc_L_parse_Node_L_parse_Node_parse_Node_parse_Node__Same a0.List_ a1.List_ _ h8 _ _ _ (by simp only [go_sem])) ?_
          simp only [go_sem, ↓reduceIte, Nat.reduceEqDiff, Nat.reduceAdd]
          apply hK
          simp only [thenQ_normal]
          obtain rfl := some_eq hy3
          refine ⟨by decide, ?_⟩
          simp only [go_sem, ↓reduceIte, back_set, back_self]
        · replace hy3 := ite_f c6 hy3
          refine SW_reg fun K hK => ?_
          simp only [go_sem, ↓reduceIte, Nat.reduceEqDiff, Nat.reduceAdd, c4, c5, c6]
          apply hK
          simp only [thenQ_normal]
          obtain rfl := some_eq hy3
          refine ⟨by decide, ?_⟩
          simp only [go_sem, ↓reduceIte, back_set, back_self]
      · replace hy3 := ite_f c5 hy3
        refine SW_reg fun K hK => ?_
        simp only [go_sem, ↓reduceIte, Nat.reduceEqDiff, Nat.reduceAdd, c4, c5]
        apply hK
        simp only [thenQ_normal]
        obtain rfl := some_eq hy3
        refine ⟨by decide, ?_⟩
        simp only [go_sem, ↓reduceIte, back_set, back_self]
    · replace hy3 := ite_f c4 hy3
      refine SW_reg fun K hK => ?_
      simp only [go_sem, ↓reduceIte, Nat.reduceEqDiff, Nat.reduceAdd, c4]
      apply hK
      simp only [thenQ_normal]
      obtain rfl := some_eq hy3
      refine ⟨by decide, ?_⟩
      simp only [go_sem, ↓reduceIte, back_set, back_self]
  · intro E9 m10 e11 _
    simp only [thenQ_normal]
    refine SW_ret ?_
    try simp only []
    obtain rfl := some_eq h
    refine ⟨by first | exact .inl rfl | exact .inl trivial | exact .inr rfl | exact .inr trivial, ?_⟩
    simp only [go_sem, e11]

theorem slices_EqualFunc_L_parse_Node_L_parse_Node_parse_Node_parse_Node__Same_b_ok {rec_parse_Same : T_parse_Node → T_parse_Node → Option Bool} (hrec_parse_Same : parse_Same_C rec_parse_Same) (n : Nat) : slices_EqualFunc_L_parse_Node_L_parse_Node_parse_Node_parse_Node__Same_C (slices_EqualFunc_L_parse_Node_L_parse_Node_parse_Node_parse_Node__Same_b rec_parse_Same n) := by
  intro a0 a1 r h q m vs hv
  refine SC.weak ?_
  rw [hv]
  refine SC_of Tryd.func33 rfl (fun xs w => Tryd.call33 xs w) Tryd.ntmps33 (by kernel_rfl) (congrArg Array.toList Tryd.results33) V.weak (fun _ _ _ => V.weak_ok) ?_
  unfold slices_EqualFunc_L_parse_Node_L_parse_Node_parse_Node_parse_Node__Same_b at h
  refine SW_seq ?_
  refine SW_reg fun K hK => ?_
  simp only [go_sem]
  apply hK
  simp only [thenQ_normal]
  refine SW_seq ?_
  refine SW_seq ?_
  refine SW_reg fun K hK => ?_
  simp only [go_sem, ↓reduceIte, Nat.reduceEqDiff, Nat.reduceAdd, reduceCtorEq]
  apply hK
  simp only [thenQ_normal]
  refine SW_if ((a0.length : Int) != (a1.length : Int)) (by simp only [go_sem, ↓reduceIte]) (fun c1 => ?_) (fun c1 => ?_)
  · replace h := ite_t c1 h
    refine SW_seq ?_
    refine SW_reg fun K hK => ?_
    simp only [go_sem, Nat.reduceAdd, c1]
    apply hK
    simp only [thenQ_normal]
    refine SW_ret ?_
    try simp only [thenQ_ret]
    obtain rfl := some_eq h
    refine ⟨by first | exact .inl rfl | exact .inl trivial | exact .inr rfl | exact .inr trivial, ?_⟩
    simp only [go_sem, ↓reduceIte, back_self]
  · replace h := ite_f c1 h
    refine SW_skip ?_
    try simp only [thenQ_normal]
    refine SW_seq ?_
    refine SW_seq ?_
    refine SW_reg fun K hK => ?_
    simp only [go_sem, ↓reduceIte, Nat.reduceAdd, reduceCtorEq, c1]
    apply hK
    simp only [thenQ_normal]
    refine SW_block ?_
    obtain ⟨y4, hy4, h⟩ := bind_some h
    refine SW_countW [] [] rfl (fun c E' m' => ∃ (v3 : Int), slices_EqualFunc_L_parse_Node_L_parse_Node_parse_Node_parse_Node__Same_l1 rec_parse_Same a0 a1 c v3 = some y4 ∧ E' 1 = .list .none (a1.map T_parse_Node.C) ∧ E' 2 = .fn (.func 18) [] [] ∧ E' 15 = .list .none (a0.map T_parse_Node.C) ∧ E' 16 = .lit (.int .i64 (a0.length : Int)) ∧ E' 17 = .lit (.int .i64 v3) ∧ m'.gl = m.gl ∧ m.back q m' = m) n ⟨(0 : Int), hy4, ?_⟩ ?_
    · simp only [go_sem, ↓reduceIte, Nat.reduceEqDiff, back_self]
    rintro i2 c5 E6 m7 ⟨v3, hy4, e8⟩ _
    rcases c5 with _ | c5
    · exact absurd hy4 (by rw [slices_EqualFunc_L_parse_Node_L_parse_Node_parse_Node_parse_Node__Same_l1]; exact fun e => nomatch e)
    rw [slices_EqualFunc_L_parse_Node_L_parse_Node_parse_Node_parse_Node__Same_l1] at hy4
    refine SW_seq ?_
    refine SW_reg fun K hK => ?_
    simp only [go_sem, e8]
    apply hK
    simp only [thenQ_normal]
    refine SW_seq ?_
    refine SW_if (decide (v3 < (a0.length : Int))) (by simp only [go_sem, ↓reduceIte]) (fun c9 => ?_) (fun c9 => ?_)
    · replace hy4 := ite_t c9 hy4
      refine SW_skip ?_
      try simp only [thenQ_normal]
      refine SW_seq ?_
      refine SW_block ?_
      refine SW_seq ?_
      obtain ⟨x10, h15, hy4⟩ := bind_some hy4
      obtain ⟨f12, f13, f14⟩ := idxL_some h15
      refine SW_reg fun K hK => ?_
      simp only [go_sem, ↓reduceIte, Nat.reduceEqDiff, Nat.reduceAdd, f12, f13, f14, e8]
      apply hK
      simp only [thenQ_normal]
      refine SW_seq ?_
      obtain ⟨x16, h21, hy4⟩ := bind_some hy4
      obtain ⟨f18, f19, f20⟩ := idxL_some h21
      refine SW_reg fun K hK => ?_
      simp only [go_sem, ↓reduceIte, Nat.reduceEqDiff, Nat.reduceAdd, f12, f19, f20, e8]
      apply hK
      simp only [thenQ_normal]
      refine SW_seq ?_
      obtain ⟨x22, h23, hy4⟩ := bind_some hy4
      refine SW_reg fun K hK => ?_
      simp only [go_sem, ↓reduceIte, Nat.reduceEqDiff, Nat.reduceAdd, e8]
      refine SC.by_ (hrec_parse_Same x10 x16 _ h23 _ _ _ (by simp only [go_sem])) ?_
      simp only [go_sem, ↓reduceIte, Nat.reduceAdd]
      apply hK
      simp only [thenQ_normal]
      refine SW_if (!x22) (by simp only [go_sem, ↓reduceIte]) (fun c24 => ?_) (fun c24 => ?_)
      · replace hy4 := ite_t c24 hy4
        refine SW_seq ?_
        refine SW_reg fun K hK => ?_
        simp only [go_sem, Nat.reduceAdd, c24]
        apply hK
        simp only [thenQ_normal]
        refine SW_ret ?_
        try simp only [thenQ_ret, blockQ_ret]
        obtain rfl := some_eq hy4
        simp only [Sum.elim_inr] at h
        obtain rfl := some_eq h
        refine ⟨by first | exact .inl rfl | exact .inl trivial | exact .inr rfl | exact .inr trivial, ?_⟩
        simp only [go_sem, ↓reduceIte, back_set, e8]
      · replace hy4 := ite_f c24 hy4
        refine SW_skip ?_
        try simp only [thenQ_normal, blockQ_normal]
        refine SW_reg fun K hK => ?_
        simp only [go_sem, ↓reduceIte, Nat.reduceEqDiff, Nat.reduceAdd, c24, e8]
        apply hK
        simp only [thenQ_normal]
        refine ⟨c5, Nat.lt_succ_self _, (IntKind.i64.wrap (v3 + (1 : Int))), hy4, ?_⟩
        simp only [go_sem, ↓reduceIte, Nat.reduceEqDiff, back_set, e8]
    · replace hy4 := ite_f c9 hy4
      refine SW_exit ?_
      try simp only [thenQ_exit, blockQ_exit, ↓reduceIte, thenQ_normal]
      obtain rfl := some_eq hy4
      simp only [Sum.elim_inl] at h
      refine SW_seq ?_
      refine SW_reg fun K hK => ?_
      simp only [go_sem, Nat.reduceAdd, c9]
      apply hK
      simp only [thenQ_normal]
      refine SW_ret ?_
      try simp only []
      obtain rfl := some_eq h
      refine ⟨by first | exact .inl rfl | exact .inl trivial | exact .inr rfl | exact .inr trivial, ?_⟩
      simp only [go_sem, ↓reduceIte, e8]

theorem parse_Same_grp_ok : ∀ n, parse_Same_C (parse_Same n) ∧ slices_EqualFunc_L_parse_Node_L_parse_Node_parse_Node_parse_Node__Same_C (slices_EqualFunc_L_parse_Node_L_parse_Node_parse_Node_parse_Node__Same n)
  | 0 => ⟨fun _ _ _ h => none_some_ h, fun _ _ _ h => none_some_ h⟩
  | n + 1 =>
    have ih := parse_Same_grp_ok n
    ⟨parse_Same_b_ok ih.2 n, slices_EqualFunc_L_parse_Node_L_parse_Node_parse_Node_parse_Node__Same_b_ok ih.1 n⟩
theorem parse_Same_ok (n : Nat) : parse_Same_C (parse_Same n) := (parse_Same_grp_ok n).1
def remontoirelaw10_ParseJoins_C (f : Str → Str → Option Bool) : Prop := ∀ (a0 : Str) (a1 : Str) (r : Bool), f a0 a1 = some r → ∀ (q : Pa) (m : M) (vs : List V), vs.map V.weak1 = [.list .none (byteRows a0), .list .none (byteRows a1)] ∧ m.gl 0 = .eptr [(cA cS g_parse_words)] 0 0 ∧ m.gl 3 = .eptr [(cA cS g_lex_signs)] 0 0 ∧ m.gl 6 = .eptr [(cA (cA cS) g_parse_levels)] 0 0 → SC Tryd.prog 7 vs q m (fun v m' => v = .lit (.bool r) ∧ m' = m)

theorem remontoirelaw10_ParseJoins_ok (n : Nat) : remontoirelaw10_ParseJoins_C (remontoirelaw10_ParseJoins n) := by
  rintro a0 a1 r h q m vs ⟨hv, hg0, hg3, hg6⟩
  refine SC.weak ?_
  rw [hv]
  refine SC_of Tryd.func7 rfl (fun xs w => Tryd.call7 xs w) Tryd.ntmps7 (by kernel_rfl) (congrArg Array.toList Tryd.results7) V.weak (fun _ _ _ => V.weak_ok) ?_
  unfold remontoirelaw10_ParseJoins at h
  refine SW_seq ?_
  refine SW_reg fun K hK => ?_
  simp only [go_sem]
  apply hK
  simp only [thenQ_normal]
  refine SW_seq ?_
  refine SW_seq ?_
  obtain ⟨x1, h2, h⟩ := bind_some h
  refine SW_reg fun K hK => ?_
  simp only [go_sem]
  refine SC.by_ (remontoirelaw10_anchor_ok n _ h2 _ _ _ (by simp only [go_sem, hg0, hg3, hg6])) ?_
  simp only [go_sem, ↓reduceIte, Nat.reduceAdd]
  apply hK
  simp only [thenQ_normal]
  refine SW_if (!x1) (by simp only [go_sem, ↓reduceIte]) (fun c3 => ?_) (fun c3 => ?_)
  · replace h := ite_t c3 h
    refine SW_seq ?_
    refine SW_reg fun K hK => ?_
    simp only [go_sem, Nat.reduceAdd, c3]
    apply hK
    simp only [thenQ_normal]
    refine SW_ret ?_
    try simp only [thenQ_ret]
    obtain rfl := some_eq h
    refine ⟨by first | exact .inl rfl | exact .inl trivial | exact .inr rfl | exact .inr trivial, ?_⟩
    simp only [go_sem, ↓reduceIte, back_self]
  · replace h := ite_f c3 h
    refine SW_skip ?_
    try simp only [thenQ_normal]
    refine SW_seq ?_
    refine SW_seq ?_
    obtain ⟨y4, hy4, h⟩ := bind_some h
    refine SW_joinK 11 [] [] rfl (fun E' m' => E' 0 = .list .none (byteRows a0) ∧ E' 1 = .list .none (byteRows a1) ∧ E' 23 = .lit (.bool y4) ∧ m'.gl = m.gl ∧ m.back q m' = m) ?_ ?_
    · rcases bool_or (decide ((2000 : Int) < (a0.length : Int))) with c5 | c5
      · replace hy4 := ite_t c5 hy4
        refine SW_reg fun K hK => ?_
        simp only [go_sem, ↓reduceIte, Nat.reduceEqDiff, Nat.reduceAdd, reduceCtorEq, c3, c5]
        apply hK
        simp only [thenQ_normal]
        obtain rfl := some_eq hy4
        refine ⟨by decide, ?_⟩
        simp only [go_sem, ↓reduceIte, Nat.reduceEqDiff, reduceCtorEq, back_self]
      · replace hy4 := ite_f c5 hy4
        refine SW_reg fun K hK => ?_
        simp only [go_sem, ↓reduceIte, Nat.reduceEqDiff, Nat.reduceAdd, reduceCtorEq, c3, c5]
        apply hK
        simp only [thenQ_normal]
        obtain rfl := some_eq hy4
        refine ⟨by decide, ?_⟩
        simp only [go_sem, ↓reduceIte, Nat.reduceEqDiff, reduceCtorEq, back_self]
    · intro E6 m7 e8 _
      simp only [thenQ_normal]
      refine SW_if y4 (by simp only [go_sem, e8]) (fun c9 => ?_) (fun c9 => ?_)
      · replace h := ite_t c9 h
        refine SW_seq ?_
        refine SW_reg fun K hK => ?_
        simp only [go_sem, Nat.reduceAdd]
        apply hK
        simp only [thenQ_normal]
        refine SW_ret ?_
        try simp only [thenQ_ret]
        obtain rfl := some_eq h
        refine ⟨by first | exact .inl rfl | exact .inl trivial | exact .inr rfl | exact .inr trivial, ?_⟩
        simp only [go_sem, ↓reduceIte, e8]
      · replace h := ite_f c9 h
        refine SW_skip ?_
        try simp only [thenQ_normal]
        refine SW_seq ?_
        obtain ⟨x10, h12, h⟩ := bind_some h
        refine SW_reg fun K hK => ?_
        simp only [go_sem, ↓reduceIte, Nat.reduceAdd, e8]
        refine SC.by_ (parse_Parse_ok n a0 _ h12 _ _ _ (by simp only [go_sem, e8, hg0, hg3, hg6])) ?_
        simp only [go_sem, ↓reduceIte, Nat.reduceEqDiff, Nat.reduceAdd]
        apply hK
        simp only [thenQ_normal]
        refine SW_seq ?_
        obtain ⟨x13, h15, h⟩ := bind_some h
        refine SW_reg fun K hK => ?_
        simp only [go_sem, ↓reduceIte, Nat.reduceEqDiff, Nat.reduceAdd, e8]
        refine SC.by_ (parse_Parse_ok n a1 _ h15 _ _ _ (by simp only [go_sem, e8, hg0, hg3, hg6])) ?_
        simp only [go_sem, ↓reduceIte, Nat.reduceEqDiff, Nat.reduceAdd]
        apply hK
        simp only [thenQ_normal]
        refine SW_seq ?_
        obtain ⟨f18, h⟩ := need_some h
        have f19 : a0.length ≤ 1073741824 := by first | omega | (simp only [List.length_append, List.length_cons, List.length_nil] at f18 ⊢; omega)
        obtain ⟨f20, h⟩ := need_some h
        have f21 : a0.length + 1 ≤ 1073741824 := by first | omega | (simp only [List.length_append, List.length_cons, List.length_nil] at f20 ⊢; omega)
        have f22 : a0.length ≤ 1073741823 := by first | omega | (simp only [List.length_append, List.length_cons, List.length_nil] at f20 ⊢; omega)
        obtain ⟨f23, h⟩ := need_some h
        have f24 : a0.length + 1 + a1.length ≤ 1073741824 := by first | omega | (simp only [List.length_append, List.length_cons, List.length_nil] at f23 ⊢; omega)
        obtain ⟨x16, h25, h⟩ := bind_some h
        refine SW_reg fun K hK => ?_
        simp only [go_sem, ↓reduceIte, Nat.reduceEqDiff, Nat.reduceAdd, Nat.reduceLT, Nat.reduceLeDiff, reduceCtorEq, f19, f21, f24, e8]
        refine SC.by_ (parse_Parse_ok n (((([] : Str) ++ a0) ++ ([10] : Str)) ++ a1) _ h25 _ _ _ (by simp only [go_sem, UInt8.reduceToNat, e8, hg0, hg3, hg6])) ?_
        simp only [go_sem, ↓reduceIte, Nat.reduceEqDiff, Nat.reduceAdd]
        apply hK
        simp only [thenQ_normal]
        refine SW_seq ?_
        refine SW_seq ?_
        obtain ⟨y26, hy26, h⟩ := bind_some h
        refine SW_joinK 53 [] [] rfl (fun E' m' => E' 5 = .ptr (17 :: q) 0 ∧ E' 8 = .ptr (27 :: q) 0 ∧ E' 11 = .ptr (43 :: q) 0 ∧ E' 12 = .lit (.int .i64 x16.2.1) ∧ E' 53 = .lit (.bool y26) ∧ m'.blk (17 :: q) = some ((T_parse_Node.C x10.1)) ∧ m'.blk (27 :: q) = some ((T_parse_Node.C x13.1)) ∧ m'.blk (43 :: q) = some ((T_parse_Node.C x16.1)) ∧ m'.gl = m.gl ∧ m.back q m' = m) ?_ ?_
        · rcases bool_or (x10.2.1 != (0 : Int)) with c27 | c27
          · replace hy26 := ite_t c27 hy26
            refine SW_reg fun K hK => ?_
            simp only [go_sem, ↓reduceIte, Nat.reduceEqDiff, Nat.reduceAdd, c27]
            apply hK
            simp only [thenQ_normal]
            obtain rfl := some_eq hy26
            refine ⟨by decide, ?_⟩
            simp only [go_sem, ↓reduceIte, Nat.reduceEqDiff, back_set, back_tokset, e8]
          · replace hy26 := ite_f c27 hy26
            refine SW_reg fun K hK => ?_
            simp only [go_sem, ↓reduceIte, Nat.reduceEqDiff, Nat.reduceAdd, c27]
            apply hK
            simp only [thenQ_normal]
            obtain rfl := some_eq hy26
            refine ⟨by decide, ?_⟩
            simp only [go_sem, ↓reduceIte, Nat.reduceEqDiff, back_set, back_tokset, e8]
        · intro E28 m29 e30 _
          simp only [thenQ_normal]
          refine SW_if y26 (by simp only [go_sem, e30]) (fun c31 => ?_) (fun c31 => ?_)
          · replace h := ite_t c31 h
            refine SW_seq ?_
            refine SW_reg fun K hK => ?_
            simp only [go_sem, Nat.reduceAdd]
            apply hK
            simp only [thenQ_normal]
            refine SW_ret ?_
            try simp only [thenQ_ret]
            obtain rfl := some_eq h
            refine ⟨by first | exact .inl rfl | exact .inl trivial | exact .inr rfl | exact .inr trivial, ?_⟩
            simp only [go_sem, ↓reduceIte, e30]
          · replace h := ite_f c31 h
            refine SW_skip ?_
            try simp only [thenQ_normal]
            refine SW_seq ?_
            refine SW_seq ?_
            refine SW_reg fun K hK => ?_
            simp only [go_sem, ↓reduceIte, Nat.reduceAdd, e30]
            apply hK
            simp only [thenQ_normal]
            refine SW_if (x16.2.1 != (0 : Int)) (by simp only [go_sem, ↓reduceIte]) (fun c32 => ?_) (fun c32 => ?_)
            · replace h := ite_t c32 h
              refine SW_seq ?_
              obtain ⟨y33, hy33, h⟩ := bind_some h
              refine SW_joinK 66 [] [] rfl (fun E' m' => E' 4 = .lit (.bool y33) ∧ m'.gl = m.gl ∧ m.back q m' = m) ?_ ?_
              · rcases bool_or (x16.2.1 == (136 : Int)) with c34 | c34
                · replace hy33 := ite_t c34 hy33
                  obtain ⟨x35, h37, hy33⟩ := bind_some hy33
                  obtain ⟨x36, h38, hy33⟩ := bind_some hy33
                  refine SW_drawK (tbl := [0, 1, 3, 7, 15, 7, 63, 127, 255, 511, 1023]) (ord := [(0, 0), (1, 0), (2, 0), (3, 0), (4, 0), (5, 1), (6, 0), (7, 0), (8, 0), (9, 0), (10, 0)]) 66 rfl (by kernel_rfl) (by kernel_rfl) fun K hK => ?_
                  simp only [go_sem, ↓reduceIte, Nat.reduceEqDiff, Nat.reduceAdd, c32, c34, e30]
                  refine dcall_of (parse_Count_ok n x10.1 _ h37 _ _ _ (by simp only [go_sem])) rfl ?_
                  simp only [go_sem, ↓reduceIte, Nat.reduceEqDiff, Nat.reduceAdd, e30]
                  refine dcall_of (parse_Count_ok n x13.1 _ h38 _ _ _ (by simp only [go_sem])) rfl ?_
                  simp only [go_sem, ↓reduceIte, Nat.reduceEqDiff]
                  apply hK
                  simp only [thenQ_normal]
                  obtain rfl := some_eq hy33
                  refine ⟨by decide, ?_⟩
                  simp only [go_sem, ↓reduceIte, e30]
                · replace hy33 := ite_f c34 hy33
                  refine SW_drawK (tbl := [0, 1, 3, 7, 15, 7, 63, 127, 255, 511, 1023]) (ord := [(0, 0), (1, 0), (2, 0), (3, 0), (4, 0), (5, 1), (6, 0), (7, 0), (8, 0), (9, 0), (10, 0)]) 66 rfl (by kernel_rfl) (by kernel_rfl) fun K hK => ?_
                  simp only [go_sem, ↓reduceIte, Nat.reduceEqDiff, c32, c34, e30]
                  apply hK
                  simp only [thenQ_normal]
                  obtain rfl := some_eq hy33
                  refine ⟨by decide, ?_⟩
                  simp only [go_sem, ↓reduceIte, e30]
              · intro E39 m40 e41 _
                simp only [thenQ_normal]
                refine SW_ret ?_
                try simp only [thenQ_ret]
                obtain rfl := some_eq h
                refine ⟨by first | exact .inl rfl | exact .inl trivial | exact .inr rfl | exact .inr trivial, ?_⟩
                simp only [go_sem, e41]
            · replace h := ite_f c32 h
              refine SW_skip ?_
              try simp only [thenQ_normal]
              refine SW_seq ?_
              obtain ⟨y42, hy42, h⟩ := bind_some h
              refine SW_joinK 77 [] [] rfl (fun E' m' => E' 4 = .lit (.bool y42) ∧ m'.gl = m.gl ∧ m.back q m' = m) ?_ ?_
              · obtain ⟨f44, hy42⟩ := need_some hy42
                have f45 : x10.1.List_.length ≤ 1073741824 := by first | omega | (simp only [List.length_append, List.length_cons, List.length_nil] at f44 ⊢; omega)
                obtain ⟨f46, hy42⟩ := need_some hy42
                have f47 : x10.1.List_.length + x13.1.List_.length ≤ 1073741824 := by first | omega | (simp only [List.length_append, List.length_cons, List.length_nil] at f46 ⊢; omega)
                obtain ⟨x43, h48, hy42⟩ := bind_some hy42
                rcases bool_or x43 with c49 | c49
                · replace hy42 := ite_t c49 hy42
                  obtain ⟨x50, h53, hy42⟩ := bind_some hy42
                  obtain ⟨x51, h54, hy42⟩ := bind_some hy42
                  obtain ⟨x52, h55, hy42⟩ := bind_some hy42
                  refine SW_drawK (tbl := [0, 0, 0, 4, 14, 0, 32, 126, 254, 511, 1023, 2047, 4095, 2047, 16383, 2047, 65535, 131071, 262143, 524287, 1048575, 2097151]) (ord := [(1, 0), (2, 0), (3, 0), (4, 0), (5, 0), (6, 1), (7, 0), (0, 2), (8, 0), (9, 0), (10, 0), (11, 0), (12, 0), (13, 1), (14, 0), (15, 2), (16, 0), (17, 0), (18, 0), (19, 0), (20, 0), (21, 0)]) 77 rfl (by kernel_rfl) (by kernel_rfl) fun K hK => ?_
                  simp only [go_sem, ↓reduceIte, Nat.reduceEqDiff, Nat.reduceAdd, Nat.reduceMul, Nat.reduceLT, Nat.reduceLeDiff, c32, f44, f46, e30]
                  refine dcall_of (parse_Same_ok n x16.1 (T_parse_Node.mk (1 : Int) (0 : Int) [] (0 : Int) (x10.1.List_ ++ x13.1.List_)) _ h48 _ _ _ (by simp only [go_sem])) rfl ?_
                  simp only [go_sem, ↓reduceIte, Nat.reduceEqDiff, Nat.reduceAdd, c49, e30]
                  refine dcall_of (parse_Count_ok n x16.1 _ h53 _ _ _ (by simp only [go_sem])) rfl ?_
                  simp only [go_sem, ↓reduceIte, Nat.reduceEqDiff, Nat.reduceAdd, e30]
                  refine dcall_of (parse_Count_ok n x10.1 _ h54 _ _ _ (by simp only [go_sem])) rfl ?_
                  simp only [go_sem, ↓reduceIte, Nat.reduceEqDiff, Nat.reduceAdd, e30]
                  refine dcall_of (parse_Count_ok n x13.1 _ h55 _ _ _ (by simp only [go_sem])) rfl ?_
                  simp only [go_sem, ↓reduceIte, Nat.reduceEqDiff]
                  apply hK
                  simp only [thenQ_normal]
                  obtain rfl := some_eq hy42
                  refine ⟨by decide, ?_⟩
                  simp only [go_sem, ↓reduceIte, back_tokset, e30]
                · replace hy42 := ite_f c49 hy42
                  refine SW_drawK (tbl := [0, 0, 0, 4, 14, 0, 32, 126, 254, 511, 1023, 2047, 4095, 2047, 16383, 2047, 65535, 131071, 262143, 524287, 1048575, 2097151]) (ord := [(1, 0), (2, 0), (3, 0), (4, 0), (5, 0), (6, 1), (7, 0), (0, 2), (8, 0), (9, 0), (10, 0), (11, 0), (12, 0), (13, 1), (14, 0), (15, 2), (16, 0), (17, 0), (18, 0), (19, 0), (20, 0), (21, 0)]) 77 rfl (by kernel_rfl) (by kernel_rfl) fun K hK => ?_
                  simp only [go_sem, ↓reduceIte, Nat.reduceEqDiff, Nat.reduceAdd, Nat.reduceMul, Nat.reduceLT, Nat.reduceLeDiff, c32, f44, f46, e30]
                  refine dcall_of (parse_Same_ok n x16.1 (T_parse_Node.mk (1 : Int) (0 : Int) [] (0 : Int) (x10.1.List_ ++ x13.1.List_)) _ h48 _ _ _ (by simp only [go_sem])) rfl ?_
                  simp only [go_sem, ↓reduceIte, Nat.reduceEqDiff, c49]
                  apply hK
                  simp only [thenQ_normal]
                  obtain rfl := some_eq hy42
                  refine ⟨by decide, ?_⟩
                  simp only [go_sem, ↓reduceIte, back_tokset, e30]
              · intro E56 m57 e58 _
                simp only [thenQ_normal]
                refine SW_ret ?_
                try simp only []
                obtain rfl := some_eq h
                refine ⟨by first | exact .inl rfl | exact .inl trivial | exact .inr rfl | exact .inr trivial, ?_⟩
                simp only [go_sem, e58]

end Go.Proofs.YtolhahlnccekcaaDoor.Abs
