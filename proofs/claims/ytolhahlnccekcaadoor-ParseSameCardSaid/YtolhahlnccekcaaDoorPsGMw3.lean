/-
  Walks: each function does what its model says. Written by a program of mine (gen.py) for this claim.
-/
import Derived.Test.YtolhahlnccekcaaDoorPsGMw2
import Derived.Test.YtolhahlnccekcaaDoorPsGMm
import Derived.Test.YtolhahlnccekcaaDoorPsFacts
namespace Go.Proofs.YtolhahlnccekcaaDoor.Abs
open Go.RowKit
set_option linter.unusedVariables false
set_option maxRecDepth 10000

def parse_Same_C (f : T_parse_Node → T_parse_Node → Option Bool) : Prop := ∀ (a0 : T_parse_Node) (a1 : T_parse_Node) (r : Bool), f a0 a1 = some r → ∀ (q : Pa) (m : M) (vs : List V), vs.map V.weak1 = [.agg ((T_parse_Node.C a0)), .agg ((T_parse_Node.C a1))] → SC Tryd.prog 18 vs q m (fun v m' => v = .lit (.bool r) ∧ m' = m)

def slices_EqualFunc_L_parse_Node_L_parse_Node_parse_Node_parse_Node__Same_C (f : (List T_parse_Node) → (List T_parse_Node) → Option Bool) : Prop := ∀ (a0 : (List T_parse_Node)) (a1 : (List T_parse_Node)) (r : Bool), f a0 a1 = some r → ∀ (q : Pa) (m : M) (vs : List V), vs.map V.weak1 = [.list .none (a0.map T_parse_Node.C), .list .none (a1.map T_parse_Node.C), .fn (.func 18) [] []] → SC Tryd.prog 33 vs q m (fun v m' => v = .lit (.bool r) ∧ m' = m)

theorem parse_Same_b_ok {rec_slices_EqualFunc_L_parse_Node_L_parse_Node_parse_Node_parse_Node__Same : (List T_parse_Node) → (List T_parse_Node) → Option Bool} (hrec_slices_EqualFunc_L_parse_Node_L_parse_Node_parse_Node_parse_Node__Same : slices_EqualFunc_L_parse_Node_L_parse_Node_parse_Node_parse_Node__Same_C rec_slices_EqualFunc_L_parse_Node_L_parse_Node_parse_Node_parse_Node__Same) (n : Nat) : parse_Same_C (parse_Same_b rec_slices_EqualFunc_L_parse_Node_L_parse_Node_parse_Node_parse_Node__Same n) := by
  intro a0 a1 r h q m vs hv
  refine SC.weak ?_
  rw [hv]
  refine SC_of Tryd.func18 rfl (fun xs w => Tryd.call18 xs w) Tryd.ntmps18 (by kernel_rfl) (congrArg Array.toList Tryd.results18) V.weak (fun _ _ _ => V.weak_ok) ?_
  unfold parse_Same_b at h
  refine SW_seq ?_
  refine SW_reg fun K hK => ?_
  simp only [go_sem, ↓reduceIte, Nat.reduceEqDiff, Nat.reduceAdd]
  apply hK
  simp only [thenQ_normal]
  refine SW_seq ?_
  obtain ⟨y3, hy3, h⟩ := bind_some h
  refine SW_joinK 30 [] [] rfl (fun E' m' => E' 4 = .lit (.bool y3) ∧ m'.gl = m.gl ∧ m.back q m' = m) ?_ ?_
  · rcases bool_or (a0.Kind_ == a1.Kind_) with c4 | c4
    · replace hy3 := ite_t c4 hy3
      rcases bool_or (decide (a0.Text_ = a1.Text_)) with c5 | c5
      · replace hy3 := ite_t c5 hy3
        rcases bool_or (a0.Num_ == a1.Num_) with c6 | c6
        · replace hy3 := ite_t c6 hy3
          obtain ⟨x7, h8, hy3⟩ := bind_some hy3
          refine SW_reg fun K hK => ?_
          simp only [go_sem, ↓reduceIte, Nat.reduceEqDiff, Nat.reduceAdd, c4, c5, c6]
          refine SC.by_ (hrec_slices_EqualFunc_L_parse_Node_L_parse_Node_parse_Node_parse_Node__Same a0.List_ a1.List_ _ h8 _ _ _ (by simp only [go_sem])) ?_
          simp only [go_sem, ↓reduceIte, Nat.reduceEqDiff, Nat.reduceAdd]
          apply hK
          simp only [thenQ_normal]
          obtain rfl := some_eq hy3
          refine ⟨by decide, ?_⟩
          simp only [go_sem, ↓reduceIte, back_set, back_self]
        · replace hy3 := ite_f c6 hy3
          refine SW_reg fun K hK => ?_
          simp only [go_sem, ↓reduceIte, Nat.reduceEqDiff, Nat.reduceAdd, c4, c5, c6]
          apply hK
          simp only [thenQ_normal]
          obtain rfl := some_eq hy3
          refine ⟨by decide, ?_⟩
          simp only [go_sem, ↓reduceIte, back_set, back_self]
      · replace hy3 := ite_f c5 hy3
        refine SW_reg fun K hK => ?_
        simp only [go_sem, ↓reduceIte, Nat.reduceEqDiff, Nat.reduceAdd, c4, c5]
        apply hK
        simp only [thenQ_normal]
        obtain rfl := some_eq hy3
        refine ⟨by decide, ?_⟩
        simp only [go_sem, ↓reduceIte, back_set, back_self]
    · replace hy3 := ite_f c4 hy3
      refine SW_reg fun K hK => ?_
      simp only [go_sem, ↓reduceIte, Nat.reduceEqDiff, Nat.reduceAdd, c4]
      apply hK
      simp only [thenQ_normal]
      obtain rfl := some_eq hy3
      refine ⟨by decide, ?_⟩
      simp only [go_sem, ↓reduceIte, back_set, back_self]
  · intro E9 m10 e11 _
    simp only [thenQ_normal]
    refine SW_ret ?_
    try simp only []
    obtain rfl := some_eq h
    refine ⟨by first | exact .inl rfl | exact .inl trivial | exact .inr rfl | exact .inr trivial, ?_⟩
    simp only [go_sem, e11]

theorem slices_EqualFunc_L_parse_Node_L_parse_Node_parse_Node_parse_Node__Same_b_ok {rec_parse_Same : T_parse_Node → T_parse_Node → Option Bool} (hrec_parse_Same : parse_Same_C rec_parse_Same) (n : Nat) : slices_EqualFunc_L_parse_Node_L_parse_Node_parse_Node_parse_Node__Same_C (slices_EqualFunc_L_parse_Node_L_parse_Node_parse_Node_parse_Node__Same_b rec_parse_Same n) := by
  intro a0 a1 r h q m vs hv
  refine SC.weak ?_
  rw [hv]
  refine SC_of Tryd.func33 rfl (fun xs w => Tryd.call33 xs w) Tryd.ntmps33 (by kernel_rfl) (congrArg Array.toList Tryd.results33) V.weak (fun _ _ _ => V.weak_ok) ?_
  unfold slices_EqualFunc_L_parse_Node_L_parse_Node_parse_Node_parse_Node__Same_b at h
  refine SW_seq ?_
  refine SW_reg fun K hK => ?_
  simp only [go_sem]
  apply hK
  simp only [thenQ_normal]
  refine SW_seq ?_
  refine SW_seq ?_
  refine SW_reg fun K hK => ?_
  simp only [go_sem, ↓reduceIte, Nat.reduceEqDiff, Nat.reduceAdd, reduceCtorEq]
  apply hK
  simp only [thenQ_normal]
  refine SW_if ((a0.length : Int) != (a1.length : Int)) (by simp only [go_sem, ↓reduceIte]) (fun c1 => ?_) (fun c1 => ?_)
  · replace h := ite_t c1 h
    refine SW_seq ?_
    refine SW_reg fun K hK => ?_
    simp only [go_sem, Nat.reduceAdd, c1]
    apply hK
    simp only [thenQ_normal]
    refine SW_ret ?_
    try simp only [thenQ_ret]
    obtain rfl := some_eq h
    refine ⟨by first | exact .inl rfl | exact .inl trivial | exact .inr rfl | exact .inr trivial, ?_⟩
    simp only [go_sem, ↓reduceIte, back_self]
  · replace h := ite_f c1 h
    refine SW_skip ?_
    try simp only [thenQ_normal]
    refine SW_seq ?_
    refine SW_seq ?_
    refine SW_reg fun K hK => ?_
    simp only [go_sem, ↓reduceIte, Nat.reduceAdd, reduceCtorEq, c1]
    apply hK
    simp only [thenQ_normal]
    refine SW_block ?_
    obtain ⟨y4, hy4, h⟩ := bind_some h
    refine SW_countW [] [] rfl (fun c E' m' => ∃ (v3 : Int), slices_EqualFunc_L_parse_Node_L_parse_Node_parse_Node_parse_Node__Same_l1 rec_parse_Same a0 a1 c v3 = some y4 ∧ E' 1 = .list .none (a1.map T_parse_Node.C) ∧ E' 2 = .fn (.func 18) [] [] ∧ E' 15 = .list .none (a0.map T_parse_Node.C) ∧ E' 16 = .lit (.int .i64 (a0.length : Int)) ∧ E' 17 = .lit (.int .i64 v3) ∧ m'.gl = m.gl ∧ m.back q m' = m) n ⟨(0 : Int), hy4, ?_⟩ ?_
    · simp only [go_sem, ↓reduceIte, Nat.reduceEqDiff, back_self]
    rintro i2 c5 E6 m7 ⟨v3, hy4, e8⟩ _
    rcases c5 with _ | c5
    · exact absurd hy4 (by rw [slices_EqualFunc_L_parse_Node_L_parse_Node_parse_Node_parse_Node__Same_l1]; exact fun e => nomatch e)
    rw [slices_EqualFunc_L_parse_Node_L_parse_Node_parse_Node_parse_Node__Same_l1] at hy4
    refine SW_seq ?_
    refine SW_reg fun K hK => ?_
    simp only [go_sem, e8]
    apply hK
    simp only [thenQ_normal]
    refine SW_seq ?_
    refine SW_if (decide (v3 < (a0.length : Int))) (by simp only [go_sem, ↓reduceIte]) (fun c9 => ?_) (fun c9 => ?_)
    · replace hy4 := ite_t c9 hy4
      refine SW_skip ?_
      try simp only [thenQ_normal]
      refine SW_seq ?_
      refine SW_block ?_
      refine SW_seq ?_
      obtain ⟨x10, h15, hy4⟩ := bind_some hy4
      obtain ⟨f12, f13, f14⟩ := idxL_some h15
      refine SW_reg fun K hK => ?_
      simp only [go_sem, ↓reduceIte, Nat.reduceEqDiff, Nat.reduceAdd, f12, f13, f14, e8]
      apply hK
      simp only [thenQ_normal]
      refine SW_seq ?_
      obtain ⟨x16, h21, hy4⟩ := bind_some hy4
      obtain ⟨f18, f19, f20⟩ := idxL_some h21
      refine SW_reg fun K hK => ?_
      simp only [go_sem, ↓reduceIte, Nat.reduceEqDiff, Nat.reduceAdd, f12, f19, f20, e8]
      apply hK
      simp only [thenQ_normal]
      refine SW_seq ?_
      obtain ⟨x22, h23, hy4⟩ := bind_some hy4
      refine SW_reg fun K hK => ?_
      simp only [go_sem, ↓reduceIte, Nat.reduceEqDiff, Nat.reduceAdd, e8]
      refine SC.by_ (hrec_parse_Same x10 x16 _ h23 _ _ _ (by simp only [go_sem])) ?_
      simp only [go_sem, ↓reduceIte, Nat.reduceAdd]
      apply hK
      simp only [thenQ_normal]
      refine SW_if (!x22) (by simp only [go_sem, ↓reduceIte]) (fun c24 => ?_) (fun c24 => ?_)
      · replace hy4 := ite_t c24 hy4
        refine SW_seq ?_
        refine SW_reg fun K hK => ?_
        simp only [go_sem, Nat.reduceAdd, c24]
        apply hK
        simp only [thenQ_normal]
        refine SW_ret ?_
        try simp only [thenQ_ret, blockQ_ret]
        obtain rfl := some_eq hy4
        simp only [Sum.elim_inr] at h
        obtain rfl := some_eq h
        refine ⟨by first | exact .inl rfl | exact .inl trivial | exact .inr rfl | exact .inr trivial, ?_⟩
        simp only [go_sem, ↓reduceIte, back_set, e8]
      · replace hy4 := ite_f c24 hy4
        refine SW_skip ?_
        try simp only [thenQ_normal, blockQ_normal]
        refine SW_reg fun K hK => ?_
        simp only [go_sem, ↓reduceIte, Nat.reduceEqDiff, Nat.reduceAdd, c24, e8]
        apply hK
        simp only [thenQ_normal]
        refine ⟨c5, Nat.lt_succ_self _, (IntKind.i64.wrap (v3 + (1 : Int))), hy4, ?_⟩
        simp only [go_sem, ↓reduceIte, Nat.reduceEqDiff, back_set, e8]
    · replace hy4 := ite_f c9 hy4
      refine SW_exit ?_
      try simp only [thenQ_exit, blockQ_exit, ↓reduceIte, thenQ_normal]
      obtain rfl := some_eq hy4
      simp only [Sum.elim_inl] at h
      refine SW_seq ?_
      refine SW_reg fun K hK => ?_
      simp only [go_sem, Nat.reduceAdd, c9]
      apply hK
      simp only [thenQ_normal]
      refine SW_ret ?_
      try simp only []
      obtain rfl := some_eq h
      refine ⟨by first | exact .inl rfl | exact .inl trivial | exact .inr rfl | exact .inr trivial, ?_⟩
      simp only [go_sem, ↓reduceIte, e8]

theorem parse_Same_grp_ok : ∀ n, parse_Same_C (parse_Same n) ∧ slices_EqualFunc_L_parse_Node_L_parse_Node_parse_Node_parse_Node__Same_C (slices_EqualFunc_L_parse_Node_L_parse_Node_parse_Node_parse_Node__Same n)
  | 0 => ⟨fun _ _ _ h => none_some_ h, fun _ _ _ h => none_some_ h⟩
  | n + 1 =>
    have ih := parse_Same_grp_ok n
    ⟨parse_Same_b_ok ih.2 n, slices_EqualFunc_L_parse_Node_L_parse_Node_parse_Node_parse_Node__Same_b_ok ih.1 n⟩
theorem parse_Same_ok (n : Nat) : parse_Same_C (parse_Same n) := (parse_Same_grp_ok n).1
end Go.Proofs.YtolhahlnccekcaaDoor.Abs
