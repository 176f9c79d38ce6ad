/-
  Walks: each function does what its model says. Written by a program of mine (gen.py) for this claim.
-/
import Derived.Test.YtolhahlnccekcaaDoorPwGMw2
import Derived.Test.YtolhahlnccekcaaDoorPwGMm
import Derived.Test.YtolhahlnccekcaaDoorPwFacts
import Derived.Test.YtolhahlnccekcaaDoorPwSv7
namespace Go.Proofs.YtolhahlnccekcaaDoor.Abs
open Go.RowKit
set_option linter.unusedVariables false
set_option maxRecDepth 10000

def parse_Same_C (f : T_parse_Node → T_parse_Node → Option Bool) : Prop := ∀ (a0 : T_parse_Node) (a1 : T_parse_Node) (r : Bool), f a0 a1 = some r → ∀ (q : Pa) (m : M) (vs : List V), vs.map V.weak1 = [.agg ((T_parse_Node.C a0)), .agg ((T_parse_Node.C a1))] → SC Tryd.prog 18 vs q m (fun v m' => v = .lit (.bool r) ∧ m' = m)

def slices_EqualFunc_L_parse_Node_L_parse_Node_parse_Node_parse_Node__Same_C (f : (List T_parse_Node) → (List T_parse_Node) → Option Bool) : Prop := ∀ (a0 : (List T_parse_Node)) (a1 : (List T_parse_Node)) (r : Bool), f a0 a1 = some r → ∀ (q : Pa) (m : M) (vs : List V), vs.map V.weak1 = [.list .none (a0.map T_parse_Node.C), .list .none (a1.map T_parse_Node.C), .fn (.func 18) [] []] → SC Tryd.prog 33 vs q m (fun v m' => v = .lit (.bool r) ∧ m' = m)

theorem parse_Same_b_ok {rec_slices_EqualFunc_L_parse_Node_L_parse_Node_parse_Node_parse_Node__Same : (List T_parse_Node) → (List T_parse_Node) → Option Bool} (hrec_slices_EqualFunc_L_parse_Node_L_parse_Node_parse_Node_parse_Node__Same : slices_EqualFunc_L_parse_Node_L_parse_Node_parse_Node_parse_Node__Same_C rec_slices_EqualFunc_L_parse_Node_L_parse_Node_parse_Node_parse_Node__Same) (n : Nat) : parse_Same_C (parse_Same_b rec_slices_EqualFunc_L_parse_Node_L_parse_Node_parse_Node_parse_Node__Same n) := by
  intro a0 a1 r h q m vs hv
  refine SC.weak ?_
  rw [hv]
  refine SC_of Tryd.func18 rfl (fun xs w => Tryd.call18 xs w) Tryd.ntmps18 (by kernel_rfl) (congrArg Array.toList Tryd.results18) V.weak (fun _ _ _ => V.weak_ok) ?_
  unfold parse_Same_b at h
  refine SW_seq ?_
  refine SW_reg fun K hK => ?_
  simp only [go_sem, ↓reduceIte, Nat.reduceEqDiff, Nat.reduceAdd]
  apply hK
  simp only [thenQ_normal]
  refine SW_seq ?_
  obtain ⟨y3, hy3, h⟩ := bind_some h
  refine SW_joinK 30 [] [] rfl (fun E' m' => E' 4 = .lit (.bool y3) ∧ m'.gl = m.gl ∧ m.back q m' = m) ?_ ?_
  · rcases bool_or (a0.Kind_ == a1.Kind_) with c4 | c4
    · replace hy3 := ite_t c4 hy3
      rcases bool_or (decide (a0.Text_ = a1.Text_)) with c5 | c5
      · replace hy3 := ite_t c5 hy3
        rcases bool_or (a0.Num_ == a1.Num_) with c6 | c6
        · replace hy3 := ite_t c6 hy3
          obtain ⟨x7, h8, hy3⟩ := bind_some hy3
          refine SW_reg fun K hK => ?_
          simp only [go_sem, ↓reduceIte, Nat.reduceEqDiff, Nat.reduceAdd, c4, c5, c6]
          refine SC.by_ (hrec_slices_EqualFunc_L_parse_Node_L_parse_Node_parse_Node_parse_Node__Same a0.List_ a1.List_ _ h8 _ _ _ (by simp only [go_sem])) ?_
          simp only [go_sem, ↓reduceIte, Nat.reduceEqDiff, Nat.reduceAdd]
          apply hK
          simp only [thenQ_normal]
          obtain rfl := some_eq hy3
          refine ⟨by decide, ?_⟩
          simp only [go_sem, ↓reduceIte, back_set, back_self]
        · replace hy3 := ite_f c6 hy3
          refine SW_reg fun K hK => ?_
          simp only [go_sem, ↓reduceIte, Nat.reduceEqDiff, Nat.reduceAdd, c4, c5, c6]
          apply hK
          simp only [thenQ_normal]
          obtain rfl := some_eq hy3
          refine ⟨by decide, ?_⟩
          simp only [go_sem, ↓reduceIte, back_set, back_self]
      · replace hy3 := ite_f c5 hy3
        refine SW_reg fun K hK => ?_
        simp only [go_sem, ↓reduceIte, Nat.reduceEqDiff, Nat.reduceAdd, c4, c5]
        apply hK
        simp only [thenQ_normal]
        obtain rfl := some_eq hy3
        refine ⟨by decide, ?_⟩
        simp only [go_sem, ↓reduceIte, back_set, back_self]
    · replace hy3 := ite_f c4 hy3
      refine SW_reg fun K hK => ?_
      simp only [go_sem, ↓reduceIte, Nat.reduceEqDiff, Nat.reduceAdd, c4]
      apply hK
      simp only [thenQ_normal]
      obtain rfl := some_eq hy3
      refine ⟨by decide, ?_⟩
      simp only [go_sem, ↓reduceIte, back_set, back_self]
  · intro E9 m10 e11 _
    simp only [thenQ_normal]
    refine SW_ret ?_
    try simp only []
    obtain rfl := some_eq h
    refine ⟨by first | exact .inl rfl | exact .inl trivial | exact .inr rfl | exact .inr trivial, ?_⟩
    simp only [go_sem, e11]

theorem slices_EqualFunc_L_parse_Node_L_parse_Node_parse_Node_parse_Node__Same_b_ok {rec_parse_Same : T_parse_Node → T_parse_Node → Option Bool} (hrec_parse_Same : parse_Same_C rec_parse_Same) (n : Nat) : slices_EqualFunc_L_parse_Node_L_parse_Node_parse_Node_parse_Node__Same_C (slices_EqualFunc_L_parse_Node_L_parse_Node_parse_Node_parse_Node__Same_b rec_parse_Same n) := by
  intro a0 a1 r h q m vs hv
  refine SC.weak ?_
  rw [hv]
  refine SC_of Tryd.func33 rfl (fun xs w => Tryd.call33 xs w) Tryd.ntmps33 (by kernel_rfl) (congrArg Array.toList Tryd.results33) V.weak (fun _ _ _ => V.weak_ok) ?_
  unfold slices_EqualFunc_L_parse_Node_L_parse_Node_parse_Node_parse_Node__Same_b at h
  refine SW_seq ?_
  refine SW_reg fun K hK => ?_
  simp only [go_sem]
  apply hK
  simp only [thenQ_normal]
  refine SW_seq ?_
  refine SW_seq ?_
  refine SW_reg fun K hK => ?_
  simp only [go_sem, ↓reduceIte, Nat.reduceEqDiff, Nat.reduceAdd, reduceCtorEq]
  apply hK
  simp only [thenQ_normal]
  refine SW_if ((a0.length : Int) != (a1.length : Int)) (by simp only [go_sem, ↓reduceIte]) (fun c1 => ?_) (fun c1 => ?_)
  · replace h := ite_t c1 h
    refine SW_seq ?_
    refine SW_reg fun K hK => ?_
    simp only [go_sem, Nat.reduceAdd, c1]
    apply hK
    simp only [thenQ_normal]
    refine SW_ret ?_
    try simp only [thenQ_ret]
    obtain rfl := some_eq h
    refine ⟨by first | exact .inl rfl | exact .inl trivial | exact .inr rfl | exact .inr trivial, ?_⟩
    simp only [go_sem, ↓reduceIte, back_self]
  · replace h := ite_f c1 h
    refine SW_skip ?_
    try simp only [thenQ_normal]
    refine SW_seq ?_
    refine SW_seq ?_
    refine SW_reg fun K hK => ?_
    simp only [go_sem, ↓reduceIte, Nat.reduceAdd, reduceCtorEq, c1]
    apply hK
    simp only [thenQ_normal]
    refine SW_block ?_
    obtain ⟨y4, hy4, h⟩ := bind_some h
    refine SW_countW [] [] rfl (fun c E' m' => ∃ (v3 : Int), slices_EqualFunc_L_parse_Node_L_parse_Node_parse_Node_parse_Node__Same_l1 rec_parse_Same a0 a1 c v3 = some y4 ∧ E' 1 = .list .none (a1.map T_parse_Node.C) ∧ E' 2 = .fn (.func 18) [] [] ∧ E' 15 = .list .none (a0.map T_parse_Node.C) ∧ E' 16 = .lit (.int .i64 (a0.length : Int)) ∧ E' 17 = .lit (.int .i64 v3) ∧ m'.gl = m.gl ∧ m.back q m' = m) n ⟨(0 : Int), hy4, ?_⟩ ?_
    · simp only [go_sem, ↓reduceIte, Nat.reduceEqDiff, back_self]
    rintro i2 c5 E6 m7 ⟨v3, hy4, e8⟩ _
    rcases c5 with _ | c5
    · exact absurd hy4 (by rw [slices_EqualFunc_L_parse_Node_L_parse_Node_parse_Node_parse_Node__Same_l1]; exact fun e => nomatch e)
    rw [slices_EqualFunc_L_parse_Node_L_parse_Node_parse_Node_parse_Node__Same_l1] at hy4
    refine SW_seq ?_
    refine SW_reg fun K hK => ?_
    simp only [go_sem, e8]
    apply hK
    simp only [thenQ_normal]
    refine SW_seq ?_
    refine SW_if (decide (v3 < (a0.length : Int))) (by simp only [go_sem, ↓reduceIte]) (fun c9 => ?_) (fun c9 => ?_)
    · replace hy4 := ite_t c9 hy4
      refine SW_skip ?_
      try simp only [thenQ_normal]
      refine SW_seq ?_
      refine SW_block ?_
      refine SW_seq ?_
      obtain ⟨x10, h15, hy4⟩ := bind_some hy4
      obtain ⟨f12, f13, f14⟩ := idxL_some h15
      refine SW_reg fun K hK => ?_
      simp only [go_sem, ↓reduceIte, Nat.reduceEqDiff, Nat.reduceAdd, f12, f13, f14, e8]
      apply hK
      simp only [thenQ_normal]
      refine SW_seq ?_
      obtain ⟨x16, h21, hy4⟩ := bind_some hy4
      obtain ⟨f18, f19, f20⟩ := idxL_some h21
      refine SW_reg fun K hK => ?_
      simp only [go_sem, ↓reduceIte, Nat.reduceEqDiff, Nat.reduceAdd, f12, f19, f20, e8]
      apply hK
      simp only [thenQ_normal]
      refine SW_seq ?_
      obtain ⟨x22, h23, hy4⟩ := bind_some hy4
      refine SW_reg fun K hK => ?_
      simp only [go_sem, ↓reduceIte, Nat.reduceEqDiff, Nat.reduceAdd, e8]
      refine SC.by_ (hrec_parse_Same x10 x16 _ h23 _ _ _ (by simp only [go_sem])) ?_
      simp only [go_sem, ↓reduceIte, Nat.reduceAdd]
      apply hK
      simp only [thenQ_normal]
      refine SW_if (!x22) (by simp only [go_sem, ↓reduceIte]) (fun c24 => ?_) (fun c24 => ?_)
      · replace hy4 := ite_t c24 hy4
        refine SW_seq ?_
        refine SW_reg fun K hK => ?_
        simp only [go_sem, Nat.reduceAdd, c24]
        apply hK
        simp only [thenQ_normal]
        refine SW_ret ?_
        try simp only [thenQ_ret, blockQ_ret]
        obtain rfl := some_eq hy4
        simp only [Sum.elim_inr] at h
        obtain rfl := some_eq h
        refine ⟨by first | exact .inl rfl | exact .inl trivial | exact .inr rfl | exact .inr trivial, ?_⟩
        simp only [go_sem, ↓reduceIte, back_set, e8]
      · replace hy4 := ite_f c24 hy4
        refine SW_skip ?_
        try simp only [thenQ_normal, blockQ_normal]
        refine SW_reg fun K hK => ?_
        simp only [go_sem, ↓reduceIte, Nat.reduceEqDiff, Nat.reduceAdd, c24, e8]
        apply hK
        simp only [thenQ_normal]
        refine ⟨c5, Nat.lt_succ_self _, (IntKind.i64.wrap (v3 + (1 : Int))), hy4, ?_⟩
        simp only [go_sem, ↓reduceIte, Nat.reduceEqDiff, back_set, e8]
    · replace hy4 := ite_f c9 hy4
      refine SW_exit ?_
      try simp only [thenQ_exit, blockQ_exit, ↓reduceIte, thenQ_normal]
      obtain rfl := some_eq hy4
      simp only [Sum.elim_inl] at h
      refine SW_seq ?_
      refine SW_reg fun K hK => ?_
      simp only [go_sem, Nat.reduceAdd, c9]
      apply hK
      simp only [thenQ_normal]
      refine SW_ret ?_
      try simp only []
      obtain rfl := some_eq h
      refine ⟨by first | exact .inl rfl | exact .inl trivial | exact .inr rfl | exact .inr trivial, ?_⟩
      simp only [go_sem, ↓reduceIte, e8]

theorem parse_Same_grp_ok : ∀ n, parse_Same_C (parse_Same n) ∧ slices_EqualFunc_L_parse_Node_L_parse_Node_parse_Node_parse_Node__Same_C (slices_EqualFunc_L_parse_Node_L_parse_Node_parse_Node_parse_Node__Same n)
  | 0 => ⟨fun _ _ _ h => none_some_ h, fun _ _ _ h => none_some_ h⟩
  | n + 1 =>
    have ih := parse_Same_grp_ok n
    ⟨parse_Same_b_ok ih.2 n, slices_EqualFunc_L_parse_Node_L_parse_Node_parse_Node_parse_Node__Same_b_ok ih.1 n⟩
theorem parse_Same_ok (n : Nat) : parse_Same_C (parse_Same n) := (parse_Same_grp_ok n).1
def strings_Join_C (f : (List Str) → Str → Option Str) : Prop := ∀ (a0 : (List Str)) (a1 : Str) (r : Str), f a0 a1 = some r → ∀ (q : Pa) (m : M) (vs : List V), vs.map V.weak1 = [.list .none (a0.map cS), .lit (.string (bs a1))] → SC Tryd.prog 97 vs q m (fun v m' => v = .lit (.string (bs r)) ∧ m' = m)
theorem strings_Join_ok : strings_Join_C strings_Join := by
  intro a0 a1 r h q m vs hv
  refine SC.weak ?_
  rw [hv]
  unfold strings_Join at h
  obtain ⟨⟨h0, h1⟩, h⟩ := need_some h
  obtain rfl := some_eq h
  exact join_sc h0 h1

def parse_digits_C (f : Int → Option Str) : Prop := ∀ (a0 : Int) (r : Str), f a0 = some r → ∀ (q : Pa) (m : M) (vs : List V), vs.map V.weak1 = [.lit (.int .u32 a0)] ∧ m.gl 5 = .eptr [(cA (cI .u64) g_internal_strconv_uint64pow10)] 0 0 → SC Tryd.prog 67 vs q m (fun v m' => v = .lit (.string (bs r)) ∧ m' = m)
theorem parse_digits_ok : parse_digits_C parse_digits := by
  rintro a0 r h q m vs ⟨hv, hg⟩
  refine SC.weak ?_
  rw [hv]
  unfold parse_digits at h
  obtain ⟨⟨h0, h1⟩, h⟩ := need_some h
  obtain rfl := some_eq h
  exact digits_sc h0 h1 hg (by decide)

def parse_text_C (f : T_parse_Node → Option Str) : Prop := ∀ (a0 : T_parse_Node) (r : Str), f a0 = some r → ∀ (q : Pa) (m : M) (vs : List V), vs.map V.weak1 = [.agg ((T_parse_Node.C a0))] ∧ m.gl 1 = .eptr [(cA cS g_parse_kinds)] 0 0 ∧ m.gl 5 = .eptr [(cA (cI .u64) g_internal_strconv_uint64pow10)] 0 0 → SC Tryd.prog 34 vs q m (fun v m' => v = .lit (.string (bs r)) ∧ m' = m)

def parse_several_C (f : (List T_parse_Node) → Option Str) : Prop := ∀ (a0 : (List T_parse_Node)) (r : Str), f a0 = some r → ∀ (q : Pa) (m : M) (vs : List V), vs.map V.weak1 = [.list .none (a0.map T_parse_Node.C)] ∧ m.gl 1 = .eptr [(cA cS g_parse_kinds)] 0 0 ∧ m.gl 5 = .eptr [(cA (cI .u64) g_internal_strconv_uint64pow10)] 0 0 → SC Tryd.prog 64 vs q m (fun v m' => v = .lit (.string (bs r)) ∧ m' = m)

def parse_function_C (f : T_parse_Node → Option Str) : Prop := ∀ (a0 : T_parse_Node) (r : Str), f a0 = some r → ∀ (q : Pa) (m : M) (vs : List V), vs.map V.weak1 = [.agg ((T_parse_Node.C a0))] ∧ m.gl 1 = .eptr [(cA cS g_parse_kinds)] 0 0 ∧ m.gl 5 = .eptr [(cA (cI .u64) g_internal_strconv_uint64pow10)] 0 0 → SC Tryd.prog 65 vs q m (fun v m' => v = .lit (.string (bs r)) ∧ m' = m)

def parse_param_C (f : T_parse_Node → Option Str) : Prop := ∀ (a0 : T_parse_Node) (r : Str), f a0 = some r → ∀ (q : Pa) (m : M) (vs : List V), vs.map V.weak1 = [.agg ((T_parse_Node.C a0))] ∧ m.gl 1 = .eptr [(cA cS g_parse_kinds)] 0 0 ∧ m.gl 5 = .eptr [(cA (cI .u64) g_internal_strconv_uint64pow10)] 0 0 → SC Tryd.prog 66 vs q m (fun v m' => v = .lit (.string (bs r)) ∧ m' = m)

def parse_at_C (f : T_parse_Node → Int → Option Str) : Prop := ∀ (a0 : T_parse_Node) (a1 : Int) (r : Str), f a0 a1 = some r → ∀ (q : Pa) (m : M) (vs : List V), vs.map V.weak1 = [.agg ((T_parse_Node.C a0)), .lit (.int .i64 a1)] ∧ m.gl 1 = .eptr [(cA cS g_parse_kinds)] 0 0 ∧ m.gl 5 = .eptr [(cA (cI .u64) g_internal_strconv_uint64pow10)] 0 0 → SC Tryd.prog 68 vs q m (fun v m' => v = .lit (.string (bs r)) ∧ m' = m)

def parse_all_C (f : (List T_parse_Node) → Option Str) : Prop := ∀ (a0 : (List T_parse_Node)) (r : Str), f a0 = some r → ∀ (q : Pa) (m : M) (vs : List V), vs.map V.weak1 = [.list .none (a0.map T_parse_Node.C)] ∧ m.gl 1 = .eptr [(cA cS g_parse_kinds)] 0 0 ∧ m.gl 5 = .eptr [(cA (cI .u64) g_internal_strconv_uint64pow10)] 0 0 → SC Tryd.prog 69 vs q m (fun v m' => v = .lit (.string (bs r)) ∧ m' = m)

def parse_statement_C (f : T_parse_Node → Option Str) : Prop := ∀ (a0 : T_parse_Node) (r : Str), f a0 = some r → ∀ (q : Pa) (m : M) (vs : List V), vs.map V.weak1 = [.agg ((T_parse_Node.C a0))] ∧ m.gl 1 = .eptr [(cA cS g_parse_kinds)] 0 0 ∧ m.gl 5 = .eptr [(cA (cI .u64) g_internal_strconv_uint64pow10)] 0 0 → SC Tryd.prog 70 vs q m (fun v m' => v = .lit (.string (bs r)) ∧ m' = m)

theorem parse_text_b_ok {rec_parse_several : (List T_parse_Node) → Option Str} (hrec_parse_several : parse_several_C rec_parse_several) {rec_parse_function : T_parse_Node → Option Str} (hrec_parse_function : parse_function_C rec_parse_function) {rec_parse_param : T_parse_Node → Option Str} (hrec_parse_param : parse_param_C rec_parse_param) {rec_parse_at : T_parse_Node → Int → Option Str} (hrec_parse_at : parse_at_C rec_parse_at) {rec_parse_all : (List T_parse_Node) → Option Str} (hrec_parse_all : parse_all_C rec_parse_all) {rec_parse_statement : T_parse_Node → Option Str} (hrec_parse_statement : parse_statement_C rec_parse_statement) (n : Nat) : parse_text_C (parse_text_b rec_parse_several rec_parse_function rec_parse_param rec_parse_at rec_parse_all rec_parse_statement n) := by
  rintro a0 r h q m vs ⟨hv, hg1, hg5⟩
  refine SC.weak ?_
  rw [hv]
  refine SC_of Tryd.func34 rfl (fun xs w => Tryd.call34 xs w) Tryd.ntmps34 (by kernel_rfl) (congrArg Array.toList Tryd.results34) V.weak (fun _ _ _ => V.weak_ok) ?_
  unfold parse_text_b at h
  refine SW_seq ?_
  refine SW_reg fun K hK => ?_
  simp only [go_sem, Nat.reduceAdd]
  apply hK
  simp only [thenQ_normal]
  refine SW_seq ?_
  refine SW_seq ?_
  refine SW_reg fun K hK => ?_
  simp only [go_sem, ↓reduceIte, Nat.reduceEqDiff, Nat.reduceAdd]
  apply hK
  simp only [thenQ_normal]
  refine SW_block ?_
  refine SW_seq ?_
  refine SW_reg fun K hK => ?_
  simp only [go_sem, ↓reduceIte, Nat.reduceAdd]
  apply hK
  simp only [thenQ_normal]
  refine SW_if (a0.Kind_ == (1 : Int)) (by simp only [go_sem, ↓reduceIte]) (fun c2 => ?_) (fun c2 => ?_)
  · replace h := ite_t c2 h
    refine SW_seq ?_
    obtain ⟨x3, h4, h⟩ := bind_some h
    refine SW_reg fun K hK => ?_
    simp only [go_sem, ↓reduceIte, Nat.reduceEqDiff, Nat.reduceAdd, c2]
    refine SC.by_ (hrec_parse_several a0.List_ _ h4 _ _ _ (by simp only [go_sem, hg1, hg5])) ?_
    simp only [go_sem, ↓reduceIte, Nat.reduceAdd]
    apply hK
    simp only [thenQ_normal]
    refine SW_ret ?_
    try simp only [thenQ_ret, blockQ_ret]
    obtain rfl := some_eq h
    refine ⟨by first | exact .inl rfl | exact .inl trivial | exact .inr rfl | exact .inr trivial, ?_⟩
    simp only [go_sem, ↓reduceIte, back_set, back_self]
  · replace h := ite_f c2 h
    refine SW_seq ?_
    refine SW_reg fun K hK => ?_
    simp only [go_sem, ↓reduceIte, Nat.reduceEqDiff, Nat.reduceAdd, c2]
    apply hK
    simp only [thenQ_normal]
    refine SW_if (a0.Kind_ == (2 : Int)) (by simp only [go_sem, ↓reduceIte]) (fun c5 => ?_) (fun c5 => ?_)
    · replace h := ite_t c5 h
      refine SW_seq ?_
      obtain ⟨x6, h7, h⟩ := bind_some h
      refine SW_reg fun K hK => ?_
      simp only [go_sem, ↓reduceIte, Nat.reduceEqDiff, Nat.reduceAdd, c5]
      refine SC.by_ (hrec_parse_function a0 _ h7 _ _ _ (by simp only [go_sem, hg1, hg5])) ?_
      simp only [go_sem, ↓reduceIte, Nat.reduceAdd]
      apply hK
      simp only [thenQ_normal]
      refine SW_ret ?_
      try simp only [thenQ_ret, blockQ_ret]
      obtain rfl := some_eq h
      refine ⟨by first | exact .inl rfl | exact .inl trivial | exact .inr rfl | exact .inr trivial, ?_⟩
      simp only [go_sem, ↓reduceIte, back_set, back_self]
    · replace h := ite_f c5 h
      refine SW_seq ?_
      refine SW_reg fun K hK => ?_
      simp only [go_sem, ↓reduceIte, Nat.reduceEqDiff, Nat.reduceAdd, c5]
      apply hK
      simp only [thenQ_normal]
      refine SW_if (a0.Kind_ == (3 : Int)) (by simp only [go_sem, ↓reduceIte]) (fun c8 => ?_) (fun c8 => ?_)
      · replace h := ite_t c8 h
        refine SW_seq ?_
        obtain ⟨x9, h10, h⟩ := bind_some h
        refine SW_reg fun K hK => ?_
        simp only [go_sem, ↓reduceIte, Nat.reduceEqDiff, Nat.reduceAdd, c8]
        refine SC.by_ (hrec_parse_param a0 _ h10 _ _ _ (by simp only [go_sem, hg1, hg5])) ?_
        simp only [go_sem, ↓reduceIte, Nat.reduceAdd]
        apply hK
        simp only [thenQ_normal]
        refine SW_ret ?_
        try simp only [thenQ_ret, blockQ_ret]
        obtain rfl := some_eq h
        refine ⟨by first | exact .inl rfl | exact .inl trivial | exact .inr rfl | exact .inr trivial, ?_⟩
        simp only [go_sem, ↓reduceIte, back_set, back_self]
      · replace h := ite_f c8 h
        refine SW_seq ?_
        refine SW_reg fun K hK => ?_
        simp only [go_sem, ↓reduceIte, Nat.reduceEqDiff, Nat.reduceAdd, c8]
        apply hK
        simp only [thenQ_normal]
        refine SW_if (a0.Kind_ == (4 : Int)) (by simp only [go_sem, ↓reduceIte]) (fun c11 => ?_) (fun c11 => ?_)
        · replace h := ite_t c11 h
          refine SW_seq ?_
          obtain ⟨x12, h13, h⟩ := bind_some h
          obtain ⟨f14, h⟩ := need_some h
          have f15 : 2 + x12.length ≤ 4611686018427387904 := by first | omega | (simp only [List.length_append, List.length_cons, List.length_nil] at f14 ⊢; omega)
          obtain ⟨f16, h⟩ := need_some h
          have f17 : x12.length + 1 + 1 + 1 ≤ 4611686018427387904 := by first | omega | (simp only [List.length_append, List.length_cons, List.length_nil] at f16 ⊢; omega)
          have f18 : x12.length ≤ 4611686018427387901 := by first | omega | (simp only [List.length_append, List.length_cons, List.length_nil] at f16 ⊢; omega)
          refine SW_reg fun K hK => ?_
          simp only [go_sem, ↓reduceIte, Nat.reduceEqDiff, Nat.reduceAdd, c11]
          refine SC.by_ (hrec_parse_several a0.List_ _ h13 _ _ _ (by simp only [go_sem, hg1, hg5])) ?_
          simp only [go_sem, ↓reduceIte, Nat.reduceAdd, f15, f17]
          apply hK
          simp only [thenQ_normal]
          refine SW_ret ?_
          try simp only [thenQ_ret, blockQ_ret]
          obtain rfl := some_eq h
          refine ⟨by first | exact .inl rfl | exact .inl trivial | exact .inr rfl | exact .inr trivial, ?_⟩
          simp only [go_sem, ↓reduceIte, back_set, back_self]
        · replace h := ite_f c11 h
          refine SW_seq ?_
          refine SW_reg fun K hK => ?_
          simp only [go_sem, ↓reduceIte, Nat.reduceEqDiff, Nat.reduceAdd, c11]
          apply hK
          simp only [thenQ_normal]
          refine SW_if (a0.Kind_ == (14 : Int)) (by simp only [go_sem, ↓reduceIte]) (fun c19 => ?_) (fun c19 => ?_)
          · replace h := ite_t c19 h
            refine SW_seq ?_
            obtain ⟨x20, h21, h⟩ := bind_some h
            refine SW_reg fun K hK => ?_
            simp only [go_sem, ↓reduceIte, Nat.reduceEqDiff, Nat.reduceAdd, c19]
            refine SC.by_ (parse_digits_ok a0.Num_ _ h21 _ _ _ (by simp only [go_sem, hg5])) ?_
            simp only [go_sem, ↓reduceIte, Nat.reduceAdd]
            apply hK
            simp only [thenQ_normal]
            refine SW_ret ?_
            try simp only [thenQ_ret, blockQ_ret]
            obtain rfl := some_eq h
            refine ⟨by first | exact .inl rfl | exact .inl trivial | exact .inr rfl | exact .inr trivial, ?_⟩
            simp only [go_sem, ↓reduceIte, back_set, back_self]
          · replace h := ite_f c19 h
            refine SW_seq ?_
            refine SW_reg fun K hK => ?_
            simp only [go_sem, ↓reduceIte, Nat.reduceEqDiff, Nat.reduceAdd, c19]
            apply hK
            simp only [thenQ_normal]
            refine SW_if (a0.Kind_ == (15 : Int)) (by simp only [go_sem, ↓reduceIte]) (fun c22 => ?_) (fun c22 => ?_)
            · replace h := ite_t c22 h
              refine SW_seq ?_
              refine SW_reg fun K hK => ?_
              simp only [go_sem, ↓reduceIte, Nat.reduceEqDiff, Nat.reduceAdd, c22]
              apply hK
              simp only [thenQ_normal]
              refine SW_ret ?_
              try simp only [thenQ_ret, blockQ_ret]
              obtain rfl := some_eq h
              refine ⟨by first | exact .inl rfl | exact .inl trivial | exact .inr rfl | exact .inr trivial, ?_⟩
              simp only [go_sem, ↓reduceIte, back_set, back_self]
            · replace h := ite_f c22 h
              refine SW_seq ?_
              refine SW_reg fun K hK => ?_
              simp only [go_sem, ↓reduceIte, Nat.reduceEqDiff, Nat.reduceAdd, c22]
              apply hK
              simp only [thenQ_normal]
              refine SW_if (a0.Kind_ == (16 : Int)) (by simp only [go_sem, ↓reduceIte]) (fun c23 => ?_) (fun c23 => ?_)
              · replace h := ite_t c23 h
                refine SW_seq ?_
                obtain ⟨x24, h25, h⟩ := bind_some h
                obtain ⟨f26, h⟩ := need_some h
                have f27 : a0.Text_.length + 1 ≤ 4611686018427387904 := by first | omega | (simp only [List.length_append, List.length_cons, List.length_nil] at f26 ⊢; omega)
                have f28 : a0.Text_.length ≤ 4611686018427387903 := by first | omega | (simp only [List.length_append, List.length_cons, List.length_nil] at f26 ⊢; omega)
                obtain ⟨f29, h⟩ := need_some h
                have f30 : a0.Text_.length + 1 + x24.length ≤ 4611686018427387904 := by first | omega | (simp only [List.length_append, List.length_cons, List.length_nil] at f29 ⊢; omega)
                obtain ⟨f31, h⟩ := need_some h
                have f32 : a0.Text_.length + 1 + x24.length + 1 ≤ 4611686018427387904 := by first | omega | (simp only [List.length_append, List.length_cons, List.length_nil] at f31 ⊢; omega)
                have f33 : a0.Text_.length + 1 + x24.length ≤ 4611686018427387903 := by first | omega | (simp only [List.length_append, List.length_cons, List.length_nil] at f31 ⊢; omega)
                refine SW_drawK (tbl := [0, 1, 3, 0, 8, 31, 63, 127]) (ord := [(3, 0), (4, 0), (0, 0), (1, 1), (2, 0), (5, 0), (6, 0), (7, 0)]) 26 rfl (by kernel_rfl) (by kernel_rfl) fun K hK => ?_
                simp only [go_sem, ↓reduceIte, Nat.reduceEqDiff, Nat.reduceAdd, c23]
                refine dcall_of (hrec_parse_at a0 (0 : Int) _ h25 _ _ _ (by simp only [go_sem, hg1, hg5])) rfl ?_
                simp only [go_sem, ↓reduceIte, Nat.reduceEqDiff, f27, f30, f32]
                apply hK
                simp only [thenQ_normal]
                refine SW_ret ?_
                try simp only [thenQ_ret, blockQ_ret]
                obtain rfl := some_eq h
                refine ⟨by first | exact .inl rfl | exact .inl trivial | exact .inr rfl | exact .inr trivial, ?_⟩
                simp only [go_sem, ↓reduceIte, back_set, back_self]
              · replace h := ite_f c23 h
                refine SW_seq ?_
                refine SW_reg fun K hK => ?_
                simp only [go_sem, ↓reduceIte, Nat.reduceEqDiff, Nat.reduceAdd, c23]
                apply hK
                simp only [thenQ_normal]
                refine SW_if (a0.Kind_ == (17 : Int)) (by simp only [go_sem, ↓reduceIte]) (fun c34 => ?_) (fun c34 => ?_)
                · replace h := ite_t c34 h
                  refine SW_seq ?_
                  obtain ⟨x35, h36, h⟩ := bind_some h
                  obtain ⟨f37, h⟩ := need_some h
                  have f38 : a0.Text_.length + 1 ≤ 4611686018427387904 := by first | omega | (simp only [List.length_append, List.length_cons, List.length_nil] at f37 ⊢; omega)
                  have f39 : a0.Text_.length ≤ 4611686018427387903 := by first | omega | (simp only [List.length_append, List.length_cons, List.length_nil] at f37 ⊢; omega)
                  obtain ⟨f40, h⟩ := need_some h
                  have f41 : a0.Text_.length + 1 + x35.length ≤ 4611686018427387904 := by first | omega | (simp only [List.length_append, List.length_cons, List.length_nil] at f40 ⊢; omega)
                  obtain ⟨f42, h⟩ := need_some h
                  have f43 : a0.Text_.length + 1 + x35.length + 1 ≤ 4611686018427387904 := by first | omega | (simp only [List.length_append, List.length_cons, List.length_nil] at f42 ⊢; omega)
                  have f44 : a0.Text_.length + 1 + x35.length ≤ 4611686018427387903 := by first | omega | (simp only [List.length_append, List.length_cons, List.length_nil] at f42 ⊢; omega)
                  refine SW_drawK (tbl := [0, 1, 3, 0, 8, 24, 63, 127, 255]) (ord := [(3, 0), (4, 0), (5, 0), (0, 0), (1, 1), (2, 0), (6, 0), (7, 0), (8, 0)]) 29 rfl (by kernel_rfl) (by kernel_rfl) fun K hK => ?_
                  simp only [go_sem, ↓reduceIte, Nat.reduceEqDiff, Nat.reduceAdd, c34]
                  refine dcall_of (hrec_parse_all a0.List_ _ h36 _ _ _ (by simp only [go_sem, hg1, hg5])) rfl ?_
                  simp only [go_sem, ↓reduceIte, Nat.reduceEqDiff, f38, f41, f43]
                  apply hK
                  simp only [thenQ_normal]
                  refine SW_ret ?_
                  try simp only [thenQ_ret, blockQ_ret]
                  obtain rfl := some_eq h
                  refine ⟨by first | exact .inl rfl | exact .inl trivial | exact .inr rfl | exact .inr trivial, ?_⟩
                  simp only [go_sem, ↓reduceIte, back_set, back_self]
                · replace h := ite_f c34 h
                  refine SW_seq ?_
                  refine SW_reg fun K hK => ?_
                  simp only [go_sem, ↓reduceIte, Nat.reduceEqDiff, Nat.reduceAdd, c34]
                  apply hK
                  simp only [thenQ_normal]
                  refine SW_if (a0.Kind_ == (18 : Int)) (by simp only [go_sem, ↓reduceIte]) (fun c45 => ?_) (fun c45 => ?_)
                  · replace h := ite_t c45 h
                    refine SW_seq ?_
                    obtain ⟨x46, h47, h⟩ := bind_some h
                    obtain ⟨f48, h⟩ := need_some h
                    have f49 : 1 + a0.Text_.length ≤ 4611686018427387904 := by first | omega | (simp only [List.length_append, List.length_cons, List.length_nil] at f48 ⊢; omega)
                    obtain ⟨f50, h⟩ := need_some h
                    have f51 : a0.Text_.length + 1 + x46.length ≤ 4611686018427387904 := by first | omega | (simp only [List.length_append, List.length_cons, List.length_nil] at f50 ⊢; omega)
                    obtain ⟨f52, h⟩ := need_some h
                    have f53 : a0.Text_.length + x46.length + 1 + 1 ≤ 4611686018427387904 := by first | omega | (simp only [List.length_append, List.length_cons, List.length_nil] at f52 ⊢; omega)
                    have f54 : a0.Text_.length + x46.length ≤ 4611686018427387902 := by first | omega | (simp only [List.length_append, List.length_cons, List.length_nil] at f52 ⊢; omega)
                    refine SW_drawK (tbl := [0, 1, 3, 0, 8, 31, 63, 127]) (ord := [(3, 0), (4, 0), (0, 0), (1, 1), (2, 0), (5, 0), (6, 0), (7, 0)]) 30 rfl (by kernel_rfl) (by kernel_rfl) fun K hK => ?_
                    simp only [go_sem, ↓reduceIte, Nat.reduceEqDiff, Nat.reduceAdd, c45]
                    refine dcall_of (hrec_parse_at a0 (0 : Int) _ h47 _ _ _ (by simp only [go_sem, hg1, hg5])) rfl ?_
                    simp only [go_sem, ↓reduceIte, Nat.reduceEqDiff, f49, f51, f53]
                    apply hK
                    simp only [thenQ_normal]
                    refine SW_ret ?_
                    try simp only [thenQ_ret, blockQ_ret]
                    obtain rfl := some_eq h
                    refine ⟨by first | exact .inl rfl | exact .inl trivial | exact .inr rfl | exact .inr trivial, ?_⟩
                    simp only [go_sem, ↓reduceIte, back_set, back_self]
                  · replace h := ite_f c45 h
                    refine SW_seq ?_
                    refine SW_reg fun K hK => ?_
                    simp only [go_sem, ↓reduceIte, Nat.reduceEqDiff, Nat.reduceAdd, c45]
                    apply hK
                    simp only [thenQ_normal]
                    refine SW_if (a0.Kind_ == (19 : Int)) (by simp only [go_sem, ↓reduceIte]) (fun c55 => ?_) (fun c55 => ?_)
                    · replace h := ite_t c55 h
                      refine SW_seq ?_
                      obtain ⟨x56, h58, h⟩ := bind_some h
                      obtain ⟨x57, h59, h⟩ := bind_some h
                      obtain ⟨f60, h⟩ := need_some h
                      have f61 : 1 + x56.length ≤ 4611686018427387904 := by first | omega | (simp only [List.length_append, List.length_cons, List.length_nil] at f60 ⊢; omega)
                      obtain ⟨f62, h⟩ := need_some h
                      have f63 : x56.length + 1 + 1 ≤ 4611686018427387904 := by first | omega | (simp only [List.length_append, List.length_cons, List.length_nil] at f62 ⊢; omega)
                      have f64 : x56.length ≤ 4611686018427387902 := by first | omega | (simp only [List.length_append, List.length_cons, List.length_nil] at f62 ⊢; omega)
                      obtain ⟨f65, h⟩ := need_some h
                      have f66 : x56.length + 1 + 1 + a0.Text_.length ≤ 4611686018427387904 := by first | omega | (simp only [List.length_append, List.length_cons, List.length_nil] at f65 ⊢; omega)
                      obtain ⟨f67, h⟩ := need_some h
                      have f68 : x56.length + 1 + a0.Text_.length + 1 + 1 ≤ 4611686018427387904 := by first | omega | (simp only [List.length_append, List.length_cons, List.length_nil] at f67 ⊢; omega)
                      have f69 : x56.length + 1 + a0.Text_.length ≤ 4611686018427387902 := by first | omega | (simp only [List.length_append, List.length_cons, List.length_nil] at f67 ⊢; omega)
                      obtain ⟨f70, h⟩ := need_some h
                      have f71 : x56.length + 1 + a0.Text_.length + 1 + 1 + x57.length ≤ 4611686018427387904 := by first | omega | (simp only [List.length_append, List.length_cons, List.length_nil] at f70 ⊢; omega)
                      obtain ⟨f72, h⟩ := need_some h
                      have f73 : x56.length + 1 + a0.Text_.length + 1 + x57.length + 1 + 1 ≤ 4611686018427387904 := by first | omega | (simp only [List.length_append, List.length_cons, List.length_nil] at f72 ⊢; omega)
                      have f74 : x56.length + 1 + a0.Text_.length + 1 + x57.length ≤ 4611686018427387902 := by first | omega | (simp only [List.length_append, List.length_cons, List.length_nil] at f72 ⊢; omega)
                      refine SW_drawK (tbl := [0, 1, 3, 7, 0, 16, 63, 127, 0, 259, 1023, 2047, 4095]) (ord := [(0, 0), (1, 0), (8, 1), (9, 0), (2, 0), (3, 0), (4, 0), (5, 2), (6, 0), (7, 0), (10, 0), (11, 0), (12, 0)]) 37 rfl (by kernel_rfl) (by kernel_rfl) fun K hK => ?_
                      simp only [go_sem, ↓reduceIte, Nat.reduceEqDiff, Nat.reduceAdd, c55]
                      refine dcall_of (hrec_parse_at a0 (0 : Int) _ h58 _ _ _ (by simp only [go_sem, hg1, hg5])) rfl ?_
                      simp only [go_sem, ↓reduceIte, Nat.reduceEqDiff, Nat.reduceAdd]
                      refine dcall_of (hrec_parse_at a0 (1 : Int) _ h59 _ _ _ (by simp only [go_sem, hg1, hg5])) rfl ?_
                      simp only [go_sem, ↓reduceIte, Nat.reduceEqDiff, f61, f63, f66, f68, f71, f73]
                      apply hK
                      simp only [thenQ_normal]
                      refine SW_ret ?_
                      try simp only [thenQ_ret, blockQ_ret]
                      obtain rfl := some_eq h
                      refine ⟨by first | exact .inl rfl | exact .inl trivial | exact .inr rfl | exact .inr trivial, ?_⟩
                      simp only [go_sem, ↓reduceIte, back_set, back_self]
                    · replace h := ite_f c55 h
                      refine SW_skip ?_
                      try simp only [thenQ_normal, blockQ_normal]
                      refine SW_seq ?_
                      obtain ⟨x75, h76, h⟩ := bind_some h
                      refine SW_reg fun K hK => ?_
                      simp only [go_sem, ↓reduceIte, Nat.reduceEqDiff, Nat.reduceAdd, c55]
                      refine SC.by_ (hrec_parse_statement a0 _ h76 _ _ _ (by simp only [go_sem, hg1, hg5])) ?_
                      simp only [go_sem, ↓reduceIte, Nat.reduceAdd]
                      apply hK
                      simp only [thenQ_normal]
                      refine SW_ret ?_
                      try simp only []
                      obtain rfl := some_eq h
                      refine ⟨by first | exact .inl rfl | exact .inl trivial | exact .inr rfl | exact .inr trivial, ?_⟩
                      simp only [go_sem, ↓reduceIte, back_set, back_self]

theorem parse_several_b_ok {rec_parse_text : T_parse_Node → Option Str} (hrec_parse_text : parse_text_C rec_parse_text) (n : Nat) : parse_several_C (parse_several_b rec_parse_text n) := by
  rintro a0 r h q m vs ⟨hv, hg1, hg5⟩
  refine SC.weak ?_
  rw [hv]
  exact several_sc (f := rec_parse_text) (fun x y hxy q' m' hm' => hrec_parse_text x y hxy q' m' [.agg (T_parse_Node.C x)] ⟨by simp only [go_sem, List.map_cons, List.map_nil], (congrFun hm' _).trans hg1, (congrFun hm' _).trans hg5⟩) h

theorem parse_function_b_ok {rec_parse_all : (List T_parse_Node) → Option Str} (hrec_parse_all : parse_all_C rec_parse_all) {rec_parse_at : T_parse_Node → Int → Option Str} (hrec_parse_at : parse_at_C rec_parse_at) (n : Nat) : parse_function_C (parse_function_b rec_parse_all rec_parse_at n) := by
  rintro a0 r h q m vs ⟨hv, hg1, hg5⟩
  refine SC.weak ?_
  rw [hv]
  refine SC_of Tryd.func65 rfl (fun xs w => Tryd.call65 xs w) Tryd.ntmps65 (by kernel_rfl) (congrArg Array.toList Tryd.results65) V.weak (fun _ _ _ => V.weak_ok) ?_
  unfold parse_function_b at h
  refine SW_seq ?_
  refine SW_reg fun K hK => ?_
  simp only [go_sem, Nat.reduceAdd]
  apply hK
  simp only [thenQ_normal]
  refine SW_seq ?_
  refine SW_reg fun K hK => ?_
  simp only [go_sem, ↓reduceIte, Nat.reduceEqDiff, Nat.reduceAdd]
  apply hK
  simp only [thenQ_normal]
  refine SW_seq ?_
  obtain ⟨⟨f3, f4⟩, h⟩ := need_some h
  obtain ⟨x2, h5, h⟩ := bind_some h
  obtain ⟨f6, h⟩ := need_some h
  have f7 : 3 + a0.Text_.length ≤ 4611686018427387904 := by first | omega | (simp only [List.length_append, List.length_cons, List.length_nil] at f6 ⊢; omega)
  obtain ⟨f8, h⟩ := need_some h
  have f9 : a0.Text_.length + 1 + 1 + 1 + 1 ≤ 4611686018427387904 := by first | omega | (simp only [List.length_append, List.length_cons, List.length_nil] at f8 ⊢; omega)
  have f10 : a0.Text_.length ≤ 4611686018427387900 := by first | omega | (simp only [List.length_append, List.length_cons, List.length_nil] at f8 ⊢; omega)
  obtain ⟨f11, h⟩ := need_some h
  have f12 : a0.Text_.length + 1 + 1 + 1 + 1 + x2.length ≤ 4611686018427387904 := by first | omega | (simp only [List.length_append, List.length_cons, List.length_nil] at f11 ⊢; omega)
  obtain ⟨f13, h⟩ := need_some h
  have f14 : a0.Text_.length + 1 + x2.length + 1 + 1 + 1 + 1 ≤ 4611686018427387904 := by first | omega | (simp only [List.length_append, List.length_cons, List.length_nil] at f13 ⊢; omega)
  have f15 : a0.Text_.length + 1 + x2.length ≤ 4611686018427387900 := by first | omega | (simp only [List.length_append, List.length_cons, List.length_nil] at f13 ⊢; omega)
  refine SW_drawK (tbl := [0, 1, 3, 7, 0, 16, 0, 112, 240, 511, 1023, 2047]) (ord := [(4, 0), (5, 0), (6, 0), (7, 0), (8, 0), (0, 0), (1, 1), (2, 0), (3, 0), (9, 0), (10, 0), (11, 0)]) 20 rfl (by kernel_rfl) (by kernel_rfl) fun K hK => ?_
  simp only [go_sem, ↓reduceIte, Nat.reduceEqDiff, Nat.reduceAdd, f3, f4]
  refine dcall_of (hrec_parse_all (a0.List_.take (max (IntKind.i64.wrap ((a0.List_.length : Int) - (1 : Int))) (0 : Int)).toNat) _ h5 _ _ _ (by simp only [go_sem, hg1, hg5])) rfl ?_
  simp only [go_sem, ↓reduceIte, Nat.reduceEqDiff, Nat.reduceAdd, f7, f9, f12, f14]
  apply hK
  simp only [thenQ_normal]
  refine SW_seq ?_
  refine SW_seq ?_
  refine SW_reg fun K hK => ?_
  simp only [go_sem, ↓reduceIte, Nat.reduceEqDiff, Nat.reduceAdd]
  apply hK
  simp only [thenQ_normal]
  refine SW_if ((andK .u32 a0.Num_ (1 : Int)) != (0 : Int)) (by simp only [go_sem, ↓reduceIte]) (fun c16 => ?_) (fun c16 => ?_)
  · replace h := ite_t c16 h
    obtain ⟨f17, h⟩ := need_some h
    have f18 : 7 + (a0.Text_.length + 1 + x2.length + 1 + 1 + 1 + 1) ≤ 4611686018427387904 := by first | omega | (simp only [List.length_append, List.length_cons, List.length_nil] at f17 ⊢; omega)
    refine SW_reg fun K hK => ?_
    simp only [go_sem, ↓reduceIte, Nat.reduceEqDiff, Nat.reduceAdd, c16, f18]
    apply hK
    simp only [thenQ_normal]
    refine SW_seq ?_
    refine SW_seq ?_
    refine SW_reg fun K hK => ?_
    simp only [go_sem, ↓reduceIte, Nat.reduceEqDiff, Nat.reduceAdd]
    apply hK
    simp only [thenQ_normal]
    refine SW_if ((andK .u32 a0.Num_ (2 : Int)) != (0 : Int)) (by simp only [go_sem, ↓reduceIte]) (fun c19 => ?_) (fun c19 => ?_)
    · replace h := ite_t c19 h
      obtain ⟨f20, h⟩ := need_some h
      have f21 : (a0.Text_.length + 1 + x2.length + 1 + 1 + 1 + 1) + 1 + 1 + 1 + 1 + 1 + 1 + 1 + 7 ≤ 4611686018427387904 := by first | omega | (simp only [List.length_append, List.length_cons, List.length_nil] at f20 ⊢; omega)
      have f22 : (a0.Text_.length + 1 + x2.length + 1 + 1 + 1 + 1) ≤ 4611686018427387890 := by first | omega | (simp only [List.length_append, List.length_cons, List.length_nil] at f20 ⊢; omega)
      refine SW_reg fun K hK => ?_
      simp only [go_sem, ↓reduceIte, Nat.reduceEqDiff, Nat.reduceAdd, c19, f21]
      apply hK
      simp only [thenQ_normal]
      refine SW_seq ?_
      refine SW_seq ?_
      refine SW_reg fun K hK => ?_
      simp only [go_sem, ↓reduceIte, Nat.reduceEqDiff, Nat.reduceAdd]
      apply hK
      simp only [thenQ_normal]
      refine SW_if ((andK .u32 a0.Num_ (4 : Int)) != (0 : Int)) (by simp only [go_sem, ↓reduceIte]) (fun c23 => ?_) (fun c23 => ?_)
      · replace h := ite_t c23 h
        obtain ⟨f24, h⟩ := need_some h
        have f25 : (a0.Text_.length + 1 + x2.length + 1 + 1 + 1 + 1) + 7 + 1 + 1 + 1 + 1 + 1 + 1 + 1 + 7 ≤ 4611686018427387904 := by first | omega | (simp only [List.length_append, List.length_cons, List.length_nil] at f24 ⊢; omega)
        have f26 : (a0.Text_.length + 1 + x2.length + 1 + 1 + 1 + 1) ≤ 4611686018427387883 := by first | omega | (simp only [List.length_append, List.length_cons, List.length_nil] at f24 ⊢; omega)
        refine SW_reg fun K hK => ?_
        simp only [go_sem, ↓reduceIte, Nat.reduceEqDiff, Nat.reduceAdd, c23, f25]
        apply hK
        simp only [thenQ_normal]
        refine SW_seq ?_
        obtain ⟨f28, h⟩ := need_some h
        have f29 : (a0.Text_.length + 1 + x2.length + 1 + 1 + 1 + 1) + 7 + 7 + 1 + 1 + 1 + 1 + 1 + 1 + 1 + 1 ≤ 4611686018427387904 := by first | omega | (simp only [List.length_append, List.length_cons, List.length_nil] at f28 ⊢; omega)
        have f30 : (a0.Text_.length + 1 + x2.length + 1 + 1 + 1 + 1) ≤ 4611686018427387882 := by first | omega | (simp only [List.length_append, List.length_cons, List.length_nil] at f28 ⊢; omega)
        obtain ⟨x27, h31, h⟩ := bind_some h
        obtain ⟨f32, h⟩ := need_some h
        have f33 : (a0.Text_.length + 1 + x2.length + 1 + 1 + 1 + 1) + 7 + 7 + 1 + 1 + 1 + 1 + 1 + 1 + 1 + 1 + x27.length ≤ 4611686018427387904 := by first | omega | (simp only [List.length_append, List.length_cons, List.length_nil] at f32 ⊢; omega)
        refine SW_reg fun K hK => ?_
        simp only [go_sem, ↓reduceIte, Nat.reduceEqDiff, Nat.reduceAdd, f29]
        refine SC.by_ (hrec_parse_at a0 (max (IntKind.i64.wrap ((a0.List_.length : Int) - (1 : Int))) (0 : Int)) _ h31 _ _ _ (by simp only [go_sem, hg1, hg5])) ?_
        simp only [go_sem, ↓reduceIte, Nat.reduceEqDiff, Nat.reduceAdd, f33]
        apply hK
        simp only [thenQ_normal]
        refine SW_ret ?_
        try simp only []
        obtain rfl := some_eq h
        refine ⟨by first | exact .inl rfl | exact .inl trivial | exact .inr rfl | exact .inr trivial, ?_⟩
        simp only [go_sem, ↓reduceIte, back_set, back_self]
      · replace h := ite_f c23 h
        refine SW_skip ?_
        try simp only [thenQ_normal]
        refine SW_seq ?_
        obtain ⟨f35, h⟩ := need_some h
        have f36 : (a0.Text_.length + 1 + x2.length + 1 + 1 + 1 + 1) + 7 + 1 + 1 + 1 + 1 + 1 + 1 + 1 + 1 ≤ 4611686018427387904 := by first | omega | (simp only [List.length_append, List.length_cons, List.length_nil] at f35 ⊢; omega)
        have f37 : (a0.Text_.length + 1 + x2.length + 1 + 1 + 1 + 1) ≤ 4611686018427387889 := by first | omega | (simp only [List.length_append, List.length_cons, List.length_nil] at f35 ⊢; omega)
        obtain ⟨x34, h38, h⟩ := bind_some h
        obtain ⟨f39, h⟩ := need_some h
        have f40 : (a0.Text_.length + 1 + x2.length + 1 + 1 + 1 + 1) + 7 + 1 + 1 + 1 + 1 + 1 + 1 + 1 + 1 + x34.length ≤ 4611686018427387904 := by first | omega | (simp only [List.length_append, List.length_cons, List.length_nil] at f39 ⊢; omega)
        refine SW_reg fun K hK => ?_
        simp only [go_sem, ↓reduceIte, Nat.reduceEqDiff, Nat.reduceAdd, c23, f36]
        refine SC.by_ (hrec_parse_at a0 (max (IntKind.i64.wrap ((a0.List_.length : Int) - (1 : Int))) (0 : Int)) _ h38 _ _ _ (by simp only [go_sem, hg1, hg5])) ?_
        simp only [go_sem, ↓reduceIte, Nat.reduceEqDiff, Nat.reduceAdd, f40]
        apply hK
        simp only [thenQ_normal]
        refine SW_ret ?_
        try simp only []
        obtain rfl := some_eq h
        refine ⟨by first | exact .inl rfl | exact .inl trivial | exact .inr rfl | exact .inr trivial, ?_⟩
        simp only [go_sem, ↓reduceIte, back_set, back_self]
    · replace h := ite_f c19 h
      refine SW_skip ?_
      try simp only [thenQ_normal]
      refine SW_seq ?_
      refine SW_seq ?_
      refine SW_reg fun K hK => ?_
      simp only [go_sem, ↓reduceIte, Nat.reduceEqDiff, Nat.reduceAdd, c19]
      apply hK
      simp only [thenQ_normal]
      refine SW_if ((andK .u32 a0.Num_ (4 : Int)) != (0 : Int)) (by simp only [go_sem, ↓reduceIte]) (fun c41 => ?_) (fun c41 => ?_)
      · replace h := ite_t c41 h
        obtain ⟨f42, h⟩ := need_some h
        have f43 : (a0.Text_.length + 1 + x2.length + 1 + 1 + 1 + 1) + 1 + 1 + 1 + 1 + 1 + 1 + 1 + 7 ≤ 4611686018427387904 := by first | omega | (simp only [List.length_append, List.length_cons, List.length_nil] at f42 ⊢; omega)
        have f44 : (a0.Text_.length + 1 + x2.length + 1 + 1 + 1 + 1) ≤ 4611686018427387890 := by first | omega | (simp only [List.length_append, List.length_cons, List.length_nil] at f42 ⊢; omega)
        refine SW_reg fun K hK => ?_
        simp only [go_sem, ↓reduceIte, Nat.reduceEqDiff, Nat.reduceAdd, c41, f43]
        apply hK
        simp only [thenQ_normal]
        refine SW_seq ?_
        obtain ⟨f46, h⟩ := need_some h
        have f47 : (a0.Text_.length + 1 + x2.length + 1 + 1 + 1 + 1) + 7 + 1 + 1 + 1 + 1 + 1 + 1 + 1 + 1 ≤ 4611686018427387904 := by first | omega | (simp only [List.length_append, List.length_cons, List.length_nil] at f46 ⊢; omega)
        have f48 : (a0.Text_.length + 1 + x2.length + 1 + 1 + 1 + 1) ≤ 4611686018427387889 := by first | omega | (simp only [List.length_append, List.length_cons, List.length_nil] at f46 ⊢; omega)
        obtain ⟨x45, h49, h⟩ := bind_some h
        obtain ⟨f50, h⟩ := need_some h
        have f51 : (a0.Text_.length + 1 + x2.length + 1 + 1 + 1 + 1) + 7 + 1 + 1 + 1 + 1 + 1 + 1 + 1 + 1 + x45.length ≤ 4611686018427387904 := by first | omega | (simp only [List.length_append, List.length_cons, List.length_nil] at f50 ⊢; omega)
        refine SW_reg fun K hK => ?_
        simp only [go_sem, ↓reduceIte, Nat.reduceEqDiff, Nat.reduceAdd, f47]
        refine SC.by_ (hrec_parse_at a0 (max (IntKind.i64.wrap ((a0.List_.length : Int) - (1 : Int))) (0 : Int)) _ h49 _ _ _ (by simp only [go_sem, hg1, hg5])) ?_
        simp only [go_sem, ↓reduceIte, Nat.reduceEqDiff, Nat.reduceAdd, f51]
        apply hK
        simp only [thenQ_normal]
        refine SW_ret ?_
        try simp only []
        obtain rfl := some_eq h
        refine ⟨by first | exact .inl rfl | exact .inl trivial | exact .inr rfl | exact .inr trivial, ?_⟩
        simp only [go_sem, ↓reduceIte, back_set, back_self]
      · replace h := ite_f c41 h
        refine SW_skip ?_
        try simp only [thenQ_normal]
        refine SW_seq ?_
        obtain ⟨f53, h⟩ := need_some h
        have f54 : (a0.Text_.length + 1 + x2.length + 1 + 1 + 1 + 1) + 1 + 1 + 1 + 1 + 1 + 1 + 1 + 1 ≤ 4611686018427387904 := by first | omega | (simp only [List.length_append, List.length_cons, List.length_nil] at f53 ⊢; omega)
        have f55 : (a0.Text_.length + 1 + x2.length + 1 + 1 + 1 + 1) ≤ 4611686018427387896 := by first | omega | (simp only [List.length_append, List.length_cons, List.length_nil] at f53 ⊢; omega)
        obtain ⟨x52, h56, h⟩ := bind_some h
        obtain ⟨f57, h⟩ := need_some h
        have f58 : (a0.Text_.length + 1 + x2.length + 1 + 1 + 1 + 1) + 1 + 1 + 1 + 1 + 1 + 1 + 1 + 1 + x52.length ≤ 4611686018427387904 := by first | omega | (simp only [List.length_append, List.length_cons, List.length_nil] at f57 ⊢; omega)
        refine SW_reg fun K hK => ?_
        simp only [go_sem, ↓reduceIte, Nat.reduceEqDiff, Nat.reduceAdd, c41, f54]
        refine SC.by_ (hrec_parse_at a0 (max (IntKind.i64.wrap ((a0.List_.length : Int) - (1 : Int))) (0 : Int)) _ h56 _ _ _ (by simp only [go_sem, hg1, hg5])) ?_
        simp only [go_sem, ↓reduceIte, Nat.reduceEqDiff, Nat.reduceAdd, f58]
        apply hK
        simp only [thenQ_normal]
        refine SW_ret ?_
        try simp only []
        obtain rfl := some_eq h
        refine ⟨by first | exact .inl rfl | exact .inl trivial | exact .inr rfl | exact .inr trivial, ?_⟩
        simp only [go_sem, ↓reduceIte, back_set, back_self]
  · replace h := ite_f c16 h
    refine SW_skip ?_
    try simp only [thenQ_normal]
    refine SW_seq ?_
    refine SW_seq ?_
    refine SW_reg fun K hK => ?_
    simp only [go_sem, ↓reduceIte, Nat.reduceEqDiff, Nat.reduceAdd, c16]
    apply hK
    simp only [thenQ_normal]
    refine SW_if ((andK .u32 a0.Num_ (2 : Int)) != (0 : Int)) (by simp only [go_sem, ↓reduceIte]) (fun c59 => ?_) (fun c59 => ?_)
    · replace h := ite_t c59 h
      obtain ⟨f60, h⟩ := need_some h
      have f61 : a0.Text_.length + 1 + x2.length + 1 + 1 + 1 + 1 + 7 ≤ 4611686018427387904 := by first | omega | (simp only [List.length_append, List.length_cons, List.length_nil] at f60 ⊢; omega)
      have f62 : a0.Text_.length + 1 + x2.length ≤ 4611686018427387893 := by first | omega | (simp only [List.length_append, List.length_cons, List.length_nil] at f60 ⊢; omega)
      refine SW_reg fun K hK => ?_
      simp only [go_sem, ↓reduceIte, Nat.reduceEqDiff, Nat.reduceAdd, c59, f61]
      apply hK
      simp only [thenQ_normal]
      refine SW_seq ?_
      refine SW_seq ?_
      refine SW_reg fun K hK => ?_
      simp only [go_sem, ↓reduceIte, Nat.reduceEqDiff, Nat.reduceAdd]
      apply hK
      simp only [thenQ_normal]
      refine SW_if ((andK .u32 a0.Num_ (4 : Int)) != (0 : Int)) (by simp only [go_sem, ↓reduceIte]) (fun c63 => ?_) (fun c63 => ?_)
      · replace h := ite_t c63 h
        obtain ⟨f64, h⟩ := need_some h
        have f65 : a0.Text_.length + 1 + x2.length + 1 + 7 + 1 + 1 + 1 + 7 ≤ 4611686018427387904 := by first | omega | (simp only [List.length_append, List.length_cons, List.length_nil] at f64 ⊢; omega)
        have f66 : a0.Text_.length + 1 + x2.length ≤ 4611686018427387886 := by first | omega | (simp only [List.length_append, List.length_cons, List.length_nil] at f64 ⊢; omega)
        refine SW_reg fun K hK => ?_
        simp only [go_sem, ↓reduceIte, Nat.reduceEqDiff, Nat.reduceAdd, c63, f65]
        apply hK
        simp only [thenQ_normal]
        refine SW_seq ?_
        obtain ⟨f68, h⟩ := need_some h
        have f69 : a0.Text_.length + 1 + x2.length + 1 + 7 + 7 + 1 + 1 + 1 + 1 ≤ 4611686018427387904 := by first | omega | (simp only [List.length_append, List.length_cons, List.length_nil] at f68 ⊢; omega)
        have f70 : a0.Text_.length + 1 + x2.length ≤ 4611686018427387885 := by first | omega | (simp only [List.length_append, List.length_cons, List.length_nil] at f68 ⊢; omega)
        obtain ⟨x67, h71, h⟩ := bind_some h
        obtain ⟨f72, h⟩ := need_some h
        have f73 : a0.Text_.length + 1 + x2.length + 1 + 7 + 7 + 1 + 1 + 1 + 1 + x67.length ≤ 4611686018427387904 := by first | omega | (simp only [List.length_append, List.length_cons, List.length_nil] at f72 ⊢; omega)
        refine SW_reg fun K hK => ?_
        simp only [go_sem, ↓reduceIte, Nat.reduceEqDiff, Nat.reduceAdd, f69]
        refine SC.by_ (hrec_parse_at a0 (max (IntKind.i64.wrap ((a0.List_.length : Int) - (1 : Int))) (0 : Int)) _ h71 _ _ _ (by simp only [go_sem, hg1, hg5])) ?_
        simp only [go_sem, ↓reduceIte, Nat.reduceEqDiff, Nat.reduceAdd, f73]
        apply hK
        simp only [thenQ_normal]
        refine SW_ret ?_
        try simp only []
        obtain rfl := some_eq h
        refine ⟨by first | exact .inl rfl | exact .inl trivial | exact .inr rfl | exact .inr trivial, ?_⟩
        simp only [go_sem, ↓reduceIte, back_set, back_self]
      · replace h := ite_f c63 h
        refine SW_skip ?_
        try simp only [thenQ_normal]
        refine SW_seq ?_
        obtain ⟨f75, h⟩ := need_some h
        have f76 : a0.Text_.length + 1 + x2.length + 1 + 7 + 1 + 1 + 1 + 1 ≤ 4611686018427387904 := by first | omega | (simp only [List.length_append, List.length_cons, List.length_nil] at f75 ⊢; omega)
        have f77 : a0.Text_.length + 1 + x2.length ≤ 4611686018427387892 := by first | omega | (simp only [List.length_append, List.length_cons, List.length_nil] at f75 ⊢; omega)
        obtain ⟨x74, h78, h⟩ := bind_some h
        obtain ⟨f79, h⟩ := need_some h
        have f80 : a0.Text_.length + 1 + x2.length + 1 + 7 + 1 + 1 + 1 + 1 + x74.length ≤ 4611686018427387904 := by first | omega | (simp only [List.length_append, List.length_cons, List.length_nil] at f79 ⊢; omega)
        refine SW_reg fun K hK => ?_
        simp only [go_sem, ↓reduceIte, Nat.reduceEqDiff, Nat.reduceAdd, c63, f76]
        refine SC.by_ (hrec_parse_at a0 (max (IntKind.i64.wrap ((a0.List_.length : Int) - (1 : Int))) (0 : Int)) _ h78 _ _ _ (by simp only [go_sem, hg1, hg5])) ?_
        simp only [go_sem, ↓reduceIte, Nat.reduceEqDiff, Nat.reduceAdd, f80]
        apply hK
        simp only [thenQ_normal]
        refine SW_ret ?_
        try simp only []
        obtain rfl := some_eq h
        refine ⟨by first | exact .inl rfl | exact .inl trivial | exact .inr rfl | exact .inr trivial, ?_⟩
        simp only [go_sem, ↓reduceIte, back_set, back_self]
    · replace h := ite_f c59 h
      refine SW_skip ?_
      try simp only [thenQ_normal]
      refine SW_seq ?_
      refine SW_seq ?_
      refine SW_reg fun K hK => ?_
      simp only [go_sem, ↓reduceIte, Nat.reduceEqDiff, Nat.reduceAdd, c59]
      apply hK
      simp only [thenQ_normal]
      refine SW_if ((andK .u32 a0.Num_ (4 : Int)) != (0 : Int)) (by simp only [go_sem, ↓reduceIte]) (fun c81 => ?_) (fun c81 => ?_)
      · replace h := ite_t c81 h
        obtain ⟨f82, h⟩ := need_some h
        have f83 : a0.Text_.length + 1 + x2.length + 1 + 1 + 1 + 1 + 7 ≤ 4611686018427387904 := by first | omega | (simp only [List.length_append, List.length_cons, List.length_nil] at f82 ⊢; omega)
        have f84 : a0.Text_.length + 1 + x2.length ≤ 4611686018427387893 := by first | omega | (simp only [List.length_append, List.length_cons, List.length_nil] at f82 ⊢; omega)
        refine SW_reg fun K hK => ?_
        simp only [go_sem, ↓reduceIte, Nat.reduceEqDiff, Nat.reduceAdd, c81, f83]
        apply hK
        simp only [thenQ_normal]
        refine SW_seq ?_
        obtain ⟨f86, h⟩ := need_some h
        have f87 : a0.Text_.length + 1 + x2.length + 1 + 7 + 1 + 1 + 1 + 1 ≤ 4611686018427387904 := by first | omega | (simp only [List.length_append, List.length_cons, List.length_nil] at f86 ⊢; omega)
        have f88 : a0.Text_.length + 1 + x2.length ≤ 4611686018427387892 := by first | omega | (simp only [List.length_append, List.length_cons, List.length_nil] at f86 ⊢; omega)
        obtain ⟨x85, h89, h⟩ := bind_some h
        obtain ⟨f90, h⟩ := need_some h
        have f91 : a0.Text_.length + 1 + x2.length + 1 + 7 + 1 + 1 + 1 + 1 + x85.length ≤ 4611686018427387904 := by first | omega | (simp only [List.length_append, List.length_cons, List.length_nil] at f90 ⊢; omega)
        refine SW_reg fun K hK => ?_
        simp only [go_sem, ↓reduceIte, Nat.reduceEqDiff, Nat.reduceAdd, f87]
        refine SC.by_ (hrec_parse_at a0 (max (IntKind.i64.wrap ((a0.List_.length : Int) - (1 : Int))) (0 : Int)) _ h89 _ _ _ (by simp only [go_sem, hg1, hg5])) ?_
        simp only [go_sem, ↓reduceIte, Nat.reduceEqDiff, Nat.reduceAdd, f91]
        apply hK
        simp only [thenQ_normal]
        refine SW_ret ?_
        try simp only []
        obtain rfl := some_eq h
        refine ⟨by first | exact .inl rfl | exact .inl trivial | exact .inr rfl | exact .inr trivial, ?_⟩
        simp only [go_sem, ↓reduceIte, back_set, back_self]
      · replace h := ite_f c81 h
        refine SW_skip ?_
        try simp only [thenQ_normal]
        refine SW_seq ?_
        obtain ⟨f93, h⟩ := need_some h
        have f94 : a0.Text_.length + 1 + x2.length + 1 + 1 + 1 + 1 + 1 ≤ 4611686018427387904 := by first | omega | (simp only [List.length_append, List.length_cons, List.length_nil] at f93 ⊢; omega)
        have f95 : a0.Text_.length + 1 + x2.length ≤ 4611686018427387899 := by first | omega | (simp only [List.length_append, List.length_cons, List.length_nil] at f93 ⊢; omega)
        obtain ⟨x92, h96, h⟩ := bind_some h
        obtain ⟨f97, h⟩ := need_some h
        have f98 : a0.Text_.length + 1 + x2.length + 1 + 1 + 1 + 1 + 1 + x92.length ≤ 4611686018427387904 := by first | omega | (simp only [List.length_append, List.length_cons, List.length_nil] at f97 ⊢; omega)
        refine SW_reg fun K hK => ?_
        simp only [go_sem, ↓reduceIte, Nat.reduceEqDiff, Nat.reduceAdd, c81, f94]
        refine SC.by_ (hrec_parse_at a0 (max (IntKind.i64.wrap ((a0.List_.length : Int) - (1 : Int))) (0 : Int)) _ h96 _ _ _ (by simp only [go_sem, hg1, hg5])) ?_
        simp only [go_sem, ↓reduceIte, Nat.reduceEqDiff, Nat.reduceAdd, f98]
        apply hK
        simp only [thenQ_normal]
        refine SW_ret ?_
        try simp only []
        obtain rfl := some_eq h
        refine ⟨by first | exact .inl rfl | exact .inl trivial | exact .inr rfl | exact .inr trivial, ?_⟩
        simp only [go_sem, ↓reduceIte, back_set, back_self]

theorem parse_param_b_ok {rec_parse_at : T_parse_Node → Int → Option Str} (hrec_parse_at : parse_at_C rec_parse_at) (n : Nat) : parse_param_C (parse_param_b rec_parse_at n) := by
  rintro a0 r h q m vs ⟨hv, hg1, hg5⟩
  refine SC.weak ?_
  rw [hv]
  refine SC_of Tryd.func66 rfl (fun xs w => Tryd.call66 xs w) Tryd.ntmps66 (by kernel_rfl) (congrArg Array.toList Tryd.results66) V.weak (fun _ _ _ => V.weak_ok) ?_
  unfold parse_param_b at h
  refine SW_seq ?_
  refine SW_reg fun K hK => ?_
  simp only [go_sem, Nat.reduceAdd]
  apply hK
  simp only [thenQ_normal]
  refine SW_seq ?_
  refine SW_seq ?_
  obtain ⟨y2, hy2, h⟩ := bind_some h
  refine SW_joinK 11 [] [] rfl (fun E' m' => E' 1 = .ptr (0 :: q) 0 ∧ E' 11 = .lit (.bool y2) ∧ m'.blk (0 :: q) = some ((T_parse_Node.C a0)) ∧ m'.gl = m.gl ∧ m.back q m' = m) ?_ ?_
  · rcases bool_or (decide ((1 : Int) ≤ a0.Num_)) with c3 | c3
    · replace hy2 := ite_t c3 hy2
      refine SW_reg fun K hK => ?_
      simp only [go_sem, ↓reduceIte, Nat.reduceEqDiff, Nat.reduceAdd, c3]
      apply hK
      simp only [thenQ_normal]
      obtain rfl := some_eq hy2
      refine ⟨by decide, ?_⟩
      simp only [go_sem, ↓reduceIte, Nat.reduceEqDiff, back_set, back_self]
    · replace hy2 := ite_f c3 hy2
      refine SW_reg fun K hK => ?_
      simp only [go_sem, ↓reduceIte, Nat.reduceEqDiff, Nat.reduceAdd, c3]
      apply hK
      simp only [thenQ_normal]
      obtain rfl := some_eq hy2
      refine ⟨by decide, ?_⟩
      simp only [go_sem, ↓reduceIte, Nat.reduceEqDiff, back_set, back_self]
  · intro E4 m5 e6 _
    simp only [thenQ_normal]
    refine SW_if y2 (by simp only [go_sem, e6]) (fun c7 => ?_) (fun c7 => ?_)
    · replace h := ite_t c7 h
      refine SW_seq ?_
      obtain ⟨f9, h⟩ := need_some h
      have f10 : a0.Text_.length + 2 ≤ 4611686018427387904 := by first | omega | (simp only [List.length_append, List.length_cons, List.length_nil] at f9 ⊢; omega)
      have f11 : a0.Text_.length ≤ 4611686018427387902 := by first | omega | (simp only [List.length_append, List.length_cons, List.length_nil] at f9 ⊢; omega)
      obtain ⟨x8, h15, h⟩ := bind_some h
      obtain ⟨f12, f13, f14⟩ := idxL_some h15
      have f16 : a0.Num_ < (4 : Int) := f13
      obtain ⟨w17, d18⟩ := cA_drop (f := cS) (s := 1) (fun _ _ => rfl) f14
      simp only [go_sem] at d18
      obtain ⟨f19, h⟩ := need_some h
      have f20 : a0.Text_.length + 2 + x8.length ≤ 4611686018427387904 := by first | omega | (simp only [List.length_append, List.length_cons, List.length_nil] at f19 ⊢; omega)
      refine SW_drawK (tbl := [0, 1, 3, 0, 8, 24, 56, 127, 255]) (ord := [(0, 0), (1, 0), (2, 0), (3, 0), (4, 0), (5, 0), (6, 0), (7, 0), (8, 0)]) 20 rfl (by kernel_rfl) (by kernel_rfl) fun K hK => ?_
      simp only [go_sem, ↓reduceIte, Nat.reduceEqDiff, Nat.reduceAdd, f10, f12, f16, d18, f20, e6, hg1]
      apply hK
      simp only [thenQ_normal]
      refine SW_ret ?_
      try simp only [thenQ_ret]
      obtain rfl := some_eq h
      refine ⟨by first | exact .inl rfl | exact .inl trivial | exact .inr rfl | exact .inr trivial, ?_⟩
      simp only [go_sem, ↓reduceIte, e6]
    · replace h := ite_f c7 h
      refine SW_skip ?_
      try simp only [thenQ_normal]
      refine SW_seq ?_
      obtain ⟨x21, h22, h⟩ := bind_some h
      obtain ⟨f23, h⟩ := need_some h
      have f24 : a0.Text_.length + 3 ≤ 4611686018427387904 := by first | omega | (simp only [List.length_append, List.length_cons, List.length_nil] at f23 ⊢; omega)
      have f25 : a0.Text_.length ≤ 4611686018427387901 := by first | omega | (simp only [List.length_append, List.length_cons, List.length_nil] at f23 ⊢; omega)
      obtain ⟨f26, h⟩ := need_some h
      have f27 : a0.Text_.length + 3 + x21.length ≤ 4611686018427387904 := by first | omega | (simp only [List.length_append, List.length_cons, List.length_nil] at f26 ⊢; omega)
      obtain ⟨f28, h⟩ := need_some h
      have f29 : a0.Text_.length + 3 + x21.length + 1 ≤ 4611686018427387904 := by first | omega | (simp only [List.length_append, List.length_cons, List.length_nil] at f28 ⊢; omega)
      have f30 : a0.Text_.length + 3 + x21.length ≤ 4611686018427387903 := by first | omega | (simp only [List.length_append, List.length_cons, List.length_nil] at f28 ⊢; omega)
      refine SW_drawK (tbl := [0, 1, 3, 0, 8, 31, 63, 127]) (ord := [(3, 0), (4, 0), (0, 0), (1, 1), (2, 0), (5, 0), (6, 0), (7, 0)]) 19 rfl (by kernel_rfl) (by kernel_rfl) fun K hK => ?_
      simp only [go_sem, ↓reduceIte, Nat.reduceAdd, e6]
      refine dcall_of (hrec_parse_at a0 (0 : Int) _ h22 _ _ _ (by simp only [go_sem, e6, hg1, hg5])) rfl ?_
      simp only [go_sem, ↓reduceIte, Nat.reduceEqDiff, Nat.reduceAdd, f24, f27, f29, e6]
      apply hK
      simp only [thenQ_normal]
      refine SW_ret ?_
      try simp only []
      obtain rfl := some_eq h
      refine ⟨by first | exact .inl rfl | exact .inl trivial | exact .inr rfl | exact .inr trivial, ?_⟩
      simp only [go_sem, ↓reduceIte, e6]

theorem parse_at_b_ok {rec_parse_text : T_parse_Node → Option Str} (hrec_parse_text : parse_text_C rec_parse_text) (n : Nat) : parse_at_C (parse_at_b rec_parse_text n) := by
  rintro a0 a1 r h q m vs ⟨hv, hg1, hg5⟩
  refine SC.weak ?_
  rw [hv]
  refine SC_of Tryd.func68 rfl (fun xs w => Tryd.call68 xs w) Tryd.ntmps68 (by kernel_rfl) (congrArg Array.toList Tryd.results68) V.weak (fun _ _ _ => V.weak_ok) ?_
  unfold parse_at_b at h
  refine SW_seq ?_
  refine SW_reg fun K hK => ?_
  simp only [go_sem, Nat.reduceAdd]
  apply hK
  simp only [thenQ_normal]
  refine SW_seq ?_
  refine SW_seq ?_
  refine SW_reg fun K hK => ?_
  simp only [go_sem, ↓reduceIte, Nat.reduceEqDiff, Nat.reduceAdd]
  apply hK
  simp only [thenQ_normal]
  refine SW_if (decide ((a0.List_.length : Int) ≤ a1)) (by simp only [go_sem, ↓reduceIte]) (fun c2 => ?_) (fun c2 => ?_)
  · replace h := ite_t c2 h
    refine SW_seq ?_
    refine SW_reg fun K hK => ?_
    simp only [go_sem, Nat.reduceAdd, c2]
    apply hK
    simp only [thenQ_normal]
    refine SW_ret ?_
    try simp only [thenQ_ret]
    obtain rfl := some_eq h
    refine ⟨by first | exact .inl rfl | exact .inl trivial | exact .inr rfl | exact .inr trivial, ?_⟩
    simp only [go_sem, ↓reduceIte, back_set, back_self]
  · replace h := ite_f c2 h
    refine SW_skip ?_
    try simp only [thenQ_normal]
    refine SW_seq ?_
    obtain ⟨x3, h8, h⟩ := bind_some h
    obtain ⟨f5, f6, f7⟩ := idxL_some h8
    obtain ⟨x4, h9, h⟩ := bind_some h
    refine SW_reg fun K hK => ?_
    simp only [go_sem, ↓reduceIte, Nat.reduceEqDiff, Nat.reduceAdd, c2, f5, f6, f7]
    refine SC.by_ (hrec_parse_text x3 _ h9 _ _ _ (by simp only [go_sem, hg1, hg5])) ?_
    simp only [go_sem, ↓reduceIte, Nat.reduceAdd]
    apply hK
    simp only [thenQ_normal]
    refine SW_ret ?_
    try simp only []
    obtain rfl := some_eq h
    refine ⟨by first | exact .inl rfl | exact .inl trivial | exact .inr rfl | exact .inr trivial, ?_⟩
    simp only [go_sem, ↓reduceIte, back_set, back_self]

theorem parse_all_b_ok {rec_parse_text : T_parse_Node → Option Str} (hrec_parse_text : parse_text_C rec_parse_text) (n : Nat) : parse_all_C (parse_all_b rec_parse_text n) := by
  rintro a0 r h q m vs ⟨hv, hg1, hg5⟩
  refine SC.weak ?_
  rw [hv]
  refine SC_of Tryd.func69 rfl (fun xs w => Tryd.call69 xs w) Tryd.ntmps69 (by kernel_rfl) (congrArg Array.toList Tryd.results69) V.weak (fun _ _ _ => V.weak_ok) ?_
  unfold parse_all_b at h
  refine SW_seq ?_
  refine SW_reg fun K hK => ?_
  simp only [go_sem]
  apply hK
  simp only [thenQ_normal]
  refine SW_seq ?_
  refine SW_reg fun K hK => ?_
  simp only [go_sem, Nat.reduceAdd]
  apply hK
  simp only [thenQ_normal]
  refine SW_seq ?_
  refine SW_seq ?_
  refine SW_reg fun K hK => ?_
  simp only [go_sem, ↓reduceIte, Nat.reduceAdd, reduceCtorEq]
  apply hK
  simp only [thenQ_normal]
  refine SW_block ?_
  obtain ⟨y4, hy4, h⟩ := bind_some h
  refine SW_stamp 3 ([].map cS) rfl (by simp only [go_sem, ↓reduceIte, Nat.reduceEqDiff]) ?_
  refine SW_countW [] [] rfl (fun c E' m' => ∃ (v2 : (List Str)), ∃ (v3 : Int), ∃ (o_v2 : Pa) (j_v2 : Nat), parse_all_l1 rec_parse_text a0 c v2 v3 = some y4 ∧ E' 3 = .list (.st (.anon o_v2 j_v2)) (v2.map cS) ∧ m'.tok o_v2 j_v2 = true ∧ q <:+ o_v2 ∧ E' 6 = .list .none (a0.map T_parse_Node.C) ∧ E' 7 = .lit (.int .i64 (a0.length : Int)) ∧ E' 8 = .lit (.int .i64 v3) ∧ m'.gl = m.gl ∧ m.back q m' = m) n ⟨[], (0 : Int), (5 :: q), 0, hy4, ?_⟩ ?_
  · simp only [go_sem, ↓reduceIte, Nat.reduceEqDiff, back_tokset, back_self]
  rintro i1 c5 E6 m7 ⟨v2, v3, o_v2, j_v2, hy4, e8⟩ _
  rcases c5 with _ | c5
  · exact absurd hy4 (by rw [parse_all_l1]; exact fun e => nomatch e)
  rw [parse_all_l1] at hy4
  refine SW_seq ?_
  refine SW_reg fun K hK => ?_
  simp only [go_sem, Nat.reduceAdd, e8]
  apply hK
  simp only [thenQ_normal]
  refine SW_seq ?_
  refine SW_if (decide (v3 < (a0.length : Int))) (by simp only [go_sem, ↓reduceIte]) (fun c9 => ?_) (fun c9 => ?_)
  · replace hy4 := ite_t c9 hy4
    refine SW_skip ?_
    try simp only [thenQ_normal]
    refine SW_seq ?_
    refine SW_block ?_
    refine SW_seq ?_
    obtain ⟨x10, h15, hy4⟩ := bind_some hy4
    obtain ⟨f12, f13, f14⟩ := idxL_some h15
    refine SW_reg fun K hK => ?_
    simp only [go_sem, ↓reduceIte, Nat.reduceEqDiff, Nat.reduceAdd, f12, f13, f14, e8]
    apply hK
    simp only [thenQ_normal]
    obtain ⟨x16, h17, hy4⟩ := bind_some hy4
    obtain ⟨f18, hy4⟩ := need_some hy4
    have f19 : v2.length + 1 ≤ 1073741824 := by first | omega | (simp only [List.length_append, List.length_cons, List.length_nil] at f18 ⊢; omega)
    have f20 : v2.length ≤ 1073741823 := by first | omega | (simp only [List.length_append, List.length_cons, List.length_nil] at f18 ⊢; omega)
    refine SW_reg fun K hK => ?_
    simp only [go_sem, ↓reduceIte, Nat.reduceEqDiff, Nat.reduceAdd, e8]
    refine SC.by_ (hrec_parse_text x10 _ h17 _ _ _ (by simp only [go_sem, e8, hg1, hg5])) ?_
    simp only [go_sem, ↓reduceIte, Nat.reduceEqDiff, Nat.reduceAdd, Nat.reduceLT, Nat.reduceLeDiff, f19, e8]
    apply hK
    simp only [thenQ_normal, blockQ_normal]
    refine SW_reg fun K hK => ?_
    simp only [go_sem, ↓reduceIte, Nat.reduceEqDiff, Nat.reduceAdd, e8]
    apply hK
    simp only [thenQ_normal]
    refine ⟨c5, Nat.lt_succ_self _, (v2 ++ [x16]), (IntKind.i64.wrap (v3 + (1 : Int))), (9 :: i1 :: 6 :: q), 0, hy4, ?_⟩
    simp only [go_sem, ↓reduceIte, Nat.reduceEqDiff, back_set, back_tokset, e8]
  · replace hy4 := ite_f c9 hy4
    refine SW_exit ?_
    try simp only [thenQ_exit, blockQ_exit, ↓reduceIte, thenQ_normal]
    obtain rfl := some_eq hy4
    refine SW_seq ?_
    obtain ⟨x21, h22, h⟩ := bind_some h
    refine SW_reg fun K hK => ?_
    simp only [go_sem, ↓reduceIte, Nat.reduceEqDiff, Nat.reduceAdd, c9, e8]
    refine SC.by_ (strings_Join_ok v2 ([44, 32] : Str) _ h22 _ _ _ (by simp only [go_sem])) ?_
    simp only [go_sem, ↓reduceIte, Nat.reduceAdd]
    apply hK
    simp only [thenQ_normal]
    refine SW_ret ?_
    try simp only []
    obtain rfl := some_eq h
    refine ⟨by first | exact .inl rfl | exact .inl trivial | exact .inr rfl | exact .inr trivial, ?_⟩
    simp only [go_sem, ↓reduceIte, e8]

theorem parse_statement_b_ok {rec_parse_at : T_parse_Node → Int → Option Str} (hrec_parse_at : parse_at_C rec_parse_at) {rec_parse_all : (List T_parse_Node) → Option Str} (hrec_parse_all : parse_all_C rec_parse_all) (n : Nat) : parse_statement_C (parse_statement_b rec_parse_at rec_parse_all n) := by
  rintro a0 r h q m vs ⟨hv, hg1, hg5⟩
  refine SC.weak ?_
  rw [hv]
  refine SC_of Tryd.func70 rfl (fun xs w => Tryd.call70 xs w) Tryd.ntmps70 (by kernel_rfl) (congrArg Array.toList Tryd.results70) V.weak (fun _ _ _ => V.weak_ok) ?_
  unfold parse_statement_b at h
  refine SW_seq ?_
  refine SW_reg fun K hK => ?_
  simp only [go_sem, Nat.reduceAdd]
  apply hK
  simp only [thenQ_normal]
  refine SW_seq ?_
  refine SW_seq ?_
  refine SW_reg fun K hK => ?_
  simp only [go_sem, ↓reduceIte, Nat.reduceEqDiff, Nat.reduceAdd]
  apply hK
  simp only [thenQ_normal]
  refine SW_block ?_
  refine SW_seq ?_
  refine SW_reg fun K hK => ?_
  simp only [go_sem, ↓reduceIte, Nat.reduceAdd]
  apply hK
  simp only [thenQ_normal]
  refine SW_if (a0.Kind_ == (5 : Int)) (by simp only [go_sem, ↓reduceIte]) (fun c2 => ?_) (fun c2 => ?_)
  · replace h := ite_t c2 h
    refine SW_seq ?_
    obtain ⟨x3, h4, h⟩ := bind_some h
    obtain ⟨f5, h⟩ := need_some h
    have f6 : 4 + a0.Text_.length ≤ 4611686018427387904 := by first | omega | (simp only [List.length_append, List.length_cons, List.length_nil] at f5 ⊢; omega)
    obtain ⟨f7, h⟩ := need_some h
    have f8 : a0.Text_.length + 1 + 1 + 1 + 1 + 3 ≤ 4611686018427387904 := by first | omega | (simp only [List.length_append, List.length_cons, List.length_nil] at f7 ⊢; omega)
    have f9 : a0.Text_.length ≤ 4611686018427387897 := by first | omega | (simp only [List.length_append, List.length_cons, List.length_nil] at f7 ⊢; omega)
    obtain ⟨f10, h⟩ := need_some h
    have f11 : a0.Text_.length + 3 + 1 + 1 + 1 + 1 + x3.length ≤ 4611686018427387904 := by first | omega | (simp only [List.length_append, List.length_cons, List.length_nil] at f10 ⊢; omega)
    obtain ⟨f12, h⟩ := need_some h
    have f13 : a0.Text_.length + 3 + x3.length + 1 + 1 + 1 + 1 + 1 ≤ 4611686018427387904 := by first | omega | (simp only [List.length_append, List.length_cons, List.length_nil] at f12 ⊢; omega)
    have f14 : a0.Text_.length + 3 + x3.length ≤ 4611686018427387899 := by first | omega | (simp only [List.length_append, List.length_cons, List.length_nil] at f12 ⊢; omega)
    refine SW_drawK (tbl := [0, 1, 3, 7, 0, 16, 63, 127, 255]) (ord := [(4, 0), (5, 0), (0, 0), (1, 1), (2, 0), (3, 0), (6, 0), (7, 0), (8, 0)]) 15 rfl (by kernel_rfl) (by kernel_rfl) fun K hK => ?_
    simp only [go_sem, ↓reduceIte, Nat.reduceEqDiff, Nat.reduceAdd, c2]
    refine dcall_of (hrec_parse_at a0 (0 : Int) _ h4 _ _ _ (by simp only [go_sem, hg1, hg5])) rfl ?_
    simp only [go_sem, ↓reduceIte, Nat.reduceEqDiff, Nat.reduceAdd, f6, f8, f11, f13]
    apply hK
    simp only [thenQ_normal]
    refine SW_ret ?_
    try simp only [thenQ_ret, blockQ_ret]
    obtain rfl := some_eq h
    refine ⟨by first | exact .inl rfl | exact .inl trivial | exact .inr rfl | exact .inr trivial, ?_⟩
    simp only [go_sem, ↓reduceIte, back_set, back_self]
  · replace h := ite_f c2 h
    refine SW_seq ?_
    refine SW_reg fun K hK => ?_
    simp only [go_sem, ↓reduceIte, Nat.reduceEqDiff, Nat.reduceAdd, c2]
    apply hK
    simp only [thenQ_normal]
    refine SW_if (a0.Kind_ == (6 : Int)) (by simp only [go_sem, ↓reduceIte]) (fun c15 => ?_) (fun c15 => ?_)
    · replace h := ite_t c15 h
      refine SW_seq ?_
      obtain ⟨x16, h17, h⟩ := bind_some h
      obtain ⟨f18, h⟩ := need_some h
      have f19 : 4 + a0.Text_.length ≤ 4611686018427387904 := by first | omega | (simp only [List.length_append, List.length_cons, List.length_nil] at f18 ⊢; omega)
      obtain ⟨f20, h⟩ := need_some h
      have f21 : a0.Text_.length + 1 + 1 + 1 + 1 + 3 ≤ 4611686018427387904 := by first | omega | (simp only [List.length_append, List.length_cons, List.length_nil] at f20 ⊢; omega)
      have f22 : a0.Text_.length ≤ 4611686018427387897 := by first | omega | (simp only [List.length_append, List.length_cons, List.length_nil] at f20 ⊢; omega)
      obtain ⟨f23, h⟩ := need_some h
      have f24 : a0.Text_.length + 3 + 1 + 1 + 1 + 1 + x16.length ≤ 4611686018427387904 := by first | omega | (simp only [List.length_append, List.length_cons, List.length_nil] at f23 ⊢; omega)
      obtain ⟨f25, h⟩ := need_some h
      have f26 : a0.Text_.length + 3 + x16.length + 1 + 1 + 1 + 1 + 1 ≤ 4611686018427387904 := by first | omega | (simp only [List.length_append, List.length_cons, List.length_nil] at f25 ⊢; omega)
      have f27 : a0.Text_.length + 3 + x16.length ≤ 4611686018427387899 := by first | omega | (simp only [List.length_append, List.length_cons, List.length_nil] at f25 ⊢; omega)
      refine SW_drawK (tbl := [0, 1, 3, 7, 0, 16, 63, 127, 255]) (ord := [(4, 0), (5, 0), (0, 0), (1, 1), (2, 0), (3, 0), (6, 0), (7, 0), (8, 0)]) 17 rfl (by kernel_rfl) (by kernel_rfl) fun K hK => ?_
      simp only [go_sem, ↓reduceIte, Nat.reduceEqDiff, Nat.reduceAdd, c15]
      refine dcall_of (hrec_parse_at a0 (0 : Int) _ h17 _ _ _ (by simp only [go_sem, hg1, hg5])) rfl ?_
      simp only [go_sem, ↓reduceIte, Nat.reduceEqDiff, Nat.reduceAdd, f19, f21, f24, f26]
      apply hK
      simp only [thenQ_normal]
      refine SW_ret ?_
      try simp only [thenQ_ret, blockQ_ret]
      obtain rfl := some_eq h
      refine ⟨by first | exact .inl rfl | exact .inl trivial | exact .inr rfl | exact .inr trivial, ?_⟩
      simp only [go_sem, ↓reduceIte, back_set, back_self]
    · replace h := ite_f c15 h
      refine SW_seq ?_
      refine SW_reg fun K hK => ?_
      simp only [go_sem, ↓reduceIte, Nat.reduceEqDiff, Nat.reduceAdd, c15]
      apply hK
      simp only [thenQ_normal]
      refine SW_if (a0.Kind_ == (7 : Int)) (by simp only [go_sem, ↓reduceIte]) (fun c28 => ?_) (fun c28 => ?_)
      · replace h := ite_t c28 h
        refine SW_seq ?_
        obtain ⟨x29, h30, h⟩ := bind_some h
        obtain ⟨f31, h⟩ := need_some h
        have f32 : 4 + a0.Text_.length ≤ 4611686018427387904 := by first | omega | (simp only [List.length_append, List.length_cons, List.length_nil] at f31 ⊢; omega)
        obtain ⟨f33, h⟩ := need_some h
        have f34 : a0.Text_.length + 1 + 1 + 1 + 1 + 1 ≤ 4611686018427387904 := by first | omega | (simp only [List.length_append, List.length_cons, List.length_nil] at f33 ⊢; omega)
        have f35 : a0.Text_.length ≤ 4611686018427387899 := by first | omega | (simp only [List.length_append, List.length_cons, List.length_nil] at f33 ⊢; omega)
        obtain ⟨f36, h⟩ := need_some h
        have f37 : a0.Text_.length + 1 + 1 + 1 + 1 + 1 + x29.length ≤ 4611686018427387904 := by first | omega | (simp only [List.length_append, List.length_cons, List.length_nil] at f36 ⊢; omega)
        obtain ⟨f38, h⟩ := need_some h
        have f39 : a0.Text_.length + 1 + x29.length + 1 + 1 + 1 + 1 + 2 ≤ 4611686018427387904 := by first | omega | (simp only [List.length_append, List.length_cons, List.length_nil] at f38 ⊢; omega)
        have f40 : a0.Text_.length + 1 + x29.length ≤ 4611686018427387898 := by first | omega | (simp only [List.length_append, List.length_cons, List.length_nil] at f38 ⊢; omega)
        refine SW_drawK (tbl := [0, 1, 3, 7, 0, 16, 48, 127, 255, 511]) (ord := [(4, 0), (5, 0), (6, 0), (0, 0), (1, 1), (2, 0), (3, 0), (7, 0), (8, 0), (9, 0)]) 20 rfl (by kernel_rfl) (by kernel_rfl) fun K hK => ?_
        simp only [go_sem, ↓reduceIte, Nat.reduceEqDiff, Nat.reduceAdd, c28]
        refine dcall_of (parse_digits_ok a0.Num_ _ h30 _ _ _ (by simp only [go_sem, hg5])) rfl ?_
        simp only [go_sem, ↓reduceIte, Nat.reduceEqDiff, Nat.reduceAdd, f32, f34, f37, f39]
        apply hK
        simp only [thenQ_normal]
        refine SW_ret ?_
        try simp only [thenQ_ret, blockQ_ret]
        obtain rfl := some_eq h
        refine ⟨by first | exact .inl rfl | exact .inl trivial | exact .inr rfl | exact .inr trivial, ?_⟩
        simp only [go_sem, ↓reduceIte, back_set, back_self]
      · replace h := ite_f c28 h
        refine SW_seq ?_
        refine SW_reg fun K hK => ?_
        simp only [go_sem, ↓reduceIte, Nat.reduceEqDiff, Nat.reduceAdd, c28]
        apply hK
        simp only [thenQ_normal]
        refine SW_if (a0.Kind_ == (8 : Int)) (by simp only [go_sem, ↓reduceIte]) (fun c41 => ?_) (fun c41 => ?_)
        · replace h := ite_t c41 h
          refine SW_seq ?_
          obtain ⟨x42, h43, h⟩ := bind_some h
          obtain ⟨f44, h⟩ := need_some h
          have f45 : a0.Text_.length + 3 ≤ 4611686018427387904 := by first | omega | (simp only [List.length_append, List.length_cons, List.length_nil] at f44 ⊢; omega)
          have f46 : a0.Text_.length ≤ 4611686018427387901 := by first | omega | (simp only [List.length_append, List.length_cons, List.length_nil] at f44 ⊢; omega)
          obtain ⟨f47, h⟩ := need_some h
          have f48 : a0.Text_.length + 3 + x42.length ≤ 4611686018427387904 := by first | omega | (simp only [List.length_append, List.length_cons, List.length_nil] at f47 ⊢; omega)
          obtain ⟨f49, h⟩ := need_some h
          have f50 : a0.Text_.length + 3 + x42.length + 1 ≤ 4611686018427387904 := by first | omega | (simp only [List.length_append, List.length_cons, List.length_nil] at f49 ⊢; omega)
          have f51 : a0.Text_.length + 3 + x42.length ≤ 4611686018427387903 := by first | omega | (simp only [List.length_append, List.length_cons, List.length_nil] at f49 ⊢; omega)
          refine SW_drawK (tbl := [0, 1, 3, 0, 8, 31, 63, 127]) (ord := [(3, 0), (4, 0), (0, 0), (1, 1), (2, 0), (5, 0), (6, 0), (7, 0)]) 20 rfl (by kernel_rfl) (by kernel_rfl) fun K hK => ?_
          simp only [go_sem, ↓reduceIte, Nat.reduceEqDiff, Nat.reduceAdd, c41]
          refine dcall_of (hrec_parse_at a0 (0 : Int) _ h43 _ _ _ (by simp only [go_sem, hg1, hg5])) rfl ?_
          simp only [go_sem, ↓reduceIte, Nat.reduceEqDiff, Nat.reduceAdd, f45, f48, f50]
          apply hK
          simp only [thenQ_normal]
          refine SW_ret ?_
          try simp only [thenQ_ret, blockQ_ret]
          obtain rfl := some_eq h
          refine ⟨by first | exact .inl rfl | exact .inl trivial | exact .inr rfl | exact .inr trivial, ?_⟩
          simp only [go_sem, ↓reduceIte, back_set, back_self]
        · replace h := ite_f c41 h
          refine SW_seq ?_
          refine SW_reg fun K hK => ?_
          simp only [go_sem, ↓reduceIte, Nat.reduceEqDiff, Nat.reduceAdd, c41]
          apply hK
          simp only [thenQ_normal]
          refine SW_if (a0.Kind_ == (9 : Int)) (by simp only [go_sem, ↓reduceIte]) (fun c52 => ?_) (fun c52 => ?_)
          · replace h := ite_t c52 h
            refine SW_seq ?_
            obtain ⟨x53, h55, h⟩ := bind_some h
            obtain ⟨x54, h56, h⟩ := bind_some h
            obtain ⟨f57, h⟩ := need_some h
            have f58 : a0.Text_.length + 1 ≤ 4611686018427387904 := by first | omega | (simp only [List.length_append, List.length_cons, List.length_nil] at f57 ⊢; omega)
            have f59 : a0.Text_.length ≤ 4611686018427387903 := by first | omega | (simp only [List.length_append, List.length_cons, List.length_nil] at f57 ⊢; omega)
            obtain ⟨f60, h⟩ := need_some h
            have f61 : a0.Text_.length + 1 + x53.length ≤ 4611686018427387904 := by first | omega | (simp only [List.length_append, List.length_cons, List.length_nil] at f60 ⊢; omega)
            obtain ⟨f62, h⟩ := need_some h
            have f63 : a0.Text_.length + 1 + x53.length + 4 ≤ 4611686018427387904 := by first | omega | (simp only [List.length_append, List.length_cons, List.length_nil] at f62 ⊢; omega)
            have f64 : a0.Text_.length + 1 + x53.length ≤ 4611686018427387900 := by first | omega | (simp only [List.length_append, List.length_cons, List.length_nil] at f62 ⊢; omega)
            obtain ⟨f65, h⟩ := need_some h
            have f66 : a0.Text_.length + 1 + x53.length + 4 + x54.length ≤ 4611686018427387904 := by first | omega | (simp only [List.length_append, List.length_cons, List.length_nil] at f65 ⊢; omega)
            obtain ⟨f67, h⟩ := need_some h
            have f68 : a0.Text_.length + 1 + x53.length + 4 + x54.length + 1 ≤ 4611686018427387904 := by first | omega | (simp only [List.length_append, List.length_cons, List.length_nil] at f67 ⊢; omega)
            have f69 : a0.Text_.length + 1 + x53.length + 4 + x54.length ≤ 4611686018427387903 := by first | omega | (simp only [List.length_append, List.length_cons, List.length_nil] at f67 ⊢; omega)
            refine SW_drawK (tbl := [0, 1, 3, 0, 8, 31, 63, 0, 152, 511, 1023, 2047]) (ord := [(3, 0), (4, 0), (7, 1), (8, 0), (0, 0), (1, 2), (2, 0), (5, 0), (6, 0), (9, 0), (10, 0), (11, 0)]) 26 rfl (by kernel_rfl) (by kernel_rfl) fun K hK => ?_
            simp only [go_sem, ↓reduceIte, Nat.reduceEqDiff, Nat.reduceAdd, c52]
            refine dcall_of (hrec_parse_at a0 (0 : Int) _ h55 _ _ _ (by simp only [go_sem, hg1, hg5])) rfl ?_
            simp only [go_sem, ↓reduceIte, Nat.reduceEqDiff, Nat.reduceAdd]
            refine dcall_of (hrec_parse_at a0 (1 : Int) _ h56 _ _ _ (by simp only [go_sem, hg1, hg5])) rfl ?_
            simp only [go_sem, ↓reduceIte, Nat.reduceEqDiff, Nat.reduceAdd, f58, f61, f63, f66, f68]
            apply hK
            simp only [thenQ_normal]
            refine SW_ret ?_
            try simp only [thenQ_ret, blockQ_ret]
            obtain rfl := some_eq h
            refine ⟨by first | exact .inl rfl | exact .inl trivial | exact .inr rfl | exact .inr trivial, ?_⟩
            simp only [go_sem, ↓reduceIte, back_set, back_self]
          · replace h := ite_f c52 h
            refine SW_seq ?_
            refine SW_reg fun K hK => ?_
            simp only [go_sem, ↓reduceIte, Nat.reduceEqDiff, Nat.reduceAdd, c52]
            apply hK
            simp only [thenQ_normal]
            refine SW_if (a0.Kind_ == (10 : Int)) (by simp only [go_sem, ↓reduceIte]) (fun c70 => ?_) (fun c70 => ?_)
            · replace h := ite_t c70 h
              refine SW_seq ?_
              obtain ⟨x71, h72, h⟩ := bind_some h
              obtain ⟨f73, h⟩ := need_some h
              have f74 : a0.Text_.length + 1 ≤ 4611686018427387904 := by first | omega | (simp only [List.length_append, List.length_cons, List.length_nil] at f73 ⊢; omega)
              have f75 : a0.Text_.length ≤ 4611686018427387903 := by first | omega | (simp only [List.length_append, List.length_cons, List.length_nil] at f73 ⊢; omega)
              obtain ⟨f76, h⟩ := need_some h
              have f77 : a0.Text_.length + 1 + x71.length ≤ 4611686018427387904 := by first | omega | (simp only [List.length_append, List.length_cons, List.length_nil] at f76 ⊢; omega)
              obtain ⟨f78, h⟩ := need_some h
              have f79 : a0.Text_.length + 1 + x71.length + 2 ≤ 4611686018427387904 := by first | omega | (simp only [List.length_append, List.length_cons, List.length_nil] at f78 ⊢; omega)
              have f80 : a0.Text_.length + 1 + x71.length ≤ 4611686018427387902 := by first | omega | (simp only [List.length_append, List.length_cons, List.length_nil] at f78 ⊢; omega)
              refine SW_drawK (tbl := [0, 1, 3, 0, 8, 24, 63, 127, 255]) (ord := [(3, 0), (4, 0), (5, 0), (0, 0), (1, 1), (2, 0), (6, 0), (7, 0), (8, 0)]) 25 rfl (by kernel_rfl) (by kernel_rfl) fun K hK => ?_
              simp only [go_sem, ↓reduceIte, Nat.reduceEqDiff, Nat.reduceAdd, c70]
              refine dcall_of (hrec_parse_all a0.List_ _ h72 _ _ _ (by simp only [go_sem, hg1, hg5])) rfl ?_
              simp only [go_sem, ↓reduceIte, Nat.reduceEqDiff, Nat.reduceAdd, f74, f77, f79]
              apply hK
              simp only [thenQ_normal]
              refine SW_ret ?_
              try simp only [thenQ_ret, blockQ_ret]
              obtain rfl := some_eq h
              refine ⟨by first | exact .inl rfl | exact .inl trivial | exact .inr rfl | exact .inr trivial, ?_⟩
              simp only [go_sem, ↓reduceIte, back_set, back_self]
            · replace h := ite_f c70 h
              refine SW_seq ?_
              refine SW_reg fun K hK => ?_
              simp only [go_sem, ↓reduceIte, Nat.reduceEqDiff, Nat.reduceAdd, c70]
              apply hK
              simp only [thenQ_normal]
              refine SW_if (a0.Kind_ == (12 : Int)) (by simp only [go_sem, ↓reduceIte]) (fun c81 => ?_) (fun c81 => ?_)
              · replace h := ite_t c81 h
                refine SW_seq ?_
                obtain ⟨x82, h85, h⟩ := bind_some h
                obtain ⟨x83, h86, h⟩ := bind_some h
                obtain ⟨x84, h87, h⟩ := bind_some h
                obtain ⟨f88, h⟩ := need_some h
                have f89 : 4 + a0.Text_.length ≤ 4611686018427387904 := by first | omega | (simp only [List.length_append, List.length_cons, List.length_nil] at f88 ⊢; omega)
                obtain ⟨f90, h⟩ := need_some h
                have f91 : a0.Text_.length + 1 + 1 + 1 + 1 + 4 ≤ 4611686018427387904 := by first | omega | (simp only [List.length_append, List.length_cons, List.length_nil] at f90 ⊢; omega)
                have f92 : a0.Text_.length ≤ 4611686018427387896 := by first | omega | (simp only [List.length_append, List.length_cons, List.length_nil] at f90 ⊢; omega)
                obtain ⟨f93, h⟩ := need_some h
                have f94 : a0.Text_.length + 4 + 1 + 1 + 1 + 1 + x82.length ≤ 4611686018427387904 := by first | omega | (simp only [List.length_append, List.length_cons, List.length_nil] at f93 ⊢; omega)
                obtain ⟨f95, h⟩ := need_some h
                have f96 : a0.Text_.length + 4 + x82.length + 1 + 1 + 1 + 1 + 4 ≤ 4611686018427387904 := by first | omega | (simp only [List.length_append, List.length_cons, List.length_nil] at f95 ⊢; omega)
                have f97 : a0.Text_.length + 4 + x82.length ≤ 4611686018427387896 := by first | omega | (simp only [List.length_append, List.length_cons, List.length_nil] at f95 ⊢; omega)
                obtain ⟨f98, h⟩ := need_some h
                have f99 : a0.Text_.length + 4 + x82.length + 4 + 1 + 1 + 1 + 1 + x83.length ≤ 4611686018427387904 := by first | omega | (simp only [List.length_append, List.length_cons, List.length_nil] at f98 ⊢; omega)
                obtain ⟨f100, h⟩ := need_some h
                have f101 : a0.Text_.length + 4 + x82.length + 4 + x83.length + 1 + 1 + 1 + 1 + 1 ≤ 4611686018427387904 := by first | omega | (simp only [List.length_append, List.length_cons, List.length_nil] at f100 ⊢; omega)
                have f102 : a0.Text_.length + 4 + x82.length + 4 + x83.length ≤ 4611686018427387899 := by first | omega | (simp only [List.length_append, List.length_cons, List.length_nil] at f100 ⊢; omega)
                obtain ⟨f103, h⟩ := need_some h
                have f104 : a0.Text_.length + 4 + x82.length + 4 + x83.length + 1 + 1 + 1 + 1 + 1 + x84.length ≤ 4611686018427387904 := by first | omega | (simp only [List.length_append, List.length_cons, List.length_nil] at f103 ⊢; omega)
                refine SW_drawK (tbl := [0, 1, 3, 7, 0, 16, 63, 127, 0, 304, 1023, 2047, 0, 4912, 16383, 32767]) (ord := [(4, 0), (5, 0), (8, 1), (9, 0), (12, 2), (13, 0), (0, 0), (1, 3), (2, 0), (3, 0), (6, 0), (7, 0), (10, 0), (11, 0), (14, 0), (15, 0)]) 34 rfl (by kernel_rfl) (by kernel_rfl) fun K hK => ?_
                simp only [go_sem, ↓reduceIte, Nat.reduceEqDiff, Nat.reduceAdd, c81]
                refine dcall_of (hrec_parse_at a0 (0 : Int) _ h85 _ _ _ (by simp only [go_sem, hg1, hg5])) rfl ?_
                simp only [go_sem, ↓reduceIte, Nat.reduceEqDiff, Nat.reduceAdd]
                refine dcall_of (hrec_parse_at a0 (1 : Int) _ h86 _ _ _ (by simp only [go_sem, hg1, hg5])) rfl ?_
                simp only [go_sem, ↓reduceIte, Nat.reduceEqDiff, Nat.reduceAdd]
                refine dcall_of (hrec_parse_at a0 (2 : Int) _ h87 _ _ _ (by simp only [go_sem, hg1, hg5])) rfl ?_
                simp only [go_sem, ↓reduceIte, Nat.reduceEqDiff, Nat.reduceAdd, f89, f91, f94, f96, f99, f101, f104]
                apply hK
                simp only [thenQ_normal]
                refine SW_ret ?_
                try simp only [thenQ_ret, blockQ_ret]
                obtain rfl := some_eq h
                refine ⟨by first | exact .inl rfl | exact .inl trivial | exact .inr rfl | exact .inr trivial, ?_⟩
                simp only [go_sem, ↓reduceIte, back_set, back_self]
              · replace h := ite_f c81 h
                refine SW_seq ?_
                refine SW_reg fun K hK => ?_
                simp only [go_sem, ↓reduceIte, Nat.reduceEqDiff, Nat.reduceAdd, c81]
                apply hK
                simp only [thenQ_normal]
                refine SW_if (a0.Kind_ == (13 : Int)) (by simp only [go_sem, ↓reduceIte]) (fun c105 => ?_) (fun c105 => ?_)
                · replace h := ite_t c105 h
                  refine SW_seq ?_
                  obtain ⟨x106, h107, h⟩ := bind_some h
                  obtain ⟨f108, h⟩ := need_some h
                  have f109 : 7 + x106.length ≤ 4611686018427387904 := by first | omega | (simp only [List.length_append, List.length_cons, List.length_nil] at f108 ⊢; omega)
                  obtain ⟨f110, h⟩ := need_some h
                  have f111 : x106.length + 1 + 1 + 1 + 1 + 1 + 1 + 1 + 1 ≤ 4611686018427387904 := by first | omega | (simp only [List.length_append, List.length_cons, List.length_nil] at f110 ⊢; omega)
                  have f112 : x106.length ≤ 4611686018427387896 := by first | omega | (simp only [List.length_append, List.length_cons, List.length_nil] at f110 ⊢; omega)
                  refine SW_reg fun K hK => ?_
                  simp only [go_sem, ↓reduceIte, Nat.reduceEqDiff, Nat.reduceAdd, c105]
                  refine SC.by_ (hrec_parse_at a0 (0 : Int) _ h107 _ _ _ (by simp only [go_sem, hg1, hg5])) ?_
                  simp only [go_sem, ↓reduceIte, Nat.reduceAdd, f109, f111]
                  apply hK
                  simp only [thenQ_normal]
                  refine SW_ret ?_
                  try simp only [thenQ_ret, blockQ_ret]
                  obtain rfl := some_eq h
                  refine ⟨by first | exact .inl rfl | exact .inl trivial | exact .inr rfl | exact .inr trivial, ?_⟩
                  simp only [go_sem, ↓reduceIte, back_set, back_self]
                · replace h := ite_f c105 h
                  refine SW_skip ?_
                  try simp only [thenQ_normal, blockQ_normal]
                  refine SW_seq ?_
                  obtain ⟨x113, h115, h⟩ := bind_some h
                  obtain ⟨x114, h116, h⟩ := bind_some h
                  obtain ⟨f117, h⟩ := need_some h
                  have f118 : 3 + x113.length ≤ 4611686018427387904 := by first | omega | (simp only [List.length_append, List.length_cons, List.length_nil] at f117 ⊢; omega)
                  obtain ⟨f119, h⟩ := need_some h
                  have f120 : x113.length + 1 + 1 + 1 + 1 ≤ 4611686018427387904 := by first | omega | (simp only [List.length_append, List.length_cons, List.length_nil] at f119 ⊢; omega)
                  have f121 : x113.length ≤ 4611686018427387900 := by first | omega | (simp only [List.length_append, List.length_cons, List.length_nil] at f119 ⊢; omega)
                  obtain ⟨f122, h⟩ := need_some h
                  have f123 : x113.length + 1 + 1 + 1 + 1 + x114.length ≤ 4611686018427387904 := by first | omega | (simp only [List.length_append, List.length_cons, List.length_nil] at f122 ⊢; omega)
                  refine SW_drawK (tbl := [0, 1, 3, 7, 0, 19, 63, 127]) (ord := [(0, 0), (1, 0), (4, 1), (5, 0), (2, 0), (3, 0), (6, 0), (7, 0)]) 28 rfl (by kernel_rfl) (by kernel_rfl) fun K hK => ?_
                  simp only [go_sem, ↓reduceIte, Nat.reduceEqDiff, Nat.reduceAdd, c105]
                  refine dcall_of (hrec_parse_at a0 (0 : Int) _ h115 _ _ _ (by simp only [go_sem, hg1, hg5])) rfl ?_
                  simp only [go_sem, ↓reduceIte, Nat.reduceEqDiff, Nat.reduceAdd]
                  refine dcall_of (hrec_parse_at a0 (1 : Int) _ h116 _ _ _ (by simp only [go_sem, hg1, hg5])) rfl ?_
                  simp only [go_sem, ↓reduceIte, Nat.reduceEqDiff, Nat.reduceAdd, f118, f120, f123]
                  apply hK
                  simp only [thenQ_normal]
                  refine SW_seq ?_
                  refine SW_seq ?_
                  refine SW_reg fun K hK => ?_
                  simp only [go_sem, ↓reduceIte, Nat.reduceEqDiff, Nat.reduceAdd]
                  apply hK
                  simp only [thenQ_normal]
                  refine SW_if (decide ((2 : Int) < (a0.List_.length : Int))) (by simp only [go_sem, ↓reduceIte]) (fun c124 => ?_) (fun c124 => ?_)
                  · replace h := ite_t c124 h
                    obtain ⟨x125, h126, h⟩ := bind_some h
                    obtain ⟨f127, h⟩ := need_some h
                    have f128 : 6 + x125.length ≤ 4611686018427387904 := by first | omega | (simp only [List.length_append, List.length_cons, List.length_nil] at f127 ⊢; omega)
                    obtain ⟨f129, h⟩ := need_some h
                    have f130 : x113.length + 1 + x114.length + 1 + 1 + 1 + (x125.length + 1 + 1 + 1 + 1 + 1 + 1) ≤ 4611686018427387904 := by first | omega | (simp only [List.length_append, List.length_cons, List.length_nil] at f129 ⊢; omega)
                    refine SW_reg fun K hK => ?_
                    simp only [go_sem, ↓reduceIte, Nat.reduceEqDiff, Nat.reduceAdd, c124]
                    refine SC.by_ (hrec_parse_at a0 (2 : Int) _ h126 _ _ _ (by simp only [go_sem, hg1, hg5])) ?_
                    simp only [go_sem, ↓reduceIte, Nat.reduceEqDiff, Nat.reduceAdd, f128, f130]
                    apply hK
                    simp only [thenQ_normal]
                    refine SW_seq ?_
                    refine SW_reg fun K hK => ?_
                    simp only [go_sem, ↓reduceIte, Nat.reduceAdd]
                    apply hK
                    simp only [thenQ_normal]
                    refine SW_ret ?_
                    try simp only []
                    obtain rfl := some_eq h
                    refine ⟨by first | exact .inl rfl | exact .inl trivial | exact .inr rfl | exact .inr trivial, ?_⟩
                    simp only [go_sem, ↓reduceIte, back_set, back_self]
                  · replace h := ite_f c124 h
                    refine SW_skip ?_
                    try simp only [thenQ_normal]
                    refine SW_seq ?_
                    refine SW_reg fun K hK => ?_
                    simp only [go_sem, ↓reduceIte, Nat.reduceEqDiff, Nat.reduceAdd, c124]
                    apply hK
                    simp only [thenQ_normal]
                    refine SW_ret ?_
                    try simp only []
                    obtain rfl := some_eq h
                    refine ⟨by first | exact .inl rfl | exact .inl trivial | exact .inr rfl | exact .inr trivial, ?_⟩
                    simp only [go_sem, ↓reduceIte, back_set, back_self]

theorem parse_text_grp_ok : ∀ n, parse_text_C (parse_text n) ∧ parse_several_C (parse_several n) ∧ parse_function_C (parse_function n) ∧ parse_param_C (parse_param n) ∧ parse_at_C (parse_at n) ∧ parse_all_C (parse_all n) ∧ parse_statement_C (parse_statement n)
  | 0 => ⟨fun _ _ h => none_some_ h, fun _ _ h => none_some_ h, fun _ _ h => none_some_ h, fun _ _ h => none_some_ h, fun _ _ _ h => none_some_ h, fun _ _ h => none_some_ h, fun _ _ h => none_some_ h⟩
  | n + 1 =>
    have ih := parse_text_grp_ok n
    ⟨parse_text_b_ok ih.2.1 ih.2.2.1 ih.2.2.2.1 ih.2.2.2.2.1 ih.2.2.2.2.2.1 ih.2.2.2.2.2.2 n, parse_several_b_ok ih.1 n, parse_function_b_ok ih.2.2.2.2.2.1 ih.2.2.2.2.1 n, parse_param_b_ok ih.2.2.2.2.1 n, parse_at_b_ok ih.1 n, parse_all_b_ok ih.1 n, parse_statement_b_ok ih.2.2.2.2.1 ih.2.2.2.2.2.1 n⟩
theorem parse_text_ok (n : Nat) : parse_text_C (parse_text n) := (parse_text_grp_ok n).1
def parse_Show_C (f : T_parse_Node → Option Str) : Prop := ∀ (a0 : T_parse_Node) (r : Str), f a0 = some r → ∀ (q : Pa) (m : M) (vs : List V), vs.map V.weak1 = [.agg ((T_parse_Node.C a0))] ∧ m.gl 1 = .eptr [(cA cS g_parse_kinds)] 0 0 ∧ m.gl 5 = .eptr [(cA (cI .u64) g_internal_strconv_uint64pow10)] 0 0 → SC Tryd.prog 19 vs q m (fun v m' => v = .lit (.string (bs r)) ∧ m' = m)

theorem parse_Show_ok (n : Nat) : parse_Show_C (parse_Show n) := by
  rintro a0 r h q m vs ⟨hv, hg1, hg5⟩
  refine SC.weak ?_
  rw [hv]
  refine SC_of Tryd.func19 rfl (fun xs w => Tryd.call19 xs w) Tryd.ntmps19 (by kernel_rfl) (congrArg Array.toList Tryd.results19) V.weak (fun _ _ _ => V.weak_ok) ?_
  unfold parse_Show at h
  refine SW_seq ?_
  refine SW_reg fun K hK => ?_
  simp only [go_sem, Nat.reduceAdd]
  apply hK
  simp only [thenQ_normal]
  refine SW_seq ?_
  obtain ⟨x2, h3, h⟩ := bind_some h
  refine SW_reg fun K hK => ?_
  simp only [go_sem, ↓reduceIte, Nat.reduceEqDiff, Nat.reduceAdd]
  refine SC.by_ (parse_text_ok n a0 _ h3 _ _ _ (by simp only [go_sem, hg1, hg5])) ?_
  simp only [go_sem, ↓reduceIte, Nat.reduceAdd]
  apply hK
  simp only [thenQ_normal]
  refine SW_ret ?_
  try simp only []
  obtain rfl := some_eq h
  refine ⟨by first | exact .inl rfl | exact .inl trivial | exact .inr rfl | exact .inr trivial, ?_⟩
  simp only [go_sem, ↓reduceIte, back_set, back_self]

def remontoirelaw10_ParseShows_C (f : Str → Option Bool) : Prop := ∀ (a0 : Str) (r : Bool), f a0 = some r → ∀ (q : Pa) (m : M) (vs : List V), vs.map V.weak1 = [.list .none (byteRows a0)] ∧ m.gl 0 = .eptr [(cA cS g_parse_words)] 0 0 ∧ m.gl 1 = .eptr [(cA cS g_parse_kinds)] 0 0 ∧ m.gl 3 = .eptr [(cA cS g_lex_signs)] 0 0 ∧ m.gl 5 = .eptr [(cA (cI .u64) g_internal_strconv_uint64pow10)] 0 0 ∧ m.gl 6 = .eptr [(cA (cA cS) g_parse_levels)] 0 0 → SC Tryd.prog 8 vs q m (fun v m' => v = .lit (.bool r) ∧ m' = m)

theorem remontoirelaw10_ParseShows_ok (n : Nat) : remontoirelaw10_ParseShows_C (remontoirelaw10_ParseShows n) := by
  rintro a0 r h q m vs ⟨hv, hg0, hg1, hg3, hg5, hg6⟩
  refine SC.weak ?_
  rw [hv]
  refine SC_of Tryd.func8 rfl (fun xs w => Tryd.call8 xs w) Tryd.ntmps8 (by kernel_rfl) (congrArg Array.toList Tryd.results8) V.weak (fun _ _ _ => V.weak_ok) ?_
  unfold remontoirelaw10_ParseShows at h
  refine SW_seq ?_
  refine SW_reg fun K hK => ?_
  simp only [go_sem]
  apply hK
  simp only [thenQ_normal]
  refine SW_seq ?_
  refine SW_seq ?_
  obtain ⟨x1, h2, h⟩ := bind_some h
  refine SW_reg fun K hK => ?_
  simp only [go_sem]
  refine SC.by_ (remontoirelaw10_anchor_ok n _ h2 _ _ _ (by simp only [go_sem, hg0, hg3, hg6])) ?_
  simp only [go_sem, ↓reduceIte, Nat.reduceAdd]
  apply hK
  simp only [thenQ_normal]
  refine SW_if (!x1) (by simp only [go_sem, ↓reduceIte]) (fun c3 => ?_) (fun c3 => ?_)
  · replace h := ite_t c3 h
    refine SW_seq ?_
    refine SW_reg fun K hK => ?_
    simp only [go_sem, Nat.reduceAdd, c3]
    apply hK
    simp only [thenQ_normal]
    refine SW_ret ?_
    try simp only [thenQ_ret]
    obtain rfl := some_eq h
    refine ⟨by first | exact .inl rfl | exact .inl trivial | exact .inr rfl | exact .inr trivial, ?_⟩
    simp only [go_sem, ↓reduceIte, back_self]
  · replace h := ite_f c3 h
    refine SW_skip ?_
    try simp only [thenQ_normal]
    refine SW_seq ?_
    refine SW_seq ?_
    refine SW_reg fun K hK => ?_
    simp only [go_sem, ↓reduceIte, Nat.reduceAdd, reduceCtorEq, c3]
    apply hK
    simp only [thenQ_normal]
    refine SW_if (decide ((3000 : Int) < (a0.length : Int))) (by simp only [go_sem, ↓reduceIte]) (fun c4 => ?_) (fun c4 => ?_)
    · replace h := ite_t c4 h
      refine SW_seq ?_
      refine SW_reg fun K hK => ?_
      simp only [go_sem, Nat.reduceAdd, c4]
      apply hK
      simp only [thenQ_normal]
      refine SW_ret ?_
      try simp only [thenQ_ret]
      obtain rfl := some_eq h
      refine ⟨by first | exact .inl rfl | exact .inl trivial | exact .inr rfl | exact .inr trivial, ?_⟩
      simp only [go_sem, ↓reduceIte, back_self]
    · replace h := ite_f c4 h
      refine SW_skip ?_
      try simp only [thenQ_normal]
      refine SW_seq ?_
      obtain ⟨x5, h7, h⟩ := bind_some h
      refine SW_reg fun K hK => ?_
      simp only [go_sem, ↓reduceIte, Nat.reduceAdd, reduceCtorEq, c4]
      refine SC.by_ (parse_Parse_ok n a0 _ h7 _ _ _ (by simp only [go_sem, hg0, hg3, hg6])) ?_
      simp only [go_sem, ↓reduceIte, Nat.reduceEqDiff, Nat.reduceAdd]
      apply hK
      simp only [thenQ_normal]
      refine SW_seq ?_
      refine SW_seq ?_
      refine SW_reg fun K hK => ?_
      simp only [go_sem, ↓reduceIte, Nat.reduceEqDiff, Nat.reduceAdd]
      apply hK
      simp only [thenQ_normal]
      refine SW_if (x5.2.1 != (0 : Int)) (by simp only [go_sem, ↓reduceIte]) (fun c8 => ?_) (fun c8 => ?_)
      · replace h := ite_t c8 h
        refine SW_seq ?_
        refine SW_reg fun K hK => ?_
        simp only [go_sem, Nat.reduceAdd, c8]
        apply hK
        simp only [thenQ_normal]
        refine SW_ret ?_
        try simp only [thenQ_ret]
        obtain rfl := some_eq h
        refine ⟨by first | exact .inl rfl | exact .inl trivial | exact .inr rfl | exact .inr trivial, ?_⟩
        simp only [go_sem, ↓reduceIte, back_set, back_self]
      · replace h := ite_f c8 h
        refine SW_skip ?_
        try simp only [thenQ_normal]
        refine SW_seq ?_
        obtain ⟨x9, h10, h⟩ := bind_some h
        refine SW_reg fun K hK => ?_
        simp only [go_sem, ↓reduceIte, Nat.reduceEqDiff, Nat.reduceAdd, c8]
        refine SC.by_ (parse_Show_ok n x5.1 _ h10 _ _ _ (by simp only [go_sem, hg1, hg5])) ?_
        simp only [go_sem, ↓reduceIte, Nat.reduceAdd]
        apply hK
        simp only [thenQ_normal]
        refine SW_seq ?_
        obtain ⟨f13, h⟩ := need_some h
        have f14 : x9.length ≤ 4611686018427387904 := by first | omega | (simp only [List.length_append, List.length_cons, List.length_nil] at f13 ⊢; omega)
        obtain ⟨x11, h15, h⟩ := bind_some h
        refine SW_reg fun K hK => ?_
        simp only [go_sem, ↓reduceIte, Nat.reduceAdd, f13]
        refine SC.by_ (parse_Parse_ok n x9 _ h15 _ _ _ (by simp only [go_sem, hg0, hg3, hg6])) ?_
        simp only [go_sem, ↓reduceIte, Nat.reduceEqDiff, Nat.reduceAdd]
        apply hK
        simp only [thenQ_normal]
        refine SW_seq ?_
        refine SW_seq ?_
        obtain ⟨y16, hy16, h⟩ := bind_some h
        refine SW_joinK 38 [] [] rfl (fun E' m' => E' 3 = .ptr (12 :: q) 0 ∧ E' 6 = .lit (.string (bs x9)) ∧ E' 7 = .ptr (28 :: q) 0 ∧ E' 8 = .lit (.int .i64 x11.2.1) ∧ E' 37 = .lit (.bool y16) ∧ m'.blk (28 :: q) = some ((T_parse_Node.C x11.1)) ∧ m'.blk (12 :: q) = some ((T_parse_Node.C x5.1)) ∧ m'.gl = m.gl ∧ m.back q m' = m) ?_ ?_
        · rcases bool_or (x11.2.1 == (111 : Int)) with c17 | c17
          · replace hy16 := ite_t c17 hy16
            refine SW_reg fun K hK => ?_
            simp only [go_sem, ↓reduceIte, Nat.reduceEqDiff, Nat.reduceAdd, c17]
            apply hK
            simp only [thenQ_normal]
            obtain rfl := some_eq hy16
            refine ⟨by decide, ?_⟩
            simp only [go_sem, ↓reduceIte, Nat.reduceEqDiff, back_set, back_self]
          · replace hy16 := ite_f c17 hy16
            refine SW_reg fun K hK => ?_
            simp only [go_sem, ↓reduceIte, Nat.reduceEqDiff, Nat.reduceAdd, c17]
            apply hK
            simp only [thenQ_normal]
            obtain rfl := some_eq hy16
            refine ⟨by decide, ?_⟩
            simp only [go_sem, ↓reduceIte, Nat.reduceEqDiff, back_set, back_self]
        · intro E18 m19 e20 _
          simp only [thenQ_normal]
          refine SW_if y16 (by simp only [go_sem, e20]) (fun c21 => ?_) (fun c21 => ?_)
          · replace h := ite_t c21 h
            refine SW_seq ?_
            refine SW_reg fun K hK => ?_
            simp only [go_sem, Nat.reduceAdd]
            apply hK
            simp only [thenQ_normal]
            refine SW_ret ?_
            try simp only [thenQ_ret]
            obtain rfl := some_eq h
            refine ⟨by first | exact .inl rfl | exact .inl trivial | exact .inr rfl | exact .inr trivial, ?_⟩
            simp only [go_sem, ↓reduceIte, e20]
          · replace h := ite_f c21 h
            refine SW_skip ?_
            try simp only [thenQ_normal]
            refine SW_seq ?_
            obtain ⟨y22, hy22, h⟩ := bind_some h
            refine SW_joinK 52 [] [] rfl (fun E' m' => E' 2 = .lit (.bool y22) ∧ m'.gl = m.gl ∧ m.back q m' = m) ?_ ?_
            · rcases bool_or (x11.2.1 == (0 : Int)) with c23 | c23
              · replace hy22 := ite_t c23 hy22
                obtain ⟨x24, h25, hy22⟩ := bind_some hy22
                rcases bool_or x24 with c26 | c26
                · replace hy22 := ite_t c26 hy22
                  obtain ⟨x27, h28, hy22⟩ := bind_some hy22
                  refine SW_reg fun K hK => ?_
                  simp only [go_sem, ↓reduceIte, Nat.reduceEqDiff, Nat.reduceAdd, c23, e20]
                  refine SC.by_ (parse_Same_ok n x5.1 x11.1 _ h25 _ _ _ (by simp only [go_sem])) ?_
                  simp only [go_sem, ↓reduceIte, Nat.reduceEqDiff, Nat.reduceAdd, c26, e20]
                  refine SC.by_ (parse_Show_ok n x11.1 _ h28 _ _ _ (by simp only [go_sem, e20, hg1, hg5])) ?_
                  simp only [go_sem, ↓reduceIte, Nat.reduceEqDiff, Nat.reduceAdd, e20]
                  apply hK
                  simp only [thenQ_normal]
                  obtain rfl := some_eq hy22
                  refine ⟨by decide, ?_⟩
                  simp only [go_sem, ↓reduceIte, e20]
                · replace hy22 := ite_f c26 hy22
                  refine SW_reg fun K hK => ?_
                  simp only [go_sem, ↓reduceIte, Nat.reduceEqDiff, Nat.reduceAdd, c23, e20]
                  refine SC.by_ (parse_Same_ok n x5.1 x11.1 _ h25 _ _ _ (by simp only [go_sem])) ?_
                  simp only [go_sem, ↓reduceIte, Nat.reduceEqDiff, Nat.reduceAdd, c26]
                  apply hK
                  simp only [thenQ_normal]
                  obtain rfl := some_eq hy22
                  refine ⟨by decide, ?_⟩
                  simp only [go_sem, ↓reduceIte, e20]
              · replace hy22 := ite_f c23 hy22
                refine SW_reg fun K hK => ?_
                simp only [go_sem, ↓reduceIte, Nat.reduceEqDiff, Nat.reduceAdd, c23, e20]
                apply hK
                simp only [thenQ_normal]
                obtain rfl := some_eq hy22
                refine ⟨by decide, ?_⟩
                simp only [go_sem, ↓reduceIte, e20]
            · intro E29 m30 e31 _
              simp only [thenQ_normal]
              refine SW_ret ?_
              try simp only []
              obtain rfl := some_eq h
              refine ⟨by first | exact .inl rfl | exact .inl trivial | exact .inr rfl | exact .inr trivial, ?_⟩
              simp only [go_sem, e31]

end Go.Proofs.YtolhahlnccekcaaDoor.Abs
