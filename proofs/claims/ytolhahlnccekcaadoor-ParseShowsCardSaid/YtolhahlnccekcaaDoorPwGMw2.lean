/-
  Walks: each function does what its model says. Written by a program of mine (gen.py) for this claim.
-/
import Derived.Test.YtolhahlnccekcaaDoorPwGMw1
import Derived.Test.YtolhahlnccekcaaDoorPwGMm
import Derived.Test.YtolhahlnccekcaaDoorPwFacts
import Derived.Test.YtolhahlnccekcaaDoorPwSv7
namespace Go.Proofs.YtolhahlnccekcaaDoor.Abs
open Go.RowKit
set_option linter.unusedVariables false
set_option maxRecDepth 10000

def parse_Parse_C (f : Str → Option (T_parse_Node × Int × Int)) : Prop := ∀ (a0 : Str) (r : (T_parse_Node × Int × Int)), f a0 = some r → ∀ (q : Pa) (m : M) (vs : List V), vs.map V.weak1 = [.list .none (byteRows a0)] ∧ m.gl 0 = .eptr [(cA cS g_parse_words)] 0 0 ∧ m.gl 3 = .eptr [(cA cS g_lex_signs)] 0 0 ∧ m.gl 6 = .eptr [(cA (cA cS) g_parse_levels)] 0 0 → SC Tryd.prog 14 vs q m (fun v m' => v = .tup [.agg ((T_parse_Node.C r.1)), .lit (.int .i64 r.2.1), .lit (.int .i64 r.2.2)] ∧ m' = m)

theorem parse_Parse_ok (n : Nat) : parse_Parse_C (parse_Parse n) := by
  rintro a0 r h q m vs ⟨hv, hg0, hg3, hg6⟩
  refine SC.weak ?_
  rw [hv]
  refine SC_of Tryd.func14 rfl (fun xs w => Tryd.call14 xs w) Tryd.ntmps14 (by kernel_rfl) (congrArg Array.toList Tryd.results14) V.weak (fun _ _ _ => V.weak_ok) ?_
  unfold parse_Parse at h
  refine SW_seq ?_
  refine SW_reg fun K hK => ?_
  simp only [go_sem, Nat.reduceAdd]
  apply hK
  simp only [thenQ_normal]
  refine SW_seq ?_
  obtain ⟨x2, h3, h⟩ := bind_some h
  refine SW_reg fun K hK => ?_
  simp only [go_sem, ↓reduceIte, Nat.reduceAdd, reduceCtorEq]
  refine SC.by_ (lex_Tokens_ok n a0 _ h3 _ _ _ (by simp only [go_sem, hg3])) ?_
  simp only [go_sem, ↓reduceIte, Nat.reduceEqDiff, Nat.reduceAdd]
  apply hK
  simp only [thenQ_normal]
  refine SW_seq ?_
  refine SW_seq ?_
  refine SW_reg fun K hK => ?_
  simp only [go_sem, ↓reduceIte, Nat.reduceEqDiff, Nat.reduceAdd]
  apply hK
  simp only [thenQ_normal]
  refine SW_if (x2.2.1 != (0 : Int)) (by simp only [go_sem, ↓reduceIte]) (fun c4 => ?_) (fun c4 => ?_)
  · replace h := ite_t c4 h
    refine SW_seq ?_
    refine SW_reg fun K hK => ?_
    simp only [go_sem, ↓reduceIte, Nat.reduceEqDiff, Nat.reduceAdd, c4]
    apply hK
    simp only [thenQ_normal]
    refine SW_ret ?_
    try simp only [thenQ_ret]
    obtain rfl := some_eq h
    refine ⟨by first | exact .inl rfl | exact .inl trivial | exact .inr rfl | exact .inr trivial, ?_⟩
    simp only [go_sem, ↓reduceIte, Nat.reduceEqDiff, Nat.reduceAdd, back_set, back_bump, back_self]
  · replace h := ite_f c4 h
    refine SW_skip ?_
    try simp only [thenQ_normal]
    refine SW_seq ?_
    refine SW_reg fun K hK => ?_
    simp only [go_sem, ↓reduceIte, Nat.reduceEqDiff, Nat.reduceAdd, Nat.reduceLeDiff, c4]
    apply hK
    simp only [thenQ_normal]
    refine SW_seq ?_
    obtain ⟨x6, h8, h⟩ := bind_some h
    refine SW_reg fun K hK => ?_
    simp only [go_sem, ↓reduceIte, Nat.reduceAdd]
    refine SC.mono (p_parse_parser_node_ok (T_parse_parser.mk x2.1 (0 : Int) (0 : Int) (0 : Int) (0 : Int)) (1 : Int) _ h8 _ _ _ (16 :: q) (by simp only [go_sem, ↓reduceIte])) ?_
    rintro _ _ ⟨o_x6, j_x6, s_x6, rfl, rfl⟩
    replace s_x6 : q <:+ o_x6 := List.IsSuffix.trans (by simp only [go_sem]) s_x6
    simp only [go_sem, ↓reduceIte, Nat.reduceEqDiff, Nat.reduceAdd]
    apply hK
    simp only [thenQ_normal]
    refine SW_seq ?_
    refine SW_block ?_
    obtain ⟨y12, hy12, h⟩ := bind_some h
    refine SW_countW [] [] rfl (fun c E' m' => ∃ (v10 : T_parse_parser), ∃ (v11 : T_parse_Node), parse_Parse_l1 n c v10 v11 = some y12 ∧ E' 2 = .ptr (0 :: q) 0 ∧ E' 8 = .ptr (16 :: q) 0 ∧ E' 9 = .ptr (20 :: q) 0 ∧ m'.blk (0 :: q) = some ([.lit (.int .i64 (0 : Int)), .lit (.int .i64 (0 : Int)), .lit (.string (bs [])), .lit (.int .u32 (0 : Int)), .list .self ([].map T_parse_Node.C)]) ∧ m'.blk (16 :: q) = some ((T_parse_parser.C v10)) ∧ m'.blk (20 :: q) = some ([.lit (.int .i64 v11.Kind_), .lit (.int .i64 v11.At_), .lit (.string (bs v11.Text_)), .lit (.int .u32 v11.Num_), .list .self (v11.List_.map T_parse_Node.C)]) ∧ m'.gl = m.gl ∧ m.back q m' = m) n ⟨x6.2, x6.1, hy12, ?_⟩ ?_
    · simp only [go_sem, ↓reduceIte, Nat.reduceEqDiff, reduceCtorEq, back_set, back_bump, back_tokset, back_self, s_x6]
    rintro i9 c13 E14 m15 ⟨v10, v11, hy12, e16⟩ _
    rcases c13 with _ | c13
    · exact absurd hy12 (by rw [parse_Parse_l1]; exact fun e => nomatch e)
    rw [parse_Parse_l1] at hy12
    refine SW_seq ?_
    refine SW_seq ?_
    obtain ⟨y17, hy17, hy12⟩ := bind_some hy12
    refine SW_joinK 11 [] [] rfl (fun E' m' => E' 2 = .ptr (0 :: q) 0 ∧ E' 8 = .ptr (16 :: q) 0 ∧ E' 9 = .ptr (20 :: q) 0 ∧ E' 36 = .lit (.bool y17) ∧ m'.blk (0 :: q) = some ([.lit (.int .i64 (0 : Int)), .lit (.int .i64 (0 : Int)), .lit (.string (bs [])), .lit (.int .u32 (0 : Int)), .list .self ([].map T_parse_Node.C)]) ∧ m'.blk (16 :: q) = some ((T_parse_parser.C v10)) ∧ m'.blk (20 :: q) = some ([.lit (.int .i64 v11.Kind_), .lit (.int .i64 v11.At_), .lit (.string (bs v11.Text_)), .lit (.int .u32 v11.Num_), .list .self (v11.List_.map T_parse_Node.C)]) ∧ m'.gl = m.gl ∧ m.back q m' = m) ?_ ?_
    · rcases bool_or (v10.e_ == (0 : Int)) with c18 | c18
      · replace hy17 := ite_t c18 hy17
        obtain ⟨x19, h20, hy17⟩ := bind_some hy17
        refine SW_reg fun K hK => ?_
        simp only [go_sem, ↓reduceIte, Nat.reduceEqDiff, Nat.reduceAdd, c18, e16]
        refine SC.by_ (p_parse_parser_token_ok v10 _ h20 _ _ _ (16 :: q) (by simp only [go_sem, e16])) ?_
        simp only [go_sem, ↓reduceIte, Nat.reduceEqDiff, Nat.reduceAdd]
        apply hK
        simp only [thenQ_normal]
        obtain rfl := some_eq hy17
        refine ⟨by decide, ?_⟩
        simp only [go_sem, ↓reduceIte, Nat.reduceEqDiff, e16]
      · replace hy17 := ite_f c18 hy17
        refine SW_reg fun K hK => ?_
        simp only [go_sem, ↓reduceIte, Nat.reduceEqDiff, Nat.reduceAdd, c18, e16]
        apply hK
        simp only [thenQ_normal]
        obtain rfl := some_eq hy17
        refine ⟨by decide, ?_⟩
        simp only [go_sem, ↓reduceIte, Nat.reduceEqDiff, e16]
    · intro E21 m22 e23 _
      simp only [thenQ_normal]
      refine SW_if y17 (by simp only [go_sem, e23]) (fun c24 => ?_) (fun c24 => ?_)
      · replace hy12 := ite_t c24 hy12
        refine SW_skip ?_
        try simp only [thenQ_normal]
        refine SW_block ?_
        obtain ⟨x25, h26, hy12⟩ := bind_some hy12
        obtain ⟨f27, hy12⟩ := need_some hy12
        have f28 : v11.List_.length + 1 ≤ 1073741824 := by first | omega | (simp only [List.length_append, List.length_cons, List.length_nil] at f27 ⊢; omega)
        have f29 : v11.List_.length ≤ 1073741823 := by first | omega | (simp only [List.length_append, List.length_cons, List.length_nil] at f27 ⊢; omega)
        refine SW_drawK (tbl := [0, 1, 0, 4, 12, 31, 63, 127]) (ord := [(2, 0), (3, 0), (0, 0), (1, 1), (4, 0), (5, 0), (6, 0), (7, 0)]) 19 rfl (by kernel_rfl) (by kernel_rfl) fun K hK => ?_
        simp only [go_sem, ↓reduceIte, Nat.reduceAdd, e23]
        refine dcall_of (p_parse_parser_function_ok n v10 _ h26 _ _ _ (16 :: q) (by simp only [go_sem, e23, hg0, hg6])) rfl ?_
        simp only [go_sem, ↓reduceIte, Nat.reduceEqDiff, Nat.reduceAdd, Nat.reduceLT, Nat.reduceLeDiff, f28, e23]
        apply hK
        simp only [thenQ_normal, blockQ_normal]
        refine ⟨c13, Nat.lt_succ_self _, x25.2, ({ v11 with List_ := (v11.List_ ++ [x25.1]) } : T_parse_Node), hy12, ?_⟩
        simp only [go_sem, ↓reduceIte, Nat.reduceEqDiff, reduceCtorEq, back_set, back_bump, back_tokset, e23]
      · replace hy12 := ite_f c24 hy12
        refine SW_exit ?_
        try simp only [thenQ_exit, blockQ_exit, ↓reduceIte, thenQ_normal]
        obtain rfl := some_eq hy12
        refine SW_seq ?_
        refine SW_seq ?_
        refine SW_reg fun K hK => ?_
        simp only [go_sem, ↓reduceIte, Nat.reduceAdd, e23]
        apply hK
        simp only [thenQ_normal]
        refine SW_if (v10.e_ != (0 : Int)) (by simp only [go_sem, ↓reduceIte]) (fun c30 => ?_) (fun c30 => ?_)
        · replace h := ite_t c30 h
          refine SW_seq ?_
          refine SW_drawK (tbl := [0, 0, 2, 6, 14, 0, 32, 96, 224, 1, 543, 2047]) (ord := [(0, 0), (9, 0), (1, 0), (2, 0), (3, 0), (4, 1), (5, 0), (6, 0), (7, 0), (8, 1), (10, 0), (11, 0)]) 40 rfl (by kernel_rfl) (by kernel_rfl) fun K hK => ?_
          simp only [go_sem, ↓reduceIte, Nat.reduceEqDiff, Nat.reduceAdd, reduceCtorEq, c30, e23]
          apply hK
          simp only [thenQ_normal]
          refine SW_ret ?_
          try simp only [thenQ_ret]
          obtain rfl := some_eq h
          refine ⟨by first | exact .inl rfl | exact .inl trivial | exact .inr rfl | exact .inr trivial, ?_⟩
          simp only [go_sem, ↓reduceIte, Nat.reduceEqDiff, Nat.reduceAdd, back_set, back_bump, e23]
        · replace h := ite_f c30 h
          refine SW_skip ?_
          try simp only [thenQ_normal]
          refine SW_seq ?_
          refine SW_reg fun K hK => ?_
          simp only [go_sem, ↓reduceIte, Nat.reduceEqDiff, Nat.reduceAdd, c30, e23]
          apply hK
          simp only [thenQ_normal]
          refine SW_ret ?_
          try simp only []
          obtain rfl := some_eq h
          refine ⟨by first | exact .inl rfl | exact .inl trivial | exact .inr rfl | exact .inr trivial, ?_⟩
          simp only [go_sem, ↓reduceIte, Nat.reduceEqDiff, Nat.reduceAdd, back_set, e23]

def remontoirelaw10_flat_C (f : T_parse_Node → Int → Option (List T_remontoireref10_N)) : Prop := ∀ (a0 : T_parse_Node) (a1 : Int) (r : (List T_remontoireref10_N)), f a0 a1 = some r → ∀ (q : Pa) (m : M) (vs : List V), vs.map V.weak1 = [.agg ((T_parse_Node.C a0)), .lit (.int .i64 a1)] → SC Tryd.prog 15 vs q m (fun v m' => v = .list .none (r.map T_remontoireref10_N.C) ∧ m' = m)

theorem remontoirelaw10_flat_b_ok {rec_remontoirelaw10_flat : T_parse_Node → Int → Option (List T_remontoireref10_N)} (hrec_remontoirelaw10_flat : remontoirelaw10_flat_C rec_remontoirelaw10_flat) (n : Nat) : remontoirelaw10_flat_C (remontoirelaw10_flat_b rec_remontoirelaw10_flat n) := by
  intro a0 a1 r h q m vs hv
  refine SC.weak ?_
  rw [hv]
  refine SC_of Tryd.func15 rfl (fun xs w => Tryd.call15 xs w) Tryd.ntmps15 (by kernel_rfl) (congrArg Array.toList Tryd.results15) V.weak (fun _ _ _ => V.weak_ok) ?_
  unfold remontoirelaw10_flat_b at h
  refine SW_seq ?_
  refine SW_reg fun K hK => ?_
  simp only [go_sem, Nat.reduceAdd]
  apply hK
  simp only [thenQ_normal]
  refine SW_seq ?_
  refine SW_reg fun K hK => ?_
  simp only [go_sem, ↓reduceIte, Nat.reduceEqDiff, Nat.reduceAdd, Nat.reduceLT, Nat.reduceLeDiff]
  apply hK
  simp only [thenQ_normal]
  refine SW_seq ?_
  refine SW_seq ?_
  refine SW_reg fun K hK => ?_
  simp only [go_sem, ↓reduceIte, Nat.reduceEqDiff, Nat.reduceAdd]
  apply hK
  simp only [thenQ_normal]
  refine SW_if (decide ((20000 : Int) < a1)) (by simp only [go_sem, ↓reduceIte]) (fun c2 => ?_) (fun c2 => ?_)
  · replace h := ite_t c2 h
    refine SW_seq ?_
    refine SW_reg fun K hK => ?_
    simp only [go_sem, ↓reduceIte, Nat.reduceEqDiff, Nat.reduceAdd, c2]
    apply hK
    simp only [thenQ_normal]
    refine SW_ret ?_
    try simp only [thenQ_ret]
    obtain rfl := some_eq h
    refine ⟨by first | exact .inl rfl | exact .inl trivial | exact .inr rfl | exact .inr trivial, ?_⟩
    simp only [go_sem, ↓reduceIte, back_set, back_self]
  · replace h := ite_f c2 h
    refine SW_skip ?_
    try simp only [thenQ_normal]
    refine SW_seq ?_
    refine SW_seq ?_
    refine SW_reg fun K hK => ?_
    simp only [go_sem, ↓reduceIte, Nat.reduceEqDiff, Nat.reduceAdd, c2]
    apply hK
    simp only [thenQ_normal]
    refine SW_block ?_
    obtain ⟨y6, hy6, h⟩ := bind_some h
    refine SW_stamp 5 ([(T_remontoireref10_N.mk a0.Kind_ a0.At_ a0.Text_ a0.Num_ (a0.List_.length : Int))].map T_remontoireref10_N.C) rfl (by simp only [go_sem, ↓reduceIte, Nat.reduceEqDiff]) ?_
    refine SW_countW [] [] rfl (fun c E' m' => ∃ (v4 : (List T_remontoireref10_N)), ∃ (v5 : Int), ∃ (o_v4 : Pa) (j_v4 : Nat), remontoirelaw10_flat_l1 rec_remontoirelaw10_flat a0 a1 c v4 v5 = some y6 ∧ E' 1 = .lit (.int .i64 a1) ∧ E' 5 = .list (.st (.anon o_v4 j_v4)) (v4.map T_remontoireref10_N.C) ∧ m'.tok o_v4 j_v4 = true ∧ q <:+ o_v4 ∧ E' 25 = .list .none (a0.List_.map T_parse_Node.C) ∧ E' 26 = .lit (.int .i64 (a0.List_.length : Int)) ∧ E' 27 = .lit (.int .i64 v5) ∧ m'.gl = m.gl ∧ m.back q m' = m) n ⟨[(T_remontoireref10_N.mk a0.Kind_ a0.At_ a0.Text_ a0.Num_ (a0.List_.length : Int))], (0 : Int), (22 :: q), 0, hy6, ?_⟩ ?_
    · simp only [go_sem, ↓reduceIte, Nat.reduceEqDiff, back_set, back_tokset, back_self]
    rintro i3 c7 E8 m9 ⟨v4, v5, o_v4, j_v4, hy6, e10⟩ _
    rcases c7 with _ | c7
    · exact absurd hy6 (by rw [remontoirelaw10_flat_l1]; exact fun e => nomatch e)
    rw [remontoirelaw10_flat_l1] at hy6
    refine SW_seq ?_
    refine SW_reg fun K hK => ?_
    simp only [go_sem, Nat.reduceAdd, e10]
    apply hK
    simp only [thenQ_normal]
    refine SW_seq ?_
    refine SW_if (decide (v5 < (a0.List_.length : Int))) (by simp only [go_sem, ↓reduceIte]) (fun c11 => ?_) (fun c11 => ?_)
    · replace hy6 := ite_t c11 hy6
      refine SW_skip ?_
      try simp only [thenQ_normal]
      refine SW_seq ?_
      refine SW_block ?_
      refine SW_seq ?_
      obtain ⟨x12, h17, hy6⟩ := bind_some hy6
      obtain ⟨f14, f15, f16⟩ := idxL_some h17
      refine SW_reg fun K hK => ?_
      simp only [go_sem, ↓reduceIte, Nat.reduceEqDiff, Nat.reduceAdd, f14, f15, f16, e10]
      apply hK
      simp only [thenQ_normal]
      obtain ⟨x18, h19, hy6⟩ := bind_some hy6
      obtain ⟨f20, hy6⟩ := need_some hy6
      have f21 : v4.length + x18.length ≤ 1073741824 := by first | omega | (simp only [List.length_append, List.length_cons, List.length_nil] at f20 ⊢; omega)
      refine SW_reg fun K hK => ?_
      simp only [go_sem, ↓reduceIte, Nat.reduceEqDiff, Nat.reduceAdd, e10]
      refine SC.by_ (hrec_remontoirelaw10_flat x12 (IntKind.i64.wrap (a1 + (1 : Int))) _ h19 _ _ _ (by simp only [go_sem])) ?_
      simp only [go_sem, ↓reduceIte, Nat.reduceEqDiff, Nat.reduceAdd, Nat.reduceLT, Nat.reduceLeDiff, f20, e10]
      apply hK
      simp only [thenQ_normal, blockQ_normal]
      refine SW_reg fun K hK => ?_
      simp only [go_sem, ↓reduceIte, Nat.reduceEqDiff, Nat.reduceAdd, e10]
      apply hK
      simp only [thenQ_normal]
      refine ⟨c7, Nat.lt_succ_self _, (v4 ++ x18), (IntKind.i64.wrap (v5 + (1 : Int))), (10 :: i3 :: 23 :: q), 0, hy6, ?_⟩
      simp only [go_sem, ↓reduceIte, Nat.reduceEqDiff, back_set, back_tokset, e10]
    · replace hy6 := ite_f c11 hy6
      refine SW_exit ?_
      try simp only [thenQ_exit, blockQ_exit, ↓reduceIte, thenQ_normal]
      obtain rfl := some_eq hy6
      refine SW_seq ?_
      refine SW_reg fun K hK => ?_
      simp only [go_sem, ↓reduceIte, Nat.reduceEqDiff, Nat.reduceAdd, c11, e10]
      apply hK
      simp only [thenQ_normal]
      refine SW_ret ?_
      try simp only []
      obtain rfl := some_eq h
      refine ⟨by first | exact .inl rfl | exact .inl trivial | exact .inr rfl | exact .inr trivial, ?_⟩
      simp only [go_sem, ↓reduceIte, e10]

theorem remontoirelaw10_flat_ok : ∀ n, remontoirelaw10_flat_C (remontoirelaw10_flat n)
  | 0 => fun _ _ _ h => none_some_ h
  | n + 1 => remontoirelaw10_flat_b_ok (remontoirelaw10_flat_ok n) n

def remontoirelaw10_anchor_C (f : Option Bool) : Prop := ∀ (r : Bool), f = some r → ∀ (q : Pa) (m : M) (vs : List V), vs.map V.weak1 = [] ∧ m.gl 0 = .eptr [(cA cS g_parse_words)] 0 0 ∧ m.gl 3 = .eptr [(cA cS g_lex_signs)] 0 0 ∧ m.gl 6 = .eptr [(cA (cA cS) g_parse_levels)] 0 0 → SC Tryd.prog 11 vs q m (fun v m' => v = .lit (.bool r) ∧ m' = m)

theorem remontoirelaw10_anchor_ok (n : Nat) : remontoirelaw10_anchor_C (remontoirelaw10_anchor n) := by
  rintro r h q m vs ⟨hv, hg0, hg3, hg6⟩
  refine SC.weak ?_
  rw [hv]
  refine SC_of Tryd.func11 rfl (fun xs w => Tryd.call11 xs w) Tryd.ntmps11 (by kernel_rfl) (congrArg Array.toList Tryd.results11) V.weak (fun _ _ _ => V.weak_ok) ?_
  unfold remontoirelaw10_anchor at h
  refine SW_seq ?_
  refine SW_reg fun K hK => ?_
  simp only [go_sem]
  apply hK
  simp only [thenQ_normal]
  refine SW_seq ?_
  obtain ⟨x1, h3, h⟩ := bind_some h
  refine SW_reg fun K hK => ?_
  simp only [go_sem, ↓reduceIte, Nat.reduceAdd, Nat.reduceLT, Nat.reduceLeDiff, reduceCtorEq]
  refine SC.by_ (parse_Parse_ok n ([102, 110, 32, 102, 40, 41, 123, 120, 61, 49, 43, 50, 42, 51, 59, 125] : Str) _ h3 _ _ _ (by simp only [go_sem, UInt8.reduceToNat, hg0, hg3, hg6])) ?_
  simp only [go_sem, ↓reduceIte, Nat.reduceEqDiff, Nat.reduceAdd]
  apply hK
  simp only [thenQ_normal]
  refine SW_seq ?_
  obtain ⟨x4, h5, h⟩ := bind_some h
  refine SW_reg fun K hK => ?_
  simp only [go_sem, ↓reduceIte, Nat.reduceEqDiff, Nat.reduceAdd]
  refine SC.by_ (remontoirelaw10_flat_ok n x1.1 (0 : Int) _ h5 _ _ _ (by simp only [go_sem])) ?_
  simp only [go_sem, ↓reduceIte, Nat.reduceAdd]
  apply hK
  simp only [thenQ_normal]
  refine SW_seq ?_
  obtain ⟨y6, hy6, h⟩ := bind_some h
  refine SW_joinK 37 [] [] rfl (fun E' m' => E' 0 = .lit (.bool y6) ∧ m'.gl = m.gl ∧ m.back q m' = m) ?_ ?_
  · rcases bool_or (x1.2.1 == (0 : Int)) with c7 | c7
    · replace hy6 := ite_t c7 hy6
      rcases bool_or ((x4.length : Int) == (9 : Int)) with c8 | c8
      · replace hy6 := ite_t c8 hy6
        obtain ⟨x9, h13, hy6⟩ := bind_some hy6
        obtain ⟨f10, f11, f12⟩ := idxL_some h13
        have f14 : x4[4]? = some x9 := f12
        rcases bool_or (decide (x9.Text_ = ([43] : Str))) with c15 | c15
        · replace hy6 := ite_t c15 hy6
          obtain ⟨x16, h20, hy6⟩ := bind_some hy6
          obtain ⟨f17, f18, f19⟩ := idxL_some h20
          have f21 : x4[6]? = some x16 := f19
          refine SW_reg fun K hK => ?_
          simp only [go_sem, ↓reduceIte, Nat.reduceEqDiff, Nat.reduceAdd, Int.reduceToNat, c7, c8, f10, f11, f14, c15, f17, f18, f21]
          apply hK
          simp only [thenQ_normal]
          obtain rfl := some_eq hy6
          refine ⟨by decide, ?_⟩
          simp only [go_sem, ↓reduceIte, back_set, back_self]
        · replace hy6 := ite_f c15 hy6
          refine SW_reg fun K hK => ?_
          simp only [go_sem, ↓reduceIte, Nat.reduceEqDiff, Nat.reduceAdd, Int.reduceToNat, c7, c8, f10, f11, f14, c15]
          apply hK
          simp only [thenQ_normal]
          obtain rfl := some_eq hy6
          refine ⟨by decide, ?_⟩
          simp only [go_sem, ↓reduceIte, back_set, back_self]
      · replace hy6 := ite_f c8 hy6
        refine SW_reg fun K hK => ?_
        simp only [go_sem, ↓reduceIte, Nat.reduceEqDiff, Nat.reduceAdd, c7, c8]
        apply hK
        simp only [thenQ_normal]
        obtain rfl := some_eq hy6
        refine ⟨by decide, ?_⟩
        simp only [go_sem, ↓reduceIte, back_set, back_self]
    · replace hy6 := ite_f c7 hy6
      refine SW_reg fun K hK => ?_
      simp only [go_sem, ↓reduceIte, Nat.reduceEqDiff, Nat.reduceAdd, c7]
      apply hK
      simp only [thenQ_normal]
      obtain rfl := some_eq hy6
      refine ⟨by decide, ?_⟩
      simp only [go_sem, ↓reduceIte, back_set, back_self]
  · intro E22 m23 e24 _
    simp only [thenQ_normal]
    refine SW_ret ?_
    try simp only []
    obtain rfl := some_eq h
    refine ⟨by first | exact .inl rfl | exact .inl trivial | exact .inr rfl | exact .inr trivial, ?_⟩
    simp only [go_sem, e24]

end Go.Proofs.YtolhahlnccekcaaDoor.Abs
