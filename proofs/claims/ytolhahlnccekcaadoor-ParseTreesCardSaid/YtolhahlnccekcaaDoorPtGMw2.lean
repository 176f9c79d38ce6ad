/-
  Walks: each function does what its model says. Written by a program of mine (gen.py) for this claim.
-/
import Derived.Test.YtolhahlnccekcaaDoorPtGMw1
import Derived.Test.YtolhahlnccekcaaDoorPtGMm
import Derived.Test.YtolhahlnccekcaaDoorPtFacts
namespace Go.Proofs.YtolhahlnccekcaaDoor.Abs
open Go.RowKit
set_option linter.unusedVariables false
set_option maxRecDepth 10000

def parse_Parse_C (f : Str → Option (T_parse_Node × Int × Int)) : Prop := ∀ (a0 : Str) (r : (T_parse_Node × Int × Int)), f a0 = some r → ∀ (q : Pa) (m : M) (vs : List V), vs.map V.weak1 = [.list .none (byteRows a0)] ∧ m.gl 0 = .eptr [(cA cS g_parse_words)] 0 0 ∧ m.gl 3 = .eptr [(cA cS g_lex_signs)] 0 0 ∧ m.gl 6 = .eptr [(cA (cA cS) g_parse_levels)] 0 0 → SC Tryd.prog 14 vs q m (fun v m' => v = .tup [.agg ((T_parse_Node.C r.1)), .lit (.int .i64 r.2.1), .lit (.int .i64 r.2.2)] ∧ m' = m)

theorem parse_Parse_ok (n : Nat) : parse_Parse_C (parse_Parse n) := by
  rintro a0 r h q m vs ⟨hv, hg0, hg3, hg6⟩
  refine SC.weak ?_
  rw [hv]
  refine SC_of Tryd.func14 rfl (fun xs w => Tryd.call14 xs w) Tryd.ntmps14 (by kernel_rfl) (congrArg Array.toList Tryd.results14) V.weak (fun _ _ _ => V.weak_ok) ?_
  unfold parse_Parse at h
  refine SW_seq ?_
  refine SW_reg fun K hK => ?_
  simp only [go_sem, Nat.reduceAdd]
  apply hK
  simp only [thenQ_normal]
  refine SW_seq ?_
  obtain ⟨x2, h3, h⟩ := bind_some h
  refine SW_reg fun K hK => ?_
  simp only [go_sem, ↓reduceIte, Nat.reduceAdd, reduceCtorEq]
  refine SC.by_ (lex_Tokens_ok n a0 _ h3 _ _ _ (by simp only [go_sem, hg3])) ?_
  simp only [go_sem, ↓reduceIte, Nat.reduceEqDiff, Nat.reduceAdd]
  apply hK
  simp only [thenQ_normal]
  refine SW_seq ?_
  refine SW_seq ?_
  refine SW_reg fun K hK => ?_
  simp only [go_sem, ↓reduceIte, Nat.reduceEqDiff, Nat.reduceAdd]
  apply hK
  simp only [thenQ_normal]
  refine SW_if (x2.2.1 != (0 : Int)) (by simp only [go_sem, ↓reduceIte]) (fun c4 => ?_) (fun c4 => ?_)
  · replace h := ite_t c4 h
    refine SW_seq ?_
    refine SW_reg fun K hK => ?_
    simp only [go_sem, ↓reduceIte, Nat.reduceEqDiff, Nat.reduceAdd, c4]
    apply hK
    simp only [thenQ_normal]
    refine SW_ret ?_
    try simp only [thenQ_ret]
    obtain rfl := some_eq h
    refine ⟨by first | exact .inl rfl | exact .inl trivial | exact .inr rfl | exact .inr trivial, ?_⟩
    simp only [go_sem, ↓reduceIte, Nat.reduceEqDiff, Nat.reduceAdd, back_set, back_bump, back_self]
  · replace h := ite_f c4 h
    refine SW_skip ?_
    try simp only [thenQ_normal]
    refine SW_seq ?_
    refine SW_reg fun K hK => ?_
    simp only [go_sem, ↓reduceIte, Nat.reduceEqDiff, Nat.reduceAdd, Nat.reduceLeDiff, c4]
    apply hK
    simp only [thenQ_normal]
    refine SW_seq ?_
    obtain ⟨x6, h8, h⟩ := bind_some h
    refine SW_reg fun K hK => ?_
    simp only [go_sem, ↓reduceIte, Nat.reduceAdd]
    refine SC.mono (p_parse_parser_node_ok (T_parse_parser.mk x2.1 (0 : Int) (0 : Int) (0 : Int) (0 : Int)) (1 : Int) _ h8 _ _ _ (16 :: q) (by simp only [go_sem, ↓reduceIte])) ?_
    rintro _ _ ⟨o_x6, j_x6, s_x6, rfl, rfl⟩
    replace s_x6 : q <:+ o_x6 := List.IsSuffix.trans (by simp only [go_sem]) s_x6
    simp only [go_sem, ↓reduceIte, Nat.reduceEqDiff, Nat.reduceAdd]
    apply hK
    simp only [thenQ_normal]
    refine SW_seq ?_
    refine SW_block ?_
    obtain ⟨y12, hy12, h⟩ := bind_some h
    refine SW_countW [] [] rfl (fun c E' m' => ∃ (v10 : T_parse_parser), ∃ (v11 : T_parse_Node), parse_Parse_l1 n c v10 v11 = some y12 ∧ E' 2 = .ptr (0 :: q) 0 ∧ E' 8 = .ptr (16 :: q) 0 ∧ E' 9 = .ptr (20 :: q) 0 ∧ m'.blk (0 :: q) = some ([.lit (.int .i64 (0 : Int)), .lit (.int .i64 (0 : Int)), .lit (.string (bs [])), .lit (.int .u32 (0 : Int)), .list .self ([].map T_parse_Node.C)]) ∧ m'.blk (16 :: q) = some ((T_parse_parser.C v10)) ∧ m'.blk (20 :: q) = some ([.lit (.int .i64 v11.Kind_), .lit (.int .i64 v11.At_), .lit (.string (bs v11.Text_)), .lit (.int .u32 v11.Num_), .list .self (v11.List_.map T_parse_Node.C)]) ∧ m'.gl = m.gl ∧ m.back q m' = m) n ⟨x6.2, x6.1, hy12, ?_⟩ ?_
    · simp only [go_sem, ↓reduceIte, Nat.reduceEqDiff, reduceCtorEq, back_set, back_bump, back_tokset, back_self, s_x6]
    rintro i9 c13 E14 m15 ⟨v10, v11, hy12, e16⟩ _
    rcases c13 with _ | c13
    · exact absurd hy12 (by rw [parse_Parse_l1]; exact fun e => nomatch e)
    rw [parse_Parse_l1] at hy12
    refine SW_seq ?_
    refine SW_seq ?_
    obtain ⟨y17, hy17, hy12⟩ := bind_some hy12
    refine SW_joinK 11 [] [] rfl (fun E' m' => E' 2 = .ptr (0 :: q) 0 ∧ E' 8 = .ptr (16 :: q) 0 ∧ E' 9 = .ptr (20 :: q) 0 ∧ E' 36 = .lit (.bool y17) ∧ m'.blk (0 :: q) = some ([.lit (.int .i64 (0 : Int)), .lit (.int .i64 (0 : Int)), .lit (.string (bs [])), .lit (.int .u32 (0 : Int)), .list .self ([].map T_parse_Node.C)]) ∧ m'.blk (16 :: q) = some ((T_parse_parser.C v10)) ∧ m'.blk (20 :: q) = some ([.lit (.int .i64 v11.Kind_), .lit (.int .i64 v11.At_), .lit (.string (bs v11.Text_)), .lit (.int .u32 v11.Num_), .list .self (v11.List_.map T_parse_Node.C)]) ∧ m'.gl = m.gl ∧ m.back q m' = m) ?_ ?_
    · rcases bool_or (v10.e_ == (0 : Int)) with c18 | c18
      · replace hy17 := ite_t c18 hy17
        obtain ⟨x19, h20, hy17⟩ := bind_some hy17
        refine SW_reg fun K hK => ?_
        simp only [go_sem, ↓reduceIte, Nat.reduceEqDiff, Nat.reduceAdd, c18, e16]
        refine SC.by_ (p_parse_parser_token_ok v10 _ h20 _ _ _ (16 :: q) (by simp only [go_sem, e16])) ?_
        simp only [go_sem, ↓reduceIte, Nat.reduceEqDiff, Nat.reduceAdd]
        apply hK
        simp only [thenQ_normal]
        obtain rfl := some_eq hy17
        refine ⟨by decide, ?_⟩
        simp only [go_sem, ↓reduceIte, Nat.reduceEqDiff, e16]
      · replace hy17 := ite_f c18 hy17
        refine SW_reg fun K hK => ?_
        simp only [go_sem, ↓reduceIte, Nat.reduceEqDiff, Nat.reduceAdd, c18, e16]
        apply hK
        simp only [thenQ_normal]
        obtain rfl := some_eq hy17
        refine ⟨by decide, ?_⟩
        simp only [go_sem, ↓reduceIte, Nat.reduceEqDiff, e16]
    · intro E21 m22 e23 _
      simp only [thenQ_normal]
      refine SW_if y17 (by simp only [go_sem, e23]) (fun c24 => ?_) (fun c24 => ?_)
      · replace hy12 := ite_t c24 hy12
        refine SW_skip ?_
        try simp only [thenQ_normal]
        refine SW_block ?_
        obtain ⟨x25, h26, hy12⟩ := bind_some hy12
        obtain ⟨f27, hy12⟩ := need_some hy12
        have f28 : v11.List_.length + 1 ≤ 1073741824 := by first | omega | (simp only [List.length_append, List.length_cons, List.length_nil] at f27 ⊢; omega)
        have f29 : v11.List_.length ≤ 1073741823 := by first | omega | (simp only [List.length_append, List.length_cons, List.length_nil] at f27 ⊢; omega)
        refine SW_drawK (tbl := [0, 1, 0, 4, 12, 31, 63, 127]) (ord := [(2, 0), (3, 0), (0, 0), (1, 1), (4, 0), (5, 0), (6, 0), (7, 0)]) 19 rfl (by kernel_rfl) (by kernel_rfl) fun K hK => ?_
        simp only [go_sem, ↓reduceIte, Nat.reduceAdd, e23]
        refine dcall_of (p_parse_parser_function_ok n v10 _ h26 _ _ _ (16 :: q) (by simp only [go_sem, e23, hg0, hg6])) rfl ?_
        simp only [go_sem, ↓reduceIte, Nat.reduceEqDiff, Nat.reduceAdd, Nat.reduceLT, Nat.reduceLeDiff, f28, e23]
        apply hK
        simp only [thenQ_normal, blockQ_normal]
        refine ⟨c13, Nat.lt_succ_self _, x25.2, ({ v11 with List_ := (v11.List_ ++ [x25.1]) } : T_parse_Node), hy12, ?_⟩
        simp only [go_sem, ↓reduceIte, Nat.reduceEqDiff, reduceCtorEq, back_set, back_bump, back_tokset, e23]
      · replace hy12 := ite_f c24 hy12
        refine SW_exit ?_
        try simp only [thenQ_exit, blockQ_exit, ↓reduceIte, thenQ_normal]
        obtain rfl := some_eq hy12
        refine SW_seq ?_
        refine SW_seq ?_
        refine SW_reg fun K hK => ?_
        simp only [go_sem, ↓reduceIte, Nat.reduceAdd, e23]
        apply hK
        simp only [thenQ_normal]
        refine SW_if (v10.e_ != (0 : Int)) (by simp only [go_sem, ↓reduceIte]) (fun c30 => ?_) (fun c30 => ?_)
        · replace h := ite_t c30 h
          refine SW_seq ?_
          refine SW_drawK (tbl := [0, 0, 2, 6, 14, 0, 32, 96, 224, 1, 543, 2047]) (ord := [(0, 0), (9, 0), (1, 0), (2, 0), (3, 0), (4, 1), (5, 0), (6, 0), (7, 0), (8, 1), (10, 0), (11, 0)]) 40 rfl (by kernel_rfl) (by kernel_rfl) fun K hK => ?_
          simp only [go_sem, ↓reduceIte, Nat.reduceEqDiff, Nat.reduceAdd, reduceCtorEq, c30, e23]
          apply hK
          simp only [thenQ_normal]
          refine SW_ret ?_
          try simp only [thenQ_ret]
          obtain rfl := some_eq h
          refine ⟨by first | exact .inl rfl | exact .inl trivial | exact .inr rfl | exact .inr trivial, ?_⟩
          simp only [go_sem, ↓reduceIte, Nat.reduceEqDiff, Nat.reduceAdd, back_set, back_bump, e23]
        · replace h := ite_f c30 h
          refine SW_skip ?_
          try simp only [thenQ_normal]
          refine SW_seq ?_
          refine SW_reg fun K hK => ?_
          simp only [go_sem, ↓reduceIte, Nat.reduceEqDiff, Nat.reduceAdd, c30, e23]
          apply hK
          simp only [thenQ_normal]
          refine SW_ret ?_
          try simp only []
          obtain rfl := some_eq h
          refine ⟨by first | exact .inl rfl | exact .inl trivial | exact .inr rfl | exact .inr trivial, ?_⟩
          simp only [go_sem, ↓reduceIte, Nat.reduceEqDiff, Nat.reduceAdd, back_set, e23]

def remontoirelaw10_flat_C (f : T_parse_Node → Int → Option (List T_remontoireref10_N)) : Prop := ∀ (a0 : T_parse_Node) (a1 : Int) (r : (List T_remontoireref10_N)), f a0 a1 = some r → ∀ (q : Pa) (m : M) (vs : List V), vs.map V.weak1 = [.agg ((T_parse_Node.C a0)), .lit (.int .i64 a1)] → SC Tryd.prog 15 vs q m (fun v m' => v = .list .none (r.map T_remontoireref10_N.C) ∧ m' = m)

theorem remontoirelaw10_flat_b_ok {rec_remontoirelaw10_flat : T_parse_Node → Int → Option (List T_remontoireref10_N)} (hrec_remontoirelaw10_flat : remontoirelaw10_flat_C rec_remontoirelaw10_flat) (n : Nat) : remontoirelaw10_flat_C (remontoirelaw10_flat_b rec_remontoirelaw10_flat n) := by
  intro a0 a1 r h q m vs hv
  refine SC.weak ?_
  rw [hv]
  refine SC_of Tryd.func15 rfl (fun xs w => Tryd.call15 xs w) Tryd.ntmps15 (by kernel_rfl) (congrArg Array.toList Tryd.results15) V.weak (fun _ _ _ => V.weak_ok) ?_
  unfold remontoirelaw10_flat_b at h
  refine SW_seq ?_
  refine SW_reg fun K hK => ?_
  simp only [go_sem, Nat.reduceAdd]
  apply hK
  simp only [thenQ_normal]
  refine SW_seq ?_
  refine SW_reg fun K hK => ?_
  simp only [go_sem, ↓reduceIte, Nat.reduceEqDiff, Nat.reduceAdd, Nat.reduceLT, Nat.reduceLeDiff]
  apply hK
  simp only [thenQ_normal]
  refine SW_seq ?_
  refine SW_seq ?_
  refine SW_reg fun K hK => ?_
  simp only [go_sem, ↓reduceIte, Nat.reduceEqDiff, Nat.reduceAdd]
  apply hK
  simp only [thenQ_normal]
  refine SW_if (decide ((20000 : Int) < a1)) (by simp only [go_sem, ↓reduceIte]) (fun c2 => ?_) (fun c2 => ?_)
  · replace h := ite_t c2 h
    refine SW_seq ?_
    refine SW_reg fun K hK => ?_
    simp only [go_sem, ↓reduceIte, Nat.reduceEqDiff, Nat.reduceAdd, c2]
    apply hK
    simp only [thenQ_normal]
    refine SW_ret ?_
    try simp only [thenQ_ret]
    obtain rfl := some_eq h
    refine ⟨by first | exact .inl rfl | exact .inl trivial | exact .inr rfl | exact .inr trivial, ?_⟩
    simp only [go_sem, ↓reduceIte, back_set, back_self]
  · replace h := ite_f c2 h
    refine SW_skip ?_
    try simp only [thenQ_normal]
    refine SW_seq ?_
    refine SW_seq ?_
    refine SW_reg fun K hK => ?_
    simp only [go_sem, ↓reduceIte, Nat.reduceEqDiff, Nat.reduceAdd, c2]
    apply hK
    simp only [thenQ_normal]
    refine SW_block ?_
    obtain ⟨y6, hy6, h⟩ := bind_some h
    refine SW_stamp 5 ([(T_remontoireref10_N.mk a0.Kind_ a0.At_ a0.Text_ a0.Num_ (a0.List_.length : Int))].map T_remontoireref10_N.C) rfl (by simp only [go_sem, ↓reduceIte, Nat.reduceEqDiff]) ?_
    refine SW_countW [] [] rfl (fun c E' m' => ∃ (v4 : (List T_remontoireref10_N)), ∃ (v5 : Int), ∃ (o_v4 : Pa) (j_v4 : Nat), remontoirelaw10_flat_l1 rec_remontoirelaw10_flat a0 a1 c v4 v5 = some y6 ∧ E' 1 = .lit (.int .i64 a1) ∧ E' 5 = .list (.st (.anon o_v4 j_v4)) (v4.map T_remontoireref10_N.C) ∧ m'.tok o_v4 j_v4 = true ∧ q <:+ o_v4 ∧ E' 25 = .list .none (a0.List_.map T_parse_Node.C) ∧ E' 26 = .lit (.int .i64 (a0.List_.length : Int)) ∧ E' 27 = .lit (.int .i64 v5) ∧ m'.gl = m.gl ∧ m.back q m' = m) n ⟨[(T_remontoireref10_N.mk a0.Kind_ a0.At_ a0.Text_ a0.Num_ (a0.List_.length : Int))], (0 : Int), (22 :: q), 0, hy6, ?_⟩ ?_
    · simp only [go_sem, ↓reduceIte, Nat.reduceEqDiff, back_set, back_tokset, back_self]
    rintro i3 c7 E8 m9 ⟨v4, v5, o_v4, j_v4, hy6, e10⟩ _
    rcases c7 with _ | c7
    · exact absurd hy6 (by rw [remontoirelaw10_flat_l1]; exact fun e => nomatch e)
    rw [remontoirelaw10_flat_l1] at hy6
    refine SW_seq ?_
    refine SW_reg fun K hK => ?_
    simp only [go_sem, Nat.reduceAdd, e10]
    apply hK
    simp only [thenQ_normal]
    refine SW_seq ?_
    refine SW_if (decide (v5 < (a0.List_.length : Int))) (by simp only [go_sem, ↓reduceIte]) (fun c11 => ?_) (fun c11 => ?_)
    · replace hy6 := ite_t c11 hy6
      refine SW_skip ?_
      try simp only [thenQ_normal]
      refine SW_seq ?_
      refine SW_block ?_
      refine SW_seq ?_
      obtain ⟨x12, h17, hy6⟩ := bind_some hy6
      obtain ⟨f14, f15, f16⟩ := idxL_some h17
      refine SW_reg fun K hK => ?_
      simp only [go_sem, ↓reduceIte, Nat.reduceEqDiff, Nat.reduceAdd, f14, f15, f16, e10]
      apply hK
      simp only [thenQ_normal]
      obtain ⟨x18, h19, hy6⟩ := bind_some hy6
      obtain ⟨f20, hy6⟩ := need_some hy6
      have f21 : v4.length + x18.length ≤ 1073741824 := by first | omega | (simp only [List.length_append, List.length_cons, List.length_nil] at f20 ⊢; omega)
      refine SW_reg fun K hK => ?_
      simp only [go_sem, ↓reduceIte, Nat.reduceEqDiff, Nat.reduceAdd, e10]
      refine SC.by_ (hrec_remontoirelaw10_flat x12 (IntKind.i64.wrap (a1 + (1 : Int))) _ h19 _ _ _ (by simp only [go_sem])) ?_
      simp only [go_sem, ↓reduceIte, Nat.reduceEqDiff, Nat.reduceAdd, Nat.reduceLT, Nat.reduceLeDiff, f20, e10]
      apply hK
      simp only [thenQ_normal, blockQ_normal]
      refine SW_reg fun K hK => ?_
      simp only [go_sem, ↓reduceIte, Nat.reduceEqDiff, Nat.reduceAdd, e10]
      apply hK
      simp only [thenQ_normal]
      refine ⟨c7, Nat.lt_succ_self _, (v4 ++ x18), (IntKind.i64.wrap (v5 + (1 : Int))), (10 :: i3 :: 23 :: q), 0, hy6, ?_⟩
      simp only [go_sem, ↓reduceIte, Nat.reduceEqDiff, back_set, back_tokset, e10]
    · replace hy6 := ite_f c11 hy6
      refine SW_exit ?_
      try simp only [thenQ_exit, blockQ_exit, ↓reduceIte, thenQ_normal]
      obtain rfl := some_eq hy6
      refine SW_seq ?_
      refine SW_reg fun K hK => ?_
      simp only [go_sem, ↓reduceIte, Nat.reduceEqDiff, Nat.reduceAdd, c11, e10]
      apply hK
      simp only [thenQ_normal]
      refine SW_ret ?_
      try simp only []
      obtain rfl := some_eq h
      refine ⟨by first | exact .inl rfl | exact .inl trivial | exact .inr rfl | exact .inr trivial, ?_⟩
      simp only [go_sem, ↓reduceIte, e10]

theorem remontoirelaw10_flat_ok : ∀ n, remontoirelaw10_flat_C (remontoirelaw10_flat n)
  | 0 => fun _ _ _ h => none_some_ h
  | n + 1 => remontoirelaw10_flat_b_ok (remontoirelaw10_flat_ok n) n

def remontoirelaw10_anchor_C (f : Option Bool) : Prop := ∀ (r : Bool), f = some r → ∀ (q : Pa) (m : M) (vs : List V), vs.map V.weak1 = [] ∧ m.gl 0 = .eptr [(cA cS g_parse_words)] 0 0 ∧ m.gl 3 = .eptr [(cA cS g_lex_signs)] 0 0 ∧ m.gl 6 = .eptr [(cA (cA cS) g_parse_levels)] 0 0 → SC Tryd.prog 11 vs q m (fun v m' => v = .lit (.bool r) ∧ m' = m)

theorem remontoirelaw10_anchor_ok (n : Nat) : remontoirelaw10_anchor_C (remontoirelaw10_anchor n) := by
  rintro r h q m vs ⟨hv, hg0, hg3, hg6⟩
  refine SC.weak ?_
  rw [hv]
  refine SC_of Tryd.func11 rfl (fun xs w => Tryd.call11 xs w) Tryd.ntmps11 (by kernel_rfl) (congrArg Array.toList Tryd.results11) V.weak (fun _ _ _ => V.weak_ok) ?_
  unfold remontoirelaw10_anchor at h
  refine SW_seq ?_
  refine SW_reg fun K hK => ?_
  simp only [go_sem]
  apply hK
  simp only [thenQ_normal]
  refine SW_seq ?_
  obtain ⟨x1, h3, h⟩ := bind_some h
  refine SW_reg fun K hK => ?_
  simp only [go_sem, ↓reduceIte, Nat.reduceAdd, Nat.reduceLT, Nat.reduceLeDiff, reduceCtorEq]
  refine SC.by_ (parse_Parse_ok n ([102, 110, 32, 102, 40, 41, 123, 120, 61, 49, 43, 50, 42, 51, 59, 125] : Str) _ h3 _ _ _ (by simp only [go_sem, UInt8.reduceToNat, hg0, hg3, hg6])) ?_
  simp only [go_sem, ↓reduceIte, Nat.reduceEqDiff, Nat.reduceAdd]
  apply hK
  simp only [thenQ_normal]
  refine SW_seq ?_
  obtain ⟨x4, h5, h⟩ := bind_some h
  refine SW_reg fun K hK => ?_
  simp only [go_sem, ↓reduceIte, Nat.reduceEqDiff, Nat.reduceAdd]
  refine SC.by_ (remontoirelaw10_flat_ok n x1.1 (0 : Int) _ h5 _ _ _ (by simp only [go_sem])) ?_
  simp only [go_sem, ↓reduceIte, Nat.reduceAdd]
  apply hK
  simp only [thenQ_normal]
  refine SW_seq ?_
  obtain ⟨y6, hy6, h⟩ := bind_some h
  refine SW_joinK 37 [] [] rfl (fun E' m' => E' 0 = .lit (.bool y6) ∧ m'.gl = m.gl ∧ m.back q m' = m) ?_ ?_
  · rcases bool_or (x1.2.1 == (0 : Int)) with c7 | c7
    · replace hy6 := ite_t c7 hy6
      rcases bool_or ((x4.length : Int) == (9 : Int)) with c8 | c8
      · replace hy6 := ite_t c8 hy6
        obtain ⟨x9, h13, hy6⟩ := bind_some hy6
        obtain ⟨f10, f11, f12⟩ := idxL_some h13
        have f14 : x4[4]? = some x9 := f12
        rcases bool_or (decide (x9.Text_ = ([43] : Str))) with c15 | c15
        · replace hy6 := ite_t c15 hy6
          obtain ⟨x16, h20, hy6⟩ := bind_some hy6
          obtain ⟨f17, f18, f19⟩ := idxL_some h20
          have f21 : x4[6]? = some x16 := f19
          refine SW_reg fun K hK => ?_
          simp only [go_sem, ↓reduceIte, Nat.reduceEqDiff, Nat.reduceAdd, Int.reduceToNat, c7, c8, f10, f11, f14, c15, f17, f18, f21]
          apply hK
          simp only [thenQ_normal]
          obtain rfl := some_eq hy6
          refine ⟨by decide, ?_⟩
          simp only [go_sem, ↓reduceIte, back_set, back_self]
        · replace hy6 := ite_f c15 hy6
          refine SW_reg fun K hK => ?_
          simp only [go_sem, ↓reduceIte, Nat.reduceEqDiff, Nat.reduceAdd, Int.reduceToNat, c7, c8, f10, f11, f14, c15]
          apply hK
          simp only [thenQ_normal]
          obtain rfl := some_eq hy6
          refine ⟨by decide, ?_⟩
          simp only [go_sem, ↓reduceIte, back_set, back_self]
      · replace hy6 := ite_f c8 hy6
        refine SW_reg fun K hK => ?_
        simp only [go_sem, ↓reduceIte, Nat.reduceEqDiff, Nat.reduceAdd, c7, c8]
        apply hK
        simp only [thenQ_normal]
        obtain rfl := some_eq hy6
        refine ⟨by decide, ?_⟩
        simp only [go_sem, ↓reduceIte, back_set, back_self]
    · replace hy6 := ite_f c7 hy6
      refine SW_reg fun K hK => ?_
      simp only [go_sem, ↓reduceIte, Nat.reduceEqDiff, Nat.reduceAdd, c7]
      apply hK
      simp only [thenQ_normal]
      obtain rfl := some_eq hy6
      refine ⟨by decide, ?_⟩
      simp only [go_sem, ↓reduceIte, back_set, back_self]
  · intro E22 m23 e24 _
    simp only [thenQ_normal]
    refine SW_ret ?_
    try simp only []
    obtain rfl := some_eq h
    refine ⟨by first | exact .inl rfl | exact .inl trivial | exact .inr rfl | exact .inr trivial, ?_⟩
    simp only [go_sem, e24]

def remontoireref09_blanks_C (f : Str → Int → Option Int) : Prop := ∀ (a0 : Str) (a1 : Int) (r : Int), f a0 a1 = some r → ∀ (q : Pa) (m : M) (vs : List V), vs.map V.weak1 = [.lit (.string (bs a0)), .lit (.int .i64 a1)] → SC Tryd.prog 53 vs q m (fun v m' => v = .lit (.int .i64 r) ∧ m' = m)

theorem remontoireref09_blanks_ok (n : Nat) : remontoireref09_blanks_C (remontoireref09_blanks n) := by
  intro a0 a1 r h q m vs hv
  refine SC.weak ?_
  rw [hv]
  refine SC_of Tryd.func53 rfl (fun xs w => Tryd.call53 xs w) Tryd.ntmps53 (by kernel_rfl) (congrArg Array.toList Tryd.results53) V.weak (fun _ _ _ => V.weak_ok) ?_
  unfold remontoireref09_blanks at h
  refine SW_seq ?_
  refine SW_reg fun K hK => ?_
  simp only [go_sem]
  apply hK
  simp only [thenQ_normal]
  refine SW_seq ?_
  refine SW_block ?_
  obtain ⟨y3, hy3, h⟩ := bind_some h
  refine SW_countW [] [] rfl (fun c E' m' => ∃ (v2 : Int), remontoireref09_blanks_l1 n a0 c v2 = some y3 ∧ E' 0 = .lit (.string (bs a0)) ∧ E' 1 = .lit (.int .i64 v2) ∧ m'.gl = m.gl ∧ m.back q m' = m) n ⟨a1, hy3, ?_⟩ ?_
  · simp only [go_sem, ↓reduceIte, Nat.reduceEqDiff, reduceCtorEq, back_self]
  rintro i1 c4 E5 m6 ⟨v2, hy3, e7⟩ _
  rcases c4 with _ | c4
  · exact absurd hy3 (by rw [remontoireref09_blanks_l1]; exact fun e => nomatch e)
  rw [remontoireref09_blanks_l1] at hy3
  refine SW_seq ?_
  refine SW_seq ?_
  refine SW_reg fun K hK => ?_
  simp only [go_sem, ↓reduceIte, Nat.reduceEqDiff, Nat.reduceAdd, reduceCtorEq, e7]
  apply hK
  simp only [thenQ_normal]
  refine SW_if (decide (v2 < (a0.length : Int))) (by simp only [go_sem, ↓reduceIte]) (fun c8 => ?_) (fun c8 => ?_)
  · replace hy3 := ite_t c8 hy3
    refine SW_skip ?_
    try simp only [thenQ_normal]
    refine SW_block ?_
    refine SW_seq ?_
    obtain ⟨x9, h13, hy3⟩ := bind_some hy3
    obtain ⟨f10, f11, f12⟩ := idxL_some h13
    refine SW_reg fun K hK => ?_
    simp only [go_sem, ↓reduceIte, Nat.reduceEqDiff, Nat.reduceAdd, reduceCtorEq, f10, f11, f12, e7]
    apply hK
    simp only [thenQ_normal]
    refine SW_seq ?_
    refine SW_seq ?_
    obtain ⟨y14, hy14, hy3⟩ := bind_some hy3
    refine SW_joinK 22 [] [] rfl (fun E' m' => E' 0 = .lit (.string (bs a0)) ∧ E' 1 = .lit (.int .i64 v2) ∧ E' 5 = .lit (.int .u8 (x9.toNat : Int)) ∧ E' 26 = .lit (.bool y14) ∧ m'.gl = m.gl ∧ m.back q m' = m) ?_ ?_
    · rcases bool_or ((x9.toNat : Int) == (32 : Int)) with c15 | c15
      · replace hy14 := ite_t c15 hy14
        refine SW_reg fun K hK => ?_
        simp only [go_sem, ↓reduceIte, Nat.reduceEqDiff, Nat.reduceAdd, c15]
        apply hK
        simp only [thenQ_normal]
        obtain rfl := some_eq hy14
        refine ⟨by decide, ?_⟩
        simp only [go_sem, ↓reduceIte, Nat.reduceEqDiff, reduceCtorEq, e7]
      · replace hy14 := ite_f c15 hy14
        rcases bool_or ((x9.toNat : Int) == (9 : Int)) with c16 | c16
        · replace hy14 := ite_t c16 hy14
          refine SW_reg fun K hK => ?_
          simp only [go_sem, ↓reduceIte, Nat.reduceEqDiff, Nat.reduceAdd, c15, c16]
          apply hK
          simp only [thenQ_normal]
          obtain rfl := some_eq hy14
          refine ⟨by decide, ?_⟩
          simp only [go_sem, ↓reduceIte, Nat.reduceEqDiff, reduceCtorEq, e7]
        · replace hy14 := ite_f c16 hy14
          rcases bool_or ((x9.toNat : Int) == (13 : Int)) with c17 | c17
          · replace hy14 := ite_t c17 hy14
            refine SW_reg fun K hK => ?_
            simp only [go_sem, ↓reduceIte, Nat.reduceEqDiff, Nat.reduceAdd, c15, c16, c17]
            apply hK
            simp only [thenQ_normal]
            obtain rfl := some_eq hy14
            refine ⟨by decide, ?_⟩
            simp only [go_sem, ↓reduceIte, Nat.reduceEqDiff, reduceCtorEq, e7]
          · replace hy14 := ite_f c17 hy14
            refine SW_reg fun K hK => ?_
            simp only [go_sem, ↓reduceIte, Nat.reduceEqDiff, Nat.reduceAdd, c15, c16, c17]
            apply hK
            simp only [thenQ_normal]
            obtain rfl := some_eq hy14
            refine ⟨by decide, ?_⟩
            simp only [go_sem, ↓reduceIte, Nat.reduceEqDiff, reduceCtorEq, e7]
    · intro E18 m19 e20 _
      simp only [thenQ_normal]
      refine SW_if y14 (by simp only [go_sem, e20]) (fun c21 => ?_) (fun c21 => ?_)
      · replace hy3 := ite_t c21 hy3
        refine SW_seq ?_
        refine SW_reg fun K hK => ?_
        simp only [go_sem, ↓reduceIte, Nat.reduceAdd, e20]
        apply hK
        simp only [thenQ_normal]
        refine SW_exit ?_
        try simp only [thenQ_exit, blockQ_exit, ↓reduceIte, thenQ_normal]
        refine ⟨c4, Nat.lt_succ_self _, (IntKind.i64.wrap (v2 + (1 : Int))), hy3, ?_⟩
        simp only [go_sem, ↓reduceIte, reduceCtorEq, e20]
      · replace hy3 := ite_f c21 hy3
        refine SW_skip ?_
        try simp only [thenQ_normal]
        refine SW_seq ?_
        refine SW_seq ?_
        obtain ⟨y22, hy22, hy3⟩ := bind_some hy3
        refine SW_joinK 38 [] [] rfl (fun E' m' => E' 0 = .lit (.string (bs a0)) ∧ E' 1 = .lit (.int .i64 v2) ∧ E' 44 = .lit (.bool y22) ∧ m'.gl = m.gl ∧ m.back q m' = m) ?_ ?_
        · rcases bool_or (decide ((a0.length : Int) ≤ (IntKind.i64.wrap (v2 + (1 : Int))))) with c23 | c23
          · replace hy22 := ite_t c23 hy22
            refine SW_reg fun K hK => ?_
            simp only [go_sem, ↓reduceIte, Nat.reduceEqDiff, Nat.reduceAdd, reduceCtorEq, c23, e20]
            apply hK
            simp only [thenQ_normal]
            obtain rfl := some_eq hy22
            refine ⟨by decide, ?_⟩
            simp only [go_sem, ↓reduceIte, Nat.reduceEqDiff, reduceCtorEq, e20]
          · replace hy22 := ite_f c23 hy22
            rcases bool_or ((x9.toNat : Int) != (47 : Int)) with c24 | c24
            · replace hy22 := ite_t c24 hy22
              refine SW_reg fun K hK => ?_
              simp only [go_sem, ↓reduceIte, Nat.reduceEqDiff, Nat.reduceAdd, reduceCtorEq, c23, c24, e20]
              apply hK
              simp only [thenQ_normal]
              obtain rfl := some_eq hy22
              refine ⟨by decide, ?_⟩
              simp only [go_sem, ↓reduceIte, Nat.reduceEqDiff, reduceCtorEq, e20]
            · replace hy22 := ite_f c24 hy22
              obtain ⟨x25, h29, hy22⟩ := bind_some hy22
              obtain ⟨f26, f27, f28⟩ := idxL_some h29
              refine SW_reg fun K hK => ?_
              simp only [go_sem, ↓reduceIte, Nat.reduceEqDiff, Nat.reduceAdd, reduceCtorEq, c23, c24, f26, f28, e20]
              apply hK
              simp only [thenQ_normal]
              obtain rfl := some_eq hy22
              refine ⟨by decide, ?_⟩
              simp only [go_sem, ↓reduceIte, Nat.reduceEqDiff, reduceCtorEq, e20]
        · intro E30 m31 e32 _
          simp only [thenQ_normal]
          refine SW_if y22 (by simp only [go_sem, e32]) (fun c33 => ?_) (fun c33 => ?_)
          · replace hy3 := ite_t c33 hy3
            refine SW_seq ?_
            refine SW_reg fun K hK => ?_
            simp only [go_sem, ↓reduceIte, Nat.reduceAdd, e32]
            apply hK
            simp only [thenQ_normal]
            refine SW_ret ?_
            try simp only [thenQ_ret, blockQ_ret]
            obtain rfl := some_eq hy3
            simp only [Sum.elim_inr] at h
            obtain rfl := some_eq h
            refine ⟨by first | exact .inl rfl | exact .inl trivial | exact .inr rfl | exact .inr trivial, ?_⟩
            simp only [go_sem, ↓reduceIte, e32]
          · replace hy3 := ite_f c33 hy3
            refine SW_skip ?_
            try simp only [thenQ_normal]
            refine SW_block ?_
            obtain ⟨y36, hy36, hy3⟩ := bind_some hy3
            refine SW_countW [] [] rfl (fun c E' m' => ∃ (v35 : Int), remontoireref09_blanks_l2 a0 c v35 = some y36 ∧ E' 0 = .lit (.string (bs a0)) ∧ E' 1 = .lit (.int .i64 v35) ∧ m'.gl = m.gl ∧ m.back q m' = m) n ⟨v2, hy36, ?_⟩ ?_
            · simp only [go_sem, e32]
            rintro i34 c37 E38 m39 ⟨v35, hy36, e40⟩ _
            rcases c37 with _ | c37
            · exact absurd hy36 (by rw [remontoireref09_blanks_l2]; exact fun e => nomatch e)
            rw [remontoireref09_blanks_l2] at hy36
            refine SW_seq ?_
            refine SW_seq ?_
            obtain ⟨y41, hy41, hy36⟩ := bind_some hy36
            refine SW_joinK 10 [] [] rfl (fun E' m' => E' 0 = .lit (.string (bs a0)) ∧ E' 1 = .lit (.int .i64 v35) ∧ E' 55 = .lit (.bool y41) ∧ m'.gl = m.gl ∧ m.back q m' = m) ?_ ?_
            · rcases bool_or (decide (v35 < (a0.length : Int))) with c42 | c42
              · replace hy41 := ite_t c42 hy41
                obtain ⟨x43, h47, hy41⟩ := bind_some hy41
                obtain ⟨f44, f45, f46⟩ := idxL_some h47
                refine SW_reg fun K hK => ?_
                simp only [go_sem, ↓reduceIte, Nat.reduceEqDiff, Nat.reduceAdd, reduceCtorEq, f44, f45, f46, e40]
                apply hK
                simp only [thenQ_normal]
                obtain rfl := some_eq hy41
                refine ⟨by decide, ?_⟩
                simp only [go_sem, ↓reduceIte, Nat.reduceEqDiff, reduceCtorEq, e40]
              · replace hy41 := ite_f c42 hy41
                refine SW_reg fun K hK => ?_
                simp only [go_sem, ↓reduceIte, Nat.reduceEqDiff, Nat.reduceAdd, reduceCtorEq, c42, e40]
                apply hK
                simp only [thenQ_normal]
                obtain rfl := some_eq hy41
                refine ⟨by decide, ?_⟩
                simp only [go_sem, ↓reduceIte, Nat.reduceEqDiff, reduceCtorEq, e40]
            · intro E48 m49 e50 _
              simp only [thenQ_normal]
              refine SW_if y41 (by simp only [go_sem, e50]) (fun c51 => ?_) (fun c51 => ?_)
              · replace hy36 := ite_t c51 hy36
                refine SW_skip ?_
                try simp only [thenQ_normal]
                refine SW_block ?_
                refine SW_reg fun K hK => ?_
                simp only [go_sem, ↓reduceIte, Nat.reduceAdd, e50]
                apply hK
                simp only [thenQ_normal, blockQ_normal]
                refine ⟨c37, Nat.lt_succ_self _, (IntKind.i64.wrap (v35 + (1 : Int))), hy36, ?_⟩
                simp only [go_sem, ↓reduceIte, reduceCtorEq, e50]
              · replace hy36 := ite_f c51 hy36
                refine SW_exit ?_
                try simp only [thenQ_exit, blockQ_exit, ↓reduceIte, thenQ_normal, blockQ_normal]
                obtain rfl := some_eq hy36
                refine ⟨c4, Nat.lt_succ_self _, v35, hy3, ?_⟩
                simp only [go_sem, e50]
  · replace hy3 := ite_f c8 hy3
    refine SW_exit ?_
    try simp only [thenQ_exit, blockQ_exit, ↓reduceIte, thenQ_normal]
    obtain rfl := some_eq hy3
    simp only [Sum.elim_inl] at h
    refine SW_seq ?_
    refine SW_reg fun K hK => ?_
    simp only [go_sem, ↓reduceIte, Nat.reduceEqDiff, Nat.reduceAdd, c8, e7]
    apply hK
    simp only [thenQ_normal]
    refine SW_ret ?_
    try simp only []
    obtain rfl := some_eq h
    refine ⟨by first | exact .inl rfl | exact .inl trivial | exact .inr rfl | exact .inr trivial, ?_⟩
    simp only [go_sem, ↓reduceIte, e7]

def remontoireref09_letter_C (f : Int → Option Bool) : Prop := ∀ (a0 : Int) (r : Bool), f a0 = some r → ∀ (q : Pa) (m : M) (vs : List V), vs.map V.weak1 = [.lit (.int .u8 a0)] → SC Tryd.prog 54 vs q m (fun v m' => v = .lit (.bool r) ∧ m' = m)

theorem remontoireref09_letter_ok : remontoireref09_letter_C (remontoireref09_letter) := by
  intro a0 r h q m vs hv
  refine SC.weak ?_
  rw [hv]
  refine SC_of Tryd.func54 rfl (fun xs w => Tryd.call54 xs w) Tryd.ntmps54 (by kernel_rfl) (congrArg Array.toList Tryd.results54) V.weak (fun _ _ _ => V.weak_ok) ?_
  unfold remontoireref09_letter at h
  refine SW_seq ?_
  refine SW_reg fun K hK => ?_
  simp only [go_sem]
  apply hK
  simp only [thenQ_normal]
  refine SW_seq ?_
  obtain ⟨y1, hy1, h⟩ := bind_some h
  refine SW_joinK 12 [] [] rfl (fun E' m' => E' 2 = .lit (.bool y1) ∧ m'.gl = m.gl ∧ m.back q m' = m) ?_ ?_
  · rcases bool_or (decide ((97 : Int) ≤ a0)) with c2 | c2
    · replace hy1 := ite_t c2 hy1
      rcases bool_or (decide (a0 ≤ (122 : Int))) with c3 | c3
      · replace hy1 := ite_t c3 hy1
        refine SW_reg fun K hK => ?_
        simp only [go_sem, ↓reduceIte, Nat.reduceEqDiff, Nat.reduceAdd, reduceCtorEq, c2, c3]
        apply hK
        simp only [thenQ_normal]
        obtain rfl := some_eq hy1
        refine ⟨by decide, ?_⟩
        simp only [go_sem, ↓reduceIte, back_self]
      · replace hy1 := ite_f c3 hy1
        refine SW_reg fun K hK => ?_
        simp only [go_sem, ↓reduceIte, Nat.reduceEqDiff, Nat.reduceAdd, reduceCtorEq, c2, c3]
        apply hK
        simp only [thenQ_normal]
        obtain rfl := some_eq hy1
        refine ⟨by decide, ?_⟩
        simp only [go_sem, ↓reduceIte, back_self]
    · replace hy1 := ite_f c2 hy1
      refine SW_reg fun K hK => ?_
      simp only [go_sem, ↓reduceIte, Nat.reduceEqDiff, Nat.reduceAdd, reduceCtorEq, c2]
      apply hK
      simp only [thenQ_normal]
      obtain rfl := some_eq hy1
      refine ⟨by decide, ?_⟩
      simp only [go_sem, ↓reduceIte, back_self]
  · intro E4 m5 e6 _
    simp only [thenQ_normal]
    refine SW_ret ?_
    try simp only []
    obtain rfl := some_eq h
    refine ⟨by first | exact .inl rfl | exact .inl trivial | exact .inr rfl | exact .inr trivial, ?_⟩
    simp only [go_sem, e6]

def remontoireref09_digit_C (f : Int → Option Bool) : Prop := ∀ (a0 : Int) (r : Bool), f a0 = some r → ∀ (q : Pa) (m : M) (vs : List V), vs.map V.weak1 = [.lit (.int .u8 a0)] → SC Tryd.prog 55 vs q m (fun v m' => v = .lit (.bool r) ∧ m' = m)

theorem remontoireref09_digit_ok : remontoireref09_digit_C (remontoireref09_digit) := by
  intro a0 r h q m vs hv
  refine SC.weak ?_
  rw [hv]
  refine SC_of Tryd.func55 rfl (fun xs w => Tryd.call55 xs w) Tryd.ntmps55 (by kernel_rfl) (congrArg Array.toList Tryd.results55) V.weak (fun _ _ _ => V.weak_ok) ?_
  unfold remontoireref09_digit at h
  refine SW_seq ?_
  refine SW_reg fun K hK => ?_
  simp only [go_sem]
  apply hK
  simp only [thenQ_normal]
  refine SW_seq ?_
  obtain ⟨y1, hy1, h⟩ := bind_some h
  refine SW_joinK 8 [] [] rfl (fun E' m' => E' 2 = .lit (.bool y1) ∧ m'.gl = m.gl ∧ m.back q m' = m) ?_ ?_
  · rcases bool_or (decide ((48 : Int) ≤ a0)) with c2 | c2
    · replace hy1 := ite_t c2 hy1
      refine SW_reg fun K hK => ?_
      simp only [go_sem, ↓reduceIte, Nat.reduceEqDiff, Nat.reduceAdd, reduceCtorEq, c2]
      apply hK
      simp only [thenQ_normal]
      obtain rfl := some_eq hy1
      refine ⟨by decide, ?_⟩
      simp only [go_sem, ↓reduceIte, back_self]
    · replace hy1 := ite_f c2 hy1
      refine SW_reg fun K hK => ?_
      simp only [go_sem, ↓reduceIte, Nat.reduceEqDiff, Nat.reduceAdd, reduceCtorEq, c2]
      apply hK
      simp only [thenQ_normal]
      obtain rfl := some_eq hy1
      refine ⟨by decide, ?_⟩
      simp only [go_sem, ↓reduceIte, back_self]
  · intro E3 m4 e5 _
    simp only [thenQ_normal]
    refine SW_ret ?_
    try simp only []
    obtain rfl := some_eq h
    refine ⟨by first | exact .inl rfl | exact .inl trivial | exact .inr rfl | exact .inr trivial, ?_⟩
    simp only [go_sem, e5]

def remontoireref09_number_C (f : Str → Option (Int × Bool)) : Prop := ∀ (a0 : Str) (r : (Int × Bool)), f a0 = some r → ∀ (q : Pa) (m : M) (vs : List V), vs.map V.weak1 = [.lit (.string (bs a0))] → SC Tryd.prog 56 vs q m (fun v m' => v = .tup [.lit (.int .u32 r.1), .lit (.bool r.2)] ∧ m' = m)

theorem remontoireref09_number_ok (n : Nat) : remontoireref09_number_C (remontoireref09_number n) := by
  intro a0 r h q m vs hv
  refine SC.weak ?_
  rw [hv]
  refine SC_of Tryd.func56 rfl (fun xs w => Tryd.call56 xs w) Tryd.ntmps56 (by kernel_rfl) (congrArg Array.toList Tryd.results56) V.weak (fun _ _ _ => V.weak_ok) ?_
  unfold remontoireref09_number at h
  refine SW_seq ?_
  refine SW_reg fun K hK => ?_
  simp only [go_sem, Nat.reduceAdd]
  apply hK
  simp only [thenQ_normal]
  refine SW_seq ?_
  refine SW_reg fun K hK => ?_
  simp only [go_sem, Nat.reduceAdd]
  apply hK
  simp only [thenQ_normal]
  refine SW_seq ?_
  refine SW_reg fun K hK => ?_
  simp only [go_sem, Nat.reduceAdd]
  apply hK
  simp only [thenQ_normal]
  refine SW_seq ?_
  refine SW_seq ?_
  obtain ⟨y1, hy1, h⟩ := bind_some h
  refine SW_joinK 17 [] [] rfl (fun E' m' => E' 0 = .lit (.string (bs a0)) ∧ E' 4 = .lit (.int .u64 (10 : Int)) ∧ E' 5 = .lit (.int .i64 (0 : Int)) ∧ E' 20 = .lit (.bool y1) ∧ m'.gl = m.gl ∧ m.back q m' = m) ?_ ?_
  · rcases bool_or (decide ((1 : Int) < (a0.length : Int))) with c2 | c2
    · replace hy1 := ite_t c2 hy1
      obtain ⟨x3, h7, hy1⟩ := bind_some hy1
      obtain ⟨f4, f5, f6⟩ := idxL_some h7
      have f8 : a0[0]? = some x3 := f6
      rcases bool_or ((x3.toNat : Int) == (48 : Int)) with c9 | c9
      · replace hy1 := ite_t c9 hy1
        obtain ⟨x10, h14, hy1⟩ := bind_some hy1
        obtain ⟨f11, f12, f13⟩ := idxL_some h14
        have f15 : a0[1]? = some x10 := f13
        refine SW_reg fun K hK => ?_
        simp only [go_sem, ↓reduceIte, Nat.reduceEqDiff, Nat.reduceAdd, reduceCtorEq, Int.reduceToNat, f4, f8, c9, f11, f12, f15]
        apply hK
        simp only [thenQ_normal]
        obtain rfl := some_eq hy1
        refine ⟨by decide, ?_⟩
        simp only [go_sem, ↓reduceIte, Nat.reduceEqDiff, reduceCtorEq, back_self]
      · replace hy1 := ite_f c9 hy1
        refine SW_reg fun K hK => ?_
        simp only [go_sem, ↓reduceIte, Nat.reduceEqDiff, Nat.reduceAdd, reduceCtorEq, c2, f4, f8, c9]
        apply hK
        simp only [thenQ_normal]
        obtain rfl := some_eq hy1
        refine ⟨by decide, ?_⟩
        simp only [go_sem, ↓reduceIte, Nat.reduceEqDiff, reduceCtorEq, back_self]
    · replace hy1 := ite_f c2 hy1
      refine SW_reg fun K hK => ?_
      simp only [go_sem, ↓reduceIte, Nat.reduceEqDiff, Nat.reduceAdd, reduceCtorEq, c2]
      apply hK
      simp only [thenQ_normal]
      obtain rfl := some_eq hy1
      refine ⟨by decide, ?_⟩
      simp only [go_sem, ↓reduceIte, Nat.reduceEqDiff, reduceCtorEq, back_self]
  · intro E16 m17 e18 _
    simp only [thenQ_normal]
    refine SW_if y1 (by simp only [go_sem, e18]) (fun c19 => ?_) (fun c19 => ?_)
    · replace h := ite_t c19 h
      refine SW_seq ?_
      refine SW_reg fun K hK => ?_
      simp only [go_sem, Nat.reduceAdd]
      apply hK
      simp only [thenQ_normal]
      refine SW_reg fun K hK => ?_
      simp only [go_sem, Nat.reduceAdd]
      apply hK
      simp only [thenQ_normal]
      refine SW_seq ?_
      refine SW_seq ?_
      refine SW_reg fun K hK => ?_
      simp only [go_sem, ↓reduceIte, Nat.reduceEqDiff, Nat.reduceAdd, reduceCtorEq, e18]
      apply hK
      simp only [thenQ_normal]
      refine SW_if ((2 : Int) == (a0.length : Int)) (by simp only [go_sem, ↓reduceIte]) (fun c20 => ?_) (fun c20 => ?_)
      · replace h := ite_t c20 h
        refine SW_seq ?_
        refine SW_reg fun K hK => ?_
        simp only [go_sem, Nat.reduceAdd, c20]
        apply hK
        simp only [thenQ_normal]
        refine SW_ret ?_
        try simp only [thenQ_ret]
        obtain rfl := some_eq h
        refine ⟨by first | exact .inl rfl | exact .inl trivial | exact .inr rfl | exact .inr trivial, ?_⟩
        simp only [go_sem, ↓reduceIte, Nat.reduceEqDiff, e18]
      · replace h := ite_f c20 h
        refine SW_skip ?_
        try simp only [thenQ_normal]
        refine SW_seq ?_
        refine SW_reg fun K hK => ?_
        simp only [go_sem, Nat.reduceAdd, c20]
        apply hK
        simp only [thenQ_normal]
        refine SW_seq ?_
        refine SW_block ?_
        obtain ⟨y24, hy24, h⟩ := bind_some h
        refine SW_countW [] [] rfl (fun c E' m' => ∃ (v22 : Int), ∃ (v23 : Int), remontoireref09_number_l1 a0 c v22 v23 = some y24 ∧ E' 0 = .lit (.string (bs a0)) ∧ E' 4 = .lit (.int .u64 (16 : Int)) ∧ E' 5 = .lit (.int .i64 v22) ∧ E' 6 = .lit (.int .u64 v23) ∧ m'.gl = m.gl ∧ m.back q m' = m) n ⟨(2 : Int), (0 : Int), hy24, ?_⟩ ?_
        · simp only [go_sem, ↓reduceIte, Nat.reduceEqDiff, reduceCtorEq, e18]
        rintro i21 c25 E26 m27 ⟨v22, v23, hy24, e28⟩ _
        rcases c25 with _ | c25
        · exact absurd hy24 (by rw [remontoireref09_number_l1]; exact fun e => nomatch e)
        rw [remontoireref09_number_l1] at hy24
        refine SW_seq ?_
        refine SW_seq ?_
        refine SW_reg fun K hK => ?_
        simp only [go_sem, ↓reduceIte, Nat.reduceEqDiff, Nat.reduceAdd, reduceCtorEq, e28]
        apply hK
        simp only [thenQ_normal]
        refine SW_if (decide (v22 < (a0.length : Int))) (by simp only [go_sem, ↓reduceIte]) (fun c29 => ?_) (fun c29 => ?_)
        · replace hy24 := ite_t c29 hy24
          refine SW_skip ?_
          try simp only [thenQ_normal]
          refine SW_seq ?_
          obtain ⟨y30, hy30, hy24⟩ := bind_some hy24
          refine SW_joinK 42 [] [] rfl (fun E' m' => ∃ (y30a : Int), y30 = .inl y30a ∧ E' 0 = .lit (.string (bs a0)) ∧ E' 4 = .lit (.int .u64 (16 : Int)) ∧ E' 5 = .lit (.int .i64 v22) ∧ E' 6 = .lit (.int .u64 y30a) ∧ m'.gl = m.gl ∧ m.back q m' = m) ?_ ?_
          · refine SW_block ?_
            refine SW_seq ?_
            refine SW_reg fun K hK => ?_
            simp only [go_sem, Nat.reduceAdd, c29]
            apply hK
            simp only [thenQ_normal]
            refine SW_seq ?_
            refine SW_seq ?_
            obtain ⟨x31, h36, hy30⟩ := bind_some hy30
            obtain ⟨f33, f34, f35⟩ := idxL_some h36
            obtain ⟨x32, h37, hy30⟩ := bind_some hy30
            refine SW_reg fun K hK => ?_
            simp only [go_sem, ↓reduceIte, Nat.reduceEqDiff, Nat.reduceAdd, reduceCtorEq, f33, f35, e28]
            refine SC.by_ (remontoireref09_digit_ok (x31.toNat : Int) _ h37 _ _ _ (by simp only [go_sem])) ?_
            simp only [go_sem, Nat.reduceAdd]
            apply hK
            simp only [thenQ_normal]
            refine SW_if x32 (by simp only [go_sem, ↓reduceIte]) (fun c38 => ?_) (fun c38 => ?_)
            · replace hy30 := ite_t c38 hy30
              refine SW_reg fun K hK => ?_
              simp only [go_sem, ↓reduceIte, Nat.reduceEqDiff, Nat.reduceAdd, reduceCtorEq, f33, f35, c38, e28]
              apply hK
              simp only [thenQ_normal]
              refine SW_seq ?_
              refine SW_seq ?_
              obtain ⟨y39, hy39, hy30⟩ := bind_some hy30
              refine SW_joinK 25 [] [] rfl (fun E' m' => E' 0 = .lit (.string (bs a0)) ∧ E' 4 = .lit (.int .u64 (16 : Int)) ∧ E' 5 = .lit (.int .i64 v22) ∧ E' 6 = .lit (.int .u64 v23) ∧ E' 7 = .lit (.int .u64 (IntKind.u64.wrap ((IntKind.u64.wrap (x31.toNat : Int)) - (48 : Int)))) ∧ E' 49 = .lit (.bool y39) ∧ m'.gl = m.gl ∧ m.back q m' = m) ?_ ?_
              · rcases bool_or (decide ((97 : Int) ≤ (x31.toNat : Int))) with c40 | c40
                · replace hy39 := ite_t c40 hy39
                  refine SW_reg fun K hK => ?_
                  simp only [go_sem, ↓reduceIte, Nat.reduceEqDiff, Nat.reduceAdd, reduceCtorEq, f33, f35, c40, e28]
                  apply hK
                  simp only [thenQ_normal]
                  obtain rfl := some_eq hy39
                  refine ⟨by decide, ?_⟩
                  simp only [go_sem, ↓reduceIte, Nat.reduceEqDiff, reduceCtorEq, e28]
                · replace hy39 := ite_f c40 hy39
                  refine SW_reg fun K hK => ?_
                  simp only [go_sem, ↓reduceIte, Nat.reduceEqDiff, Nat.reduceAdd, reduceCtorEq, f33, f35, c40, e28]
                  apply hK
                  simp only [thenQ_normal]
                  obtain rfl := some_eq hy39
                  refine ⟨by decide, ?_⟩
                  simp only [go_sem, ↓reduceIte, Nat.reduceEqDiff, reduceCtorEq, e28]
              · intro E41 m42 e43 _
                simp only [thenQ_normal]
                refine SW_if y39 (by simp only [go_sem, e43]) (fun c44 => ?_) (fun c44 => ?_)
                · replace hy30 := ite_t c44 hy30
                  refine SW_reg fun K hK => ?_
                  simp only [go_sem, ↓reduceIte, Nat.reduceEqDiff, Nat.reduceAdd, f33, f35, e43]
                  apply hK
                  simp only [thenQ_normal]
                  refine SW_seq ?_
                  refine SW_seq ?_
                  refine SW_reg fun K hK => ?_
                  simp only [go_sem, ↓reduceIte, Nat.reduceEqDiff, Nat.reduceAdd, e43]
                  apply hK
                  simp only [thenQ_normal]
                  refine SW_if (decide ((16 : Int) ≤ (IntKind.u64.wrap ((IntKind.u64.wrap (x31.toNat : Int)) - (87 : Int))))) (by simp only [go_sem, ↓reduceIte]) (fun c45 => ?_) (fun c45 => ?_)
                  · replace hy30 := ite_t c45 hy30
                    refine SW_seq ?_
                    refine SW_reg fun K hK => ?_
                    simp only [go_sem, Nat.reduceAdd, c45]
                    apply hK
                    simp only [thenQ_normal]
                    refine SW_ret ?_
                    try simp only [thenQ_ret, blockQ_ret]
                    obtain rfl := some_eq hy30
                    simp only [Sum.elim_inr] at hy24
                    obtain rfl := some_eq hy24
                    simp only [Sum.elim_inr] at h
                    obtain rfl := some_eq h
                    refine ⟨by first | exact .inl rfl | exact .inl trivial | exact .inr rfl | exact .inr trivial, ?_⟩
                    simp only [go_sem, ↓reduceIte, Nat.reduceEqDiff, e43]
                  · replace hy30 := ite_f c45 hy30
                    refine SW_skip ?_
                    try simp only [thenQ_normal]
                    refine SW_seq ?_
                    refine SW_reg fun K hK => ?_
                    simp only [go_sem, ↓reduceIte, Nat.reduceEqDiff, Nat.reduceAdd, c45, e43]
                    apply hK
                    simp only [thenQ_normal]
                    refine SW_seq ?_
                    refine SW_reg fun K hK => ?_
                    simp only [go_sem, ↓reduceIte, Nat.reduceAdd]
                    apply hK
                    simp only [thenQ_normal]
                    refine SW_if (decide ((4294967295 : Int) < (IntKind.u64.wrap ((IntKind.u64.wrap (v23 * (16 : Int))) + (IntKind.u64.wrap ((IntKind.u64.wrap (x31.toNat : Int)) - (87 : Int))))))) (by simp only [go_sem, ↓reduceIte]) (fun c46 => ?_) (fun c46 => ?_)
                    · replace hy30 := ite_t c46 hy30
                      refine SW_seq ?_
                      refine SW_reg fun K hK => ?_
                      simp only [go_sem, Nat.reduceAdd, c46]
                      apply hK
                      simp only [thenQ_normal]
                      refine SW_ret ?_
                      try simp only [thenQ_ret, blockQ_ret]
                      obtain rfl := some_eq hy30
                      simp only [Sum.elim_inr] at hy24
                      obtain rfl := some_eq hy24
                      simp only [Sum.elim_inr] at h
                      obtain rfl := some_eq h
                      refine ⟨by first | exact .inl rfl | exact .inl trivial | exact .inr rfl | exact .inr trivial, ?_⟩
                      simp only [go_sem, ↓reduceIte, Nat.reduceEqDiff, e43]
                    · replace hy30 := ite_f c46 hy30
                      refine SW_skip ?_
                      try simp only [thenQ_normal, blockQ_normal]
                      obtain rfl := some_eq hy30
                      refine ⟨by decide, (IntKind.u64.wrap ((IntKind.u64.wrap (v23 * (16 : Int))) + (IntKind.u64.wrap ((IntKind.u64.wrap (x31.toNat : Int)) - (87 : Int))))), rfl, ?_⟩
                      simp only [go_sem, ↓reduceIte, Nat.reduceEqDiff, reduceCtorEq, c46, e43]
                · replace hy30 := ite_f c44 hy30
                  refine SW_skip ?_
                  try simp only [thenQ_normal]
                  refine SW_seq ?_
                  refine SW_seq ?_
                  refine SW_reg fun K hK => ?_
                  simp only [go_sem, ↓reduceIte, Nat.reduceEqDiff, Nat.reduceAdd, e43]
                  apply hK
                  simp only [thenQ_normal]
                  refine SW_if (decide ((16 : Int) ≤ (IntKind.u64.wrap ((IntKind.u64.wrap (x31.toNat : Int)) - (48 : Int))))) (by simp only [go_sem, ↓reduceIte]) (fun c47 => ?_) (fun c47 => ?_)
                  · replace hy30 := ite_t c47 hy30
                    refine SW_seq ?_
                    refine SW_reg fun K hK => ?_
                    simp only [go_sem, Nat.reduceAdd, c47]
                    apply hK
                    simp only [thenQ_normal]
                    refine SW_ret ?_
                    try simp only [thenQ_ret, blockQ_ret]
                    obtain rfl := some_eq hy30
                    simp only [Sum.elim_inr] at hy24
                    obtain rfl := some_eq hy24
                    simp only [Sum.elim_inr] at h
                    obtain rfl := some_eq h
                    refine ⟨by first | exact .inl rfl | exact .inl trivial | exact .inr rfl | exact .inr trivial, ?_⟩
                    simp only [go_sem, ↓reduceIte, Nat.reduceEqDiff, e43]
                  · replace hy30 := ite_f c47 hy30
                    refine SW_skip ?_
                    try simp only [thenQ_normal]
                    refine SW_seq ?_
                    refine SW_reg fun K hK => ?_
                    simp only [go_sem, ↓reduceIte, Nat.reduceEqDiff, Nat.reduceAdd, c47, e43]
                    apply hK
                    simp only [thenQ_normal]
                    refine SW_seq ?_
                    refine SW_reg fun K hK => ?_
                    simp only [go_sem, ↓reduceIte, Nat.reduceAdd]
                    apply hK
                    simp only [thenQ_normal]
                    refine SW_if (decide ((4294967295 : Int) < (IntKind.u64.wrap ((IntKind.u64.wrap (v23 * (16 : Int))) + (IntKind.u64.wrap ((IntKind.u64.wrap (x31.toNat : Int)) - (48 : Int))))))) (by simp only [go_sem, ↓reduceIte]) (fun c48 => ?_) (fun c48 => ?_)
                    · replace hy30 := ite_t c48 hy30
                      refine SW_seq ?_
                      refine SW_reg fun K hK => ?_
                      simp only [go_sem, Nat.reduceAdd, c48]
                      apply hK
                      simp only [thenQ_normal]
                      refine SW_ret ?_
                      try simp only [thenQ_ret, blockQ_ret]
                      obtain rfl := some_eq hy30
                      simp only [Sum.elim_inr] at hy24
                      obtain rfl := some_eq hy24
                      simp only [Sum.elim_inr] at h
                      obtain rfl := some_eq h
                      refine ⟨by first | exact .inl rfl | exact .inl trivial | exact .inr rfl | exact .inr trivial, ?_⟩
                      simp only [go_sem, ↓reduceIte, Nat.reduceEqDiff, e43]
                    · replace hy30 := ite_f c48 hy30
                      refine SW_skip ?_
                      try simp only [thenQ_normal, blockQ_normal]
                      obtain rfl := some_eq hy30
                      refine ⟨by decide, (IntKind.u64.wrap ((IntKind.u64.wrap (v23 * (16 : Int))) + (IntKind.u64.wrap ((IntKind.u64.wrap (x31.toNat : Int)) - (48 : Int))))), rfl, ?_⟩
                      simp only [go_sem, ↓reduceIte, Nat.reduceEqDiff, reduceCtorEq, c48, e43]
            · replace hy30 := ite_f c38 hy30
              refine SW_skip ?_
              try simp only [thenQ_normal]
              refine SW_seq ?_
              refine SW_seq ?_
              obtain ⟨y49, hy49, hy30⟩ := bind_some hy30
              refine SW_joinK 19 [] [] rfl (fun E' m' => E' 0 = .lit (.string (bs a0)) ∧ E' 4 = .lit (.int .u64 (16 : Int)) ∧ E' 5 = .lit (.int .i64 v22) ∧ E' 6 = .lit (.int .u64 v23) ∧ E' 7 = .lit (.int .u64 (99 : Int)) ∧ E' 49 = .lit (.bool y49) ∧ m'.gl = m.gl ∧ m.back q m' = m) ?_ ?_
              · rcases bool_or (decide ((97 : Int) ≤ (x31.toNat : Int))) with c50 | c50
                · replace hy49 := ite_t c50 hy49
                  refine SW_reg fun K hK => ?_
                  simp only [go_sem, ↓reduceIte, Nat.reduceEqDiff, Nat.reduceAdd, reduceCtorEq, f33, f35, c38, c50, e28]
                  apply hK
                  simp only [thenQ_normal]
                  obtain rfl := some_eq hy49
                  refine ⟨by decide, ?_⟩
                  simp only [go_sem, ↓reduceIte, Nat.reduceEqDiff, reduceCtorEq, e28]
                · replace hy49 := ite_f c50 hy49
                  refine SW_reg fun K hK => ?_
                  simp only [go_sem, ↓reduceIte, Nat.reduceEqDiff, Nat.reduceAdd, reduceCtorEq, f33, f35, c38, c50, e28]
                  apply hK
                  simp only [thenQ_normal]
                  obtain rfl := some_eq hy49
                  refine ⟨by decide, ?_⟩
                  simp only [go_sem, ↓reduceIte, Nat.reduceEqDiff, reduceCtorEq, e28]
              · intro E51 m52 e53 _
                simp only [thenQ_normal]
                refine SW_if y49 (by simp only [go_sem, e53]) (fun c54 => ?_) (fun c54 => ?_)
                · replace hy30 := ite_t c54 hy30
                  refine SW_reg fun K hK => ?_
                  simp only [go_sem, ↓reduceIte, Nat.reduceEqDiff, Nat.reduceAdd, f33, f35, e53]
                  apply hK
                  simp only [thenQ_normal]
                  refine SW_seq ?_
                  refine SW_seq ?_
                  refine SW_reg fun K hK => ?_
                  simp only [go_sem, ↓reduceIte, Nat.reduceEqDiff, Nat.reduceAdd, e53]
                  apply hK
                  simp only [thenQ_normal]
                  refine SW_if (decide ((16 : Int) ≤ (IntKind.u64.wrap ((IntKind.u64.wrap (x31.toNat : Int)) - (87 : Int))))) (by simp only [go_sem, ↓reduceIte]) (fun c55 => ?_) (fun c55 => ?_)
                  · replace hy30 := ite_t c55 hy30
                    refine SW_seq ?_
                    refine SW_reg fun K hK => ?_
                    simp only [go_sem, Nat.reduceAdd, c55]
                    apply hK
                    simp only [thenQ_normal]
                    refine SW_ret ?_
                    try simp only [thenQ_ret, blockQ_ret]
                    obtain rfl := some_eq hy30
                    simp only [Sum.elim_inr] at hy24
                    obtain rfl := some_eq hy24
                    simp only [Sum.elim_inr] at h
                    obtain rfl := some_eq h
                    refine ⟨by first | exact .inl rfl | exact .inl trivial | exact .inr rfl | exact .inr trivial, ?_⟩
                    simp only [go_sem, ↓reduceIte, Nat.reduceEqDiff, e53]
                  · replace hy30 := ite_f c55 hy30
                    refine SW_skip ?_
                    try simp only [thenQ_normal]
                    refine SW_seq ?_
                    refine SW_reg fun K hK => ?_
                    simp only [go_sem, ↓reduceIte, Nat.reduceEqDiff, Nat.reduceAdd, c55, e53]
                    apply hK
                    simp only [thenQ_normal]
                    refine SW_seq ?_
                    refine SW_reg fun K hK => ?_
                    simp only [go_sem, ↓reduceIte, Nat.reduceAdd]
                    apply hK
                    simp only [thenQ_normal]
                    refine SW_if (decide ((4294967295 : Int) < (IntKind.u64.wrap ((IntKind.u64.wrap (v23 * (16 : Int))) + (IntKind.u64.wrap ((IntKind.u64.wrap (x31.toNat : Int)) - (87 : Int))))))) (by simp only [go_sem, ↓reduceIte]) (fun c56 => ?_) (fun c56 => ?_)
                    · replace hy30 := ite_t c56 hy30
                      refine SW_seq ?_
                      refine SW_reg fun K hK => ?_
                      simp only [go_sem, Nat.reduceAdd, c56]
                      apply hK
                      simp only [thenQ_normal]
                      refine SW_ret ?_
                      try simp only [thenQ_ret, blockQ_ret]
                      obtain rfl := some_eq hy30
                      simp only [Sum.elim_inr] at hy24
                      obtain rfl := some_eq hy24
                      simp only [Sum.elim_inr] at h
                      obtain rfl := some_eq h
                      refine ⟨by first | exact .inl rfl | exact .inl trivial | exact .inr rfl | exact .inr trivial, ?_⟩
                      simp only [go_sem, ↓reduceIte, Nat.reduceEqDiff, e53]
                    · replace hy30 := ite_f c56 hy30
                      refine SW_skip ?_
                      try simp only [thenQ_normal, blockQ_normal]
                      obtain rfl := some_eq hy30
                      refine ⟨by decide, (IntKind.u64.wrap ((IntKind.u64.wrap (v23 * (16 : Int))) + (IntKind.u64.wrap ((IntKind.u64.wrap (x31.toNat : Int)) - (87 : Int))))), rfl, ?_⟩
                      simp only [go_sem, ↓reduceIte, Nat.reduceEqDiff, reduceCtorEq, c56, e53]
                · replace hy30 := ite_f c54 hy30
                  refine SW_skip ?_
                  try simp only [thenQ_normal]
                  refine SW_seq ?_
                  refine SW_seq ?_
                  refine SW_reg fun K hK => ?_
                  simp only [go_sem, ↓reduceIte, Nat.reduceEqDiff, Nat.reduceAdd, Int.reduceLE, e53]
                  apply hK
                  simp only [thenQ_normal]
                  refine SW_if (decide ((16 : Int) ≤ (99 : Int))) (by simp only [go_sem, ↓reduceIte, Int.reduceLE]) (fun c57 => ?_) (fun c57 => ?_)
                  · replace hy30 := ite_t c57 hy30
                    refine SW_seq ?_
                    refine SW_reg fun K hK => ?_
                    simp only [go_sem, Nat.reduceAdd]
                    apply hK
                    simp only [thenQ_normal]
                    refine SW_ret ?_
                    try simp only [thenQ_ret, blockQ_ret]
                    obtain rfl := some_eq hy30
                    simp only [Sum.elim_inr] at hy24
                    obtain rfl := some_eq hy24
                    simp only [Sum.elim_inr] at h
                    obtain rfl := some_eq h
                    refine ⟨by first | exact .inl rfl | exact .inl trivial | exact .inr rfl | exact .inr trivial, ?_⟩
                    simp only [go_sem, ↓reduceIte, Nat.reduceEqDiff, e53]
                  · replace hy30 := ite_f c57 hy30
                    refine SW_skip ?_
                    try simp only [thenQ_normal]
                    refine SW_seq ?_
                    refine SW_reg fun K hK => ?_
                    simp only [go_sem, ↓reduceIte, Nat.reduceEqDiff, Nat.reduceAdd, e53]
                    apply hK
                    simp only [thenQ_normal]
                    refine SW_seq ?_
                    refine SW_reg fun K hK => ?_
                    simp only [go_sem, ↓reduceIte, Nat.reduceAdd]
                    apply hK
                    simp only [thenQ_normal]
                    refine SW_if (decide ((4294967295 : Int) < (IntKind.u64.wrap ((IntKind.u64.wrap (v23 * (16 : Int))) + (99 : Int))))) (by simp only [go_sem, ↓reduceIte]) (fun c58 => ?_) (fun c58 => ?_)
                    · replace hy30 := ite_t c58 hy30
                      refine SW_seq ?_
                      refine SW_reg fun K hK => ?_
                      simp only [go_sem, Nat.reduceAdd, c58]
                      apply hK
                      simp only [thenQ_normal]
                      refine SW_ret ?_
                      try simp only [thenQ_ret, blockQ_ret]
                      obtain rfl := some_eq hy30
                      simp only [Sum.elim_inr] at hy24
                      obtain rfl := some_eq hy24
                      simp only [Sum.elim_inr] at h
                      obtain rfl := some_eq h
                      refine ⟨by first | exact .inl rfl | exact .inl trivial | exact .inr rfl | exact .inr trivial, ?_⟩
                      simp only [go_sem, ↓reduceIte, Nat.reduceEqDiff, e53]
                    · replace hy30 := ite_f c58 hy30
                      refine SW_skip ?_
                      try simp only [thenQ_normal, blockQ_normal]
                      obtain rfl := some_eq hy30
                      refine ⟨by decide, (IntKind.u64.wrap ((IntKind.u64.wrap (v23 * (16 : Int))) + (99 : Int))), rfl, ?_⟩
                      simp only [go_sem, ↓reduceIte, Nat.reduceEqDiff, reduceCtorEq, c58, e53]
          · rintro E59 m60 ⟨y30a, rfl, e61⟩ _
            simp only [Sum.elim_inl] at hy24
            simp only [thenQ_normal]
            refine SW_reg fun K hK => ?_
            simp only [go_sem, ↓reduceIte, Nat.reduceAdd, e61]
            apply hK
            simp only [thenQ_normal]
            refine ⟨c25, Nat.lt_succ_self _, (IntKind.i64.wrap (v22 + (1 : Int))), y30a, hy24, ?_⟩
            simp only [go_sem, ↓reduceIte, Nat.reduceEqDiff, reduceCtorEq, e61]
        · replace hy24 := ite_f c29 hy24
          refine SW_exit ?_
          try simp only [thenQ_exit, blockQ_exit, ↓reduceIte, thenQ_normal]
          obtain rfl := some_eq hy24
          simp only [Sum.elim_inl] at h
          refine SW_seq ?_
          refine SW_reg fun K hK => ?_
          simp only [go_sem, ↓reduceIte, Nat.reduceEqDiff, Nat.reduceAdd, c29, e28]
          apply hK
          simp only [thenQ_normal]
          refine SW_ret ?_
          try simp only []
          obtain rfl := some_eq h
          refine ⟨by first | exact .inl rfl | exact .inl trivial | exact .inr rfl | exact .inr trivial, ?_⟩
          simp only [go_sem, ↓reduceIte, Nat.reduceEqDiff, e28]
    · replace h := ite_f c19 h
      refine SW_skip ?_
      try simp only [thenQ_normal]
      refine SW_seq ?_
      refine SW_seq ?_
      refine SW_reg fun K hK => ?_
      simp only [go_sem, ↓reduceIte, Nat.reduceEqDiff, Nat.reduceAdd, reduceCtorEq, e18]
      apply hK
      simp only [thenQ_normal]
      refine SW_if ((0 : Int) == (a0.length : Int)) (by simp only [go_sem, ↓reduceIte]) (fun c62 => ?_) (fun c62 => ?_)
      · replace h := ite_t c62 h
        refine SW_seq ?_
        refine SW_reg fun K hK => ?_
        simp only [go_sem, Nat.reduceAdd, c62]
        apply hK
        simp only [thenQ_normal]
        refine SW_ret ?_
        try simp only [thenQ_ret]
        obtain rfl := some_eq h
        refine ⟨by first | exact .inl rfl | exact .inl trivial | exact .inr rfl | exact .inr trivial, ?_⟩
        simp only [go_sem, ↓reduceIte, Nat.reduceEqDiff, e18]
      · replace h := ite_f c62 h
        refine SW_skip ?_
        try simp only [thenQ_normal]
        refine SW_seq ?_
        refine SW_reg fun K hK => ?_
        simp only [go_sem, Nat.reduceAdd, c62]
        apply hK
        simp only [thenQ_normal]
        refine SW_seq ?_
        refine SW_block ?_
        obtain ⟨y66, hy66, h⟩ := bind_some h
        refine SW_countW [] [] rfl (fun c E' m' => ∃ (v64 : Int), ∃ (v65 : Int), remontoireref09_number_l2 a0 c v64 v65 = some y66 ∧ E' 0 = .lit (.string (bs a0)) ∧ E' 4 = .lit (.int .u64 (10 : Int)) ∧ E' 5 = .lit (.int .i64 v64) ∧ E' 6 = .lit (.int .u64 v65) ∧ m'.gl = m.gl ∧ m.back q m' = m) n ⟨(0 : Int), (0 : Int), hy66, ?_⟩ ?_
        · simp only [go_sem, ↓reduceIte, Nat.reduceEqDiff, reduceCtorEq, e18]
        rintro i63 c67 E68 m69 ⟨v64, v65, hy66, e70⟩ _
        rcases c67 with _ | c67
        · exact absurd hy66 (by rw [remontoireref09_number_l2]; exact fun e => nomatch e)
        rw [remontoireref09_number_l2] at hy66
        refine SW_seq ?_
        refine SW_seq ?_
        refine SW_reg fun K hK => ?_
        simp only [go_sem, ↓reduceIte, Nat.reduceEqDiff, Nat.reduceAdd, reduceCtorEq, e70]
        apply hK
        simp only [thenQ_normal]
        refine SW_if (decide (v64 < (a0.length : Int))) (by simp only [go_sem, ↓reduceIte]) (fun c71 => ?_) (fun c71 => ?_)
        · replace hy66 := ite_t c71 hy66
          refine SW_skip ?_
          try simp only [thenQ_normal]
          refine SW_seq ?_
          obtain ⟨y72, hy72, hy66⟩ := bind_some hy66
          refine SW_joinK 42 [] [] rfl (fun E' m' => ∃ (y72a : Int), y72 = .inl y72a ∧ E' 0 = .lit (.string (bs a0)) ∧ E' 4 = .lit (.int .u64 (10 : Int)) ∧ E' 5 = .lit (.int .i64 v64) ∧ E' 6 = .lit (.int .u64 y72a) ∧ m'.gl = m.gl ∧ m.back q m' = m) ?_ ?_
          · refine SW_block ?_
            refine SW_seq ?_
            refine SW_reg fun K hK => ?_
            simp only [go_sem, Nat.reduceAdd, c71]
            apply hK
            simp only [thenQ_normal]
            refine SW_seq ?_
            refine SW_seq ?_
            obtain ⟨x73, h78, hy72⟩ := bind_some hy72
            obtain ⟨f75, f76, f77⟩ := idxL_some h78
            obtain ⟨x74, h79, hy72⟩ := bind_some hy72
            refine SW_reg fun K hK => ?_
            simp only [go_sem, ↓reduceIte, Nat.reduceEqDiff, Nat.reduceAdd, reduceCtorEq, f75, f77, e70]
            refine SC.by_ (remontoireref09_digit_ok (x73.toNat : Int) _ h79 _ _ _ (by simp only [go_sem])) ?_
            simp only [go_sem, Nat.reduceAdd]
            apply hK
            simp only [thenQ_normal]
            refine SW_if x74 (by simp only [go_sem, ↓reduceIte]) (fun c80 => ?_) (fun c80 => ?_)
            · replace hy72 := ite_t c80 hy72
              refine SW_reg fun K hK => ?_
              simp only [go_sem, ↓reduceIte, Nat.reduceEqDiff, Nat.reduceAdd, reduceCtorEq, f75, f77, c80, e70]
              apply hK
              simp only [thenQ_normal]
              refine SW_seq ?_
              refine SW_seq ?_
              obtain ⟨y81, hy81, hy72⟩ := bind_some hy72
              refine SW_joinK 25 [] [] rfl (fun E' m' => E' 0 = .lit (.string (bs a0)) ∧ E' 4 = .lit (.int .u64 (10 : Int)) ∧ E' 5 = .lit (.int .i64 v64) ∧ E' 6 = .lit (.int .u64 v65) ∧ E' 7 = .lit (.int .u64 (IntKind.u64.wrap ((IntKind.u64.wrap (x73.toNat : Int)) - (48 : Int)))) ∧ E' 49 = .lit (.bool y81) ∧ m'.gl = m.gl ∧ m.back q m' = m) ?_ ?_
              · rcases bool_or (decide ((97 : Int) ≤ (x73.toNat : Int))) with c82 | c82
                · replace hy81 := ite_t c82 hy81
                  refine SW_reg fun K hK => ?_
                  simp only [go_sem, ↓reduceIte, Nat.reduceEqDiff, Nat.reduceAdd, reduceCtorEq, f75, f77, c82, e70]
                  apply hK
                  simp only [thenQ_normal]
                  obtain rfl := some_eq hy81
                  refine ⟨by decide, ?_⟩
                  simp only [go_sem, ↓reduceIte, Nat.reduceEqDiff, reduceCtorEq, e70]
                · replace hy81 := ite_f c82 hy81
                  refine SW_reg fun K hK => ?_
                  simp only [go_sem, ↓reduceIte, Nat.reduceEqDiff, Nat.reduceAdd, reduceCtorEq, f75, f77, c82, e70]
                  apply hK
                  simp only [thenQ_normal]
                  obtain rfl := some_eq hy81
                  refine ⟨by decide, ?_⟩
                  simp only [go_sem, ↓reduceIte, Nat.reduceEqDiff, reduceCtorEq, e70]
              · intro E83 m84 e85 _
                simp only [thenQ_normal]
                refine SW_if y81 (by simp only [go_sem, e85]) (fun c86 => ?_) (fun c86 => ?_)
                · replace hy72 := ite_t c86 hy72
                  refine SW_reg fun K hK => ?_
                  simp only [go_sem, ↓reduceIte, Nat.reduceEqDiff, Nat.reduceAdd, f75, f77, e85]
                  apply hK
                  simp only [thenQ_normal]
                  refine SW_seq ?_
                  refine SW_seq ?_
                  refine SW_reg fun K hK => ?_
                  simp only [go_sem, ↓reduceIte, Nat.reduceEqDiff, Nat.reduceAdd, e85]
                  apply hK
                  simp only [thenQ_normal]
                  refine SW_if (decide ((10 : Int) ≤ (IntKind.u64.wrap ((IntKind.u64.wrap (x73.toNat : Int)) - (87 : Int))))) (by simp only [go_sem, ↓reduceIte]) (fun c87 => ?_) (fun c87 => ?_)
                  · replace hy72 := ite_t c87 hy72
                    refine SW_seq ?_
                    refine SW_reg fun K hK => ?_
                    simp only [go_sem, Nat.reduceAdd, c87]
                    apply hK
                    simp only [thenQ_normal]
                    refine SW_ret ?_
                    try simp only [thenQ_ret, blockQ_ret]
                    obtain rfl := some_eq hy72
                    simp only [Sum.elim_inr] at hy66
                    obtain rfl := some_eq hy66
                    simp only [Sum.elim_inr] at h
                    obtain rfl := some_eq h
                    refine ⟨by first | exact .inl rfl | exact .inl trivial | exact .inr rfl | exact .inr trivial, ?_⟩
                    simp only [go_sem, ↓reduceIte, Nat.reduceEqDiff, e85]
                  · replace hy72 := ite_f c87 hy72
                    refine SW_skip ?_
                    try simp only [thenQ_normal]
                    refine SW_seq ?_
                    refine SW_reg fun K hK => ?_
                    simp only [go_sem, ↓reduceIte, Nat.reduceEqDiff, Nat.reduceAdd, c87, e85]
                    apply hK
                    simp only [thenQ_normal]
                    refine SW_seq ?_
                    refine SW_reg fun K hK => ?_
                    simp only [go_sem, ↓reduceIte, Nat.reduceAdd]
                    apply hK
                    simp only [thenQ_normal]
                    refine SW_if (decide ((4294967295 : Int) < (IntKind.u64.wrap ((IntKind.u64.wrap (v65 * (10 : Int))) + (IntKind.u64.wrap ((IntKind.u64.wrap (x73.toNat : Int)) - (87 : Int))))))) (by simp only [go_sem, ↓reduceIte]) (fun c88 => ?_) (fun c88 => ?_)
                    · replace hy72 := ite_t c88 hy72
                      refine SW_seq ?_
                      refine SW_reg fun K hK => ?_
                      simp only [go_sem, Nat.reduceAdd, c88]
                      apply hK
                      simp only [thenQ_normal]
                      refine SW_ret ?_
                      try simp only [thenQ_ret, blockQ_ret]
                      obtain rfl := some_eq hy72
                      simp only [Sum.elim_inr] at hy66
                      obtain rfl := some_eq hy66
                      simp only [Sum.elim_inr] at h
                      obtain rfl := some_eq h
                      refine ⟨by first | exact .inl rfl | exact .inl trivial | exact .inr rfl | exact .inr trivial, ?_⟩
                      simp only [go_sem, ↓reduceIte, Nat.reduceEqDiff, e85]
                    · replace hy72 := ite_f c88 hy72
                      refine SW_skip ?_
                      try simp only [thenQ_normal, blockQ_normal]
                      obtain rfl := some_eq hy72
                      refine ⟨by decide, (IntKind.u64.wrap ((IntKind.u64.wrap (v65 * (10 : Int))) + (IntKind.u64.wrap ((IntKind.u64.wrap (x73.toNat : Int)) - (87 : Int))))), rfl, ?_⟩
                      simp only [go_sem, ↓reduceIte, Nat.reduceEqDiff, reduceCtorEq, c88, e85]
                · replace hy72 := ite_f c86 hy72
                  refine SW_skip ?_
                  try simp only [thenQ_normal]
                  refine SW_seq ?_
                  refine SW_seq ?_
                  refine SW_reg fun K hK => ?_
                  simp only [go_sem, ↓reduceIte, Nat.reduceEqDiff, Nat.reduceAdd, e85]
                  apply hK
                  simp only [thenQ_normal]
                  refine SW_if (decide ((10 : Int) ≤ (IntKind.u64.wrap ((IntKind.u64.wrap (x73.toNat : Int)) - (48 : Int))))) (by simp only [go_sem, ↓reduceIte]) (fun c89 => ?_) (fun c89 => ?_)
                  · replace hy72 := ite_t c89 hy72
                    refine SW_seq ?_
                    refine SW_reg fun K hK => ?_
                    simp only [go_sem, Nat.reduceAdd, c89]
                    apply hK
                    simp only [thenQ_normal]
                    refine SW_ret ?_
                    try simp only [thenQ_ret, blockQ_ret]
                    obtain rfl := some_eq hy72
                    simp only [Sum.elim_inr] at hy66
                    obtain rfl := some_eq hy66
                    simp only [Sum.elim_inr] at h
                    obtain rfl := some_eq h
                    refine ⟨by first | exact .inl rfl | exact .inl trivial | exact .inr rfl | exact .inr trivial, ?_⟩
                    simp only [go_sem, ↓reduceIte, Nat.reduceEqDiff, e85]
                  · replace hy72 := ite_f c89 hy72
                    refine SW_skip ?_
                    try simp only [thenQ_normal]
                    refine SW_seq ?_
                    refine SW_reg fun K hK => ?_
                    simp only [go_sem, ↓reduceIte, Nat.reduceEqDiff, Nat.reduceAdd, c89, e85]
                    apply hK
                    simp only [thenQ_normal]
                    refine SW_seq ?_
                    refine SW_reg fun K hK => ?_
                    simp only [go_sem, ↓reduceIte, Nat.reduceAdd]
                    apply hK
                    simp only [thenQ_normal]
                    refine SW_if (decide ((4294967295 : Int) < (IntKind.u64.wrap ((IntKind.u64.wrap (v65 * (10 : Int))) + (IntKind.u64.wrap ((IntKind.u64.wrap (x73.toNat : Int)) - (48 : Int))))))) (by simp only [go_sem, ↓reduceIte]) (fun c90 => ?_) (fun c90 => ?_)
                    · replace hy72 := ite_t c90 hy72
                      refine SW_seq ?_
                      refine SW_reg fun K hK => ?_
                      simp only [go_sem, Nat.reduceAdd, c90]
                      apply hK
                      simp only [thenQ_normal]
                      refine SW_ret ?_
                      try simp only [thenQ_ret, blockQ_ret]
                      obtain rfl := some_eq hy72
                      simp only [Sum.elim_inr] at hy66
                      obtain rfl := some_eq hy66
                      simp only [Sum.elim_inr] at h
                      obtain rfl := some_eq h
                      refine ⟨by first | exact .inl rfl | exact .inl trivial | exact .inr rfl | exact .inr trivial, ?_⟩
                      simp only [go_sem, ↓reduceIte, Nat.reduceEqDiff, e85]
                    · replace hy72 := ite_f c90 hy72
                      refine SW_skip ?_
                      try simp only [thenQ_normal, blockQ_normal]
                      obtain rfl := some_eq hy72
                      refine ⟨by decide, (IntKind.u64.wrap ((IntKind.u64.wrap (v65 * (10 : Int))) + (IntKind.u64.wrap ((IntKind.u64.wrap (x73.toNat : Int)) - (48 : Int))))), rfl, ?_⟩
                      simp only [go_sem, ↓reduceIte, Nat.reduceEqDiff, reduceCtorEq, c90, e85]
            · replace hy72 := ite_f c80 hy72
              refine SW_skip ?_
              try simp only [thenQ_normal]
              refine SW_seq ?_
              refine SW_seq ?_
              obtain ⟨y91, hy91, hy72⟩ := bind_some hy72
              refine SW_joinK 19 [] [] rfl (fun E' m' => E' 0 = .lit (.string (bs a0)) ∧ E' 4 = .lit (.int .u64 (10 : Int)) ∧ E' 5 = .lit (.int .i64 v64) ∧ E' 6 = .lit (.int .u64 v65) ∧ E' 7 = .lit (.int .u64 (99 : Int)) ∧ E' 49 = .lit (.bool y91) ∧ m'.gl = m.gl ∧ m.back q m' = m) ?_ ?_
              · rcases bool_or (decide ((97 : Int) ≤ (x73.toNat : Int))) with c92 | c92
                · replace hy91 := ite_t c92 hy91
                  refine SW_reg fun K hK => ?_
                  simp only [go_sem, ↓reduceIte, Nat.reduceEqDiff, Nat.reduceAdd, reduceCtorEq, f75, f77, c80, c92, e70]
                  apply hK
                  simp only [thenQ_normal]
                  obtain rfl := some_eq hy91
                  refine ⟨by decide, ?_⟩
                  simp only [go_sem, ↓reduceIte, Nat.reduceEqDiff, reduceCtorEq, e70]
                · replace hy91 := ite_f c92 hy91
                  refine SW_reg fun K hK => ?_
                  simp only [go_sem, ↓reduceIte, Nat.reduceEqDiff, Nat.reduceAdd, reduceCtorEq, f75, f77, c80, c92, e70]
                  apply hK
                  simp only [thenQ_normal]
                  obtain rfl := some_eq hy91
                  refine ⟨by decide, ?_⟩
                  simp only [go_sem, ↓reduceIte, Nat.reduceEqDiff, reduceCtorEq, e70]
              · intro E93 m94 e95 _
                simp only [thenQ_normal]
                refine SW_if y91 (by simp only [go_sem, e95]) (fun c96 => ?_) (fun c96 => ?_)
                · replace hy72 := ite_t c96 hy72
                  refine SW_reg fun K hK => ?_
                  simp only [go_sem, ↓reduceIte, Nat.reduceEqDiff, Nat.reduceAdd, f75, f77, e95]
                  apply hK
                  simp only [thenQ_normal]
                  refine SW_seq ?_
                  refine SW_seq ?_
                  refine SW_reg fun K hK => ?_
                  simp only [go_sem, ↓reduceIte, Nat.reduceEqDiff, Nat.reduceAdd, e95]
                  apply hK
                  simp only [thenQ_normal]
                  refine SW_if (decide ((10 : Int) ≤ (IntKind.u64.wrap ((IntKind.u64.wrap (x73.toNat : Int)) - (87 : Int))))) (by simp only [go_sem, ↓reduceIte]) (fun c97 => ?_) (fun c97 => ?_)
                  · replace hy72 := ite_t c97 hy72
                    refine SW_seq ?_
                    refine SW_reg fun K hK => ?_
                    simp only [go_sem, Nat.reduceAdd, c97]
                    apply hK
                    simp only [thenQ_normal]
                    refine SW_ret ?_
                    try simp only [thenQ_ret, blockQ_ret]
                    obtain rfl := some_eq hy72
                    simp only [Sum.elim_inr] at hy66
                    obtain rfl := some_eq hy66
                    simp only [Sum.elim_inr] at h
                    obtain rfl := some_eq h
                    refine ⟨by first | exact .inl rfl | exact .inl trivial | exact .inr rfl | exact .inr trivial, ?_⟩
                    simp only [go_sem, ↓reduceIte, Nat.reduceEqDiff, e95]
                  · replace hy72 := ite_f c97 hy72
                    refine SW_skip ?_
                    try simp only [thenQ_normal]
                    refine SW_seq ?_
                    refine SW_reg fun K hK => ?_
                    simp only [go_sem, ↓reduceIte, Nat.reduceEqDiff, Nat.reduceAdd, c97, e95]
                    apply hK
                    simp only [thenQ_normal]
                    refine SW_seq ?_
                    refine SW_reg fun K hK => ?_
                    simp only [go_sem, ↓reduceIte, Nat.reduceAdd]
                    apply hK
                    simp only [thenQ_normal]
                    refine SW_if (decide ((4294967295 : Int) < (IntKind.u64.wrap ((IntKind.u64.wrap (v65 * (10 : Int))) + (IntKind.u64.wrap ((IntKind.u64.wrap (x73.toNat : Int)) - (87 : Int))))))) (by simp only [go_sem, ↓reduceIte]) (fun c98 => ?_) (fun c98 => ?_)
                    · replace hy72 := ite_t c98 hy72
                      refine SW_seq ?_
                      refine SW_reg fun K hK => ?_
                      simp only [go_sem, Nat.reduceAdd, c98]
                      apply hK
                      simp only [thenQ_normal]
                      refine SW_ret ?_
                      try simp only [thenQ_ret, blockQ_ret]
                      obtain rfl := some_eq hy72
                      simp only [Sum.elim_inr] at hy66
                      obtain rfl := some_eq hy66
                      simp only [Sum.elim_inr] at h
                      obtain rfl := some_eq h
                      refine ⟨by first | exact .inl rfl | exact .inl trivial | exact .inr rfl | exact .inr trivial, ?_⟩
                      simp only [go_sem, ↓reduceIte, Nat.reduceEqDiff, e95]
                    · replace hy72 := ite_f c98 hy72
                      refine SW_skip ?_
                      try simp only [thenQ_normal, blockQ_normal]
                      obtain rfl := some_eq hy72
                      refine ⟨by decide, (IntKind.u64.wrap ((IntKind.u64.wrap (v65 * (10 : Int))) + (IntKind.u64.wrap ((IntKind.u64.wrap (x73.toNat : Int)) - (87 : Int))))), rfl, ?_⟩
                      simp only [go_sem, ↓reduceIte, Nat.reduceEqDiff, reduceCtorEq, c98, e95]
                · replace hy72 := ite_f c96 hy72
                  refine SW_skip ?_
                  try simp only [thenQ_normal]
                  refine SW_seq ?_
                  refine SW_seq ?_
                  refine SW_reg fun K hK => ?_
                  simp only [go_sem, ↓reduceIte, Nat.reduceEqDiff, Nat.reduceAdd, Int.reduceLE, e95]
                  apply hK
                  simp only [thenQ_normal]
                  refine SW_if (decide ((10 : Int) ≤ (99 : Int))) (by simp only [go_sem, ↓reduceIte, Int.reduceLE]) (fun c99 => ?_) (fun c99 => ?_)
                  · replace hy72 := ite_t c99 hy72
                    refine SW_seq ?_
                    refine SW_reg fun K hK => ?_
                    simp only [go_sem, Nat.reduceAdd]
                    apply hK
                    simp only [thenQ_normal]
                    refine SW_ret ?_
                    try simp only [thenQ_ret, blockQ_ret]
                    obtain rfl := some_eq hy72
                    simp only [Sum.elim_inr] at hy66
                    obtain rfl := some_eq hy66
                    simp only [Sum.elim_inr] at h
                    obtain rfl := some_eq h
                    refine ⟨by first | exact .inl rfl | exact .inl trivial | exact .inr rfl | exact .inr trivial, ?_⟩
                    simp only [go_sem, ↓reduceIte, Nat.reduceEqDiff, e95]
                  · replace hy72 := ite_f c99 hy72
                    refine SW_skip ?_
                    try simp only [thenQ_normal]
                    refine SW_seq ?_
                    refine SW_reg fun K hK => ?_
                    simp only [go_sem, ↓reduceIte, Nat.reduceEqDiff, Nat.reduceAdd, e95]
                    apply hK
                    simp only [thenQ_normal]
                    refine SW_seq ?_
                    refine SW_reg fun K hK => ?_
                    simp only [go_sem, ↓reduceIte, Nat.reduceAdd]
                    apply hK
                    simp only [thenQ_normal]
                    refine SW_if (decide ((4294967295 : Int) < (IntKind.u64.wrap ((IntKind.u64.wrap (v65 * (10 : Int))) + (99 : Int))))) (by simp only [go_sem, ↓reduceIte]) (fun c100 => ?_) (fun c100 => ?_)
                    · replace hy72 := ite_t c100 hy72
                      refine SW_seq ?_
                      refine SW_reg fun K hK => ?_
                      simp only [go_sem, Nat.reduceAdd, c100]
                      apply hK
                      simp only [thenQ_normal]
                      refine SW_ret ?_
                      try simp only [thenQ_ret, blockQ_ret]
                      obtain rfl := some_eq hy72
                      simp only [Sum.elim_inr] at hy66
                      obtain rfl := some_eq hy66
                      simp only [Sum.elim_inr] at h
                      obtain rfl := some_eq h
                      refine ⟨by first | exact .inl rfl | exact .inl trivial | exact .inr rfl | exact .inr trivial, ?_⟩
                      simp only [go_sem, ↓reduceIte, Nat.reduceEqDiff, e95]
                    · replace hy72 := ite_f c100 hy72
                      refine SW_skip ?_
                      try simp only [thenQ_normal, blockQ_normal]
                      obtain rfl := some_eq hy72
                      refine ⟨by decide, (IntKind.u64.wrap ((IntKind.u64.wrap (v65 * (10 : Int))) + (99 : Int))), rfl, ?_⟩
                      simp only [go_sem, ↓reduceIte, Nat.reduceEqDiff, reduceCtorEq, c100, e95]
          · rintro E101 m102 ⟨y72a, rfl, e103⟩ _
            simp only [Sum.elim_inl] at hy66
            simp only [thenQ_normal]
            refine SW_reg fun K hK => ?_
            simp only [go_sem, ↓reduceIte, Nat.reduceAdd, e103]
            apply hK
            simp only [thenQ_normal]
            refine ⟨c67, Nat.lt_succ_self _, (IntKind.i64.wrap (v64 + (1 : Int))), y72a, hy66, ?_⟩
            simp only [go_sem, ↓reduceIte, Nat.reduceEqDiff, reduceCtorEq, e103]
        · replace hy66 := ite_f c71 hy66
          refine SW_exit ?_
          try simp only [thenQ_exit, blockQ_exit, ↓reduceIte, thenQ_normal]
          obtain rfl := some_eq hy66
          simp only [Sum.elim_inl] at h
          refine SW_seq ?_
          refine SW_reg fun K hK => ?_
          simp only [go_sem, ↓reduceIte, Nat.reduceEqDiff, Nat.reduceAdd, c71, e70]
          apply hK
          simp only [thenQ_normal]
          refine SW_ret ?_
          try simp only []
          obtain rfl := some_eq h
          refine ⟨by first | exact .inl rfl | exact .inl trivial | exact .inr rfl | exact .inr trivial, ?_⟩
          simp only [go_sem, ↓reduceIte, Nat.reduceEqDiff, e70]

def remontoireref09_signLen_C (f : Str → Int → Option Int) : Prop := ∀ (a0 : Str) (a1 : Int) (r : Int), f a0 a1 = some r → ∀ (q : Pa) (m : M) (vs : List V), vs.map V.weak1 = [.lit (.string (bs a0)), .lit (.int .i64 a1)] → SC Tryd.prog 57 vs q m (fun v m' => v = .lit (.int .i64 r) ∧ m' = m)

theorem remontoireref09_signLen_ok (n : Nat) : remontoireref09_signLen_C (remontoireref09_signLen n) := by
  intro a0 a1 r h q m vs hv
  refine SC.weak ?_
  rw [hv]
  refine SC_of Tryd.func57 rfl (fun xs w => Tryd.call57 xs w) Tryd.ntmps57 (by kernel_rfl) (congrArg Array.toList Tryd.results57) V.weak (fun _ _ _ => V.weak_ok) ?_
  unfold remontoireref09_signLen at h
  refine SW_seq ?_
  refine SW_reg fun K hK => ?_
  simp only [go_sem]
  apply hK
  simp only [thenQ_normal]
  refine SW_seq ?_
  refine SW_reg fun K hK => ?_
  simp only [go_sem, ↓reduceIte, Nat.reduceEqDiff, Nat.reduceAdd, Nat.reduceLeDiff]
  apply hK
  simp only [thenQ_normal]
  refine SW_seq ?_
  refine SW_seq ?_
  refine SW_reg fun K hK => ?_
  simp only [go_sem, Nat.reduceAdd]
  apply hK
  simp only [thenQ_normal]
  refine SW_block ?_
  obtain ⟨y4, hy4, h⟩ := bind_some h
  refine SW_countW [] [] rfl (fun c E' m' => ∃ (v3 : Int), remontoireref09_signLen_l1 a1 a0 c v3 = some y4 ∧ E' 0 = .lit (.string (bs a0)) ∧ E' 1 = .lit (.int .i64 a1) ∧ E' 5 = .ptr (2 :: q) 0 ∧ E' 6 = .lit (.int .i64 v3) ∧ m'.blk (2 :: q) = some ((cA cS remontoireref09_signLen_k1)) ∧ m'.gl = m.gl ∧ m.back q m' = m) n ⟨(0 : Int), hy4, ?_⟩ ?_
  · (simp only [go_sem, ↓reduceIte, Nat.reduceEqDiff, reduceCtorEq, back_set, back_self]) <;> (try and_intros) <;> rfl
  rintro i2 c5 E6 m7 ⟨v3, hy4, e8⟩ _
  rcases c5 with _ | c5
  · exact absurd hy4 (by rw [remontoireref09_signLen_l1]; exact fun e => nomatch e)
  rw [remontoireref09_signLen_l1] at hy4
  refine SW_seq ?_
  refine SW_seq ?_
  refine SW_reg fun K hK => ?_
  simp only [go_sem, ↓reduceIte, Nat.reduceAdd, e8]
  apply hK
  simp only [thenQ_normal]
  refine SW_if (decide (v3 < (26 : Int))) (by simp only [go_sem, ↓reduceIte]) (fun c9 => ?_) (fun c9 => ?_)
  · replace hy4 := ite_t c9 hy4
    refine SW_skip ?_
    try simp only [thenQ_normal]
    refine SW_seq ?_
    refine SW_block ?_
    refine SW_seq ?_
    obtain ⟨x10, h14, hy4⟩ := bind_some hy4
    obtain ⟨f11, f12, f13⟩ := idxL_some h14
    have f15 : v3 < (26 : Int) := f12
    obtain ⟨w16, d17⟩ := cA_drop (f := cS) (s := 1) (fun _ _ => rfl) f13
    simp only [go_sem] at d17
    have d18 : List.drop (v3.toNat) [V.lit (.string (bs ([60, 60, 60] : Str))), V.lit (.string (bs ([45, 62] : Str))), V.lit (.string (bs ([46, 46] : Str))), V.lit (.string (bs ([61, 61] : Str))), V.lit (.string (bs ([60, 60] : Str))), V.lit (.string (bs ([62, 62] : Str))), V.lit (.string (bs ([60] : Str))), V.lit (.string (bs ([40] : Str))), V.lit (.string (bs ([41] : Str))), V.lit (.string (bs ([123] : Str))), V.lit (.string (bs ([125] : Str))), V.lit (.string (bs ([91] : Str))), V.lit (.string (bs ([93] : Str))), V.lit (.string (bs ([44] : Str))), V.lit (.string (bs ([59] : Str))), V.lit (.string (bs ([58] : Str))), V.lit (.string (bs ([61] : Str))), V.lit (.string (bs ([43] : Str))), V.lit (.string (bs ([45] : Str))), V.lit (.string (bs ([42] : Str))), V.lit (.string (bs ([47] : Str))), V.lit (.string (bs ([37] : Str))), V.lit (.string (bs ([38] : Str))), V.lit (.string (bs ([124] : Str))), V.lit (.string (bs ([94] : Str))), V.lit (.string (bs ([126] : Str)))] = _ := d17
    refine SW_reg fun K hK => ?_
    simp only [go_sem, ↓reduceIte, Nat.reduceEqDiff, Nat.reduceAdd, f11, f15, d17, e8]
    apply hK
    simp only [thenQ_normal]
    refine SW_seq ?_
    obtain ⟨y19, hy19, hy4⟩ := bind_some hy4
    refine SW_joinK 25 [] [] rfl (fun E' m' => E' 0 = .lit (.string (bs a0)) ∧ E' 1 = .lit (.int .i64 a1) ∧ E' 5 = .ptr (2 :: q) 0 ∧ E' 6 = .lit (.int .i64 v3) ∧ E' 7 = .lit (.int .i64 (x10.length : Int)) ∧ E' 34 = .lit (.bool y19) ∧ m'.blk (2 :: q) = some ((cA cS remontoireref09_signLen_k1)) ∧ m'.gl = m.gl ∧ m.back q m' = m) ?_ ?_
    · rcases bool_or (decide ((IntKind.i64.wrap (a1 + (x10.length : Int))) ≤ (a0.length : Int))) with c20 | c20
      · replace hy19 := ite_t c20 hy19
        obtain ⟨⟨f21, f22, f23⟩, hy19⟩ := need_some hy19
        refine SW_drawK (tbl := [0, 0, 3, 0, 8, 31, 63, 127, 127, 127, 127, 1663, 4095, 127, 8319, 24703, 65535, 131071]) (ord := [(0, 0), (1, 0), (2, 0), (3, 0), (4, 0), (5, 0), (6, 0), (7, 0), (8, 0), (9, 0), (10, 0), (11, 0), (12, 0), (13, 0), (14, 0), (15, 0), (16, 0), (17, 0)]) 25 rfl (by kernel_rfl) (by kernel_rfl) fun K hK => ?_
        simp only [go_sem, ↓reduceIte, Nat.reduceEqDiff, reduceCtorEq, f11, f15, d17, f21, f22, f23, e8]
        apply hK
        simp only [thenQ_normal]
        obtain rfl := some_eq hy19
        refine ⟨by decide, ?_⟩
        (simp only [go_sem, ↓reduceIte, Nat.reduceEqDiff, reduceCtorEq, e8]) <;> (try and_intros) <;> rfl
      · replace hy19 := ite_f c20 hy19
        refine SW_drawK (tbl := [0, 0, 3, 0, 8, 31, 63, 127, 127, 127, 127, 1663, 4095, 127, 8319, 24703, 65535, 131071]) (ord := [(0, 0), (1, 0), (2, 0), (3, 0), (4, 0), (5, 0), (6, 0), (7, 0), (8, 0), (9, 0), (10, 0), (11, 0), (12, 0), (13, 0), (14, 0), (15, 0), (16, 0), (17, 0)]) 25 rfl (by kernel_rfl) (by kernel_rfl) fun K hK => ?_
        simp only [go_sem, ↓reduceIte, Nat.reduceEqDiff, reduceCtorEq, c20, e8]
        apply hK
        simp only [thenQ_normal]
        obtain rfl := some_eq hy19
        refine ⟨by decide, ?_⟩
        (simp only [go_sem, ↓reduceIte, Nat.reduceEqDiff, reduceCtorEq, e8]) <;> (try and_intros) <;> rfl
    · intro E24 m25 e26 _
      simp only [thenQ_normal]
      refine SW_if y19 (by simp only [go_sem, e26]) (fun c27 => ?_) (fun c27 => ?_)
      · replace hy4 := ite_t c27 hy4
        refine SW_seq ?_
        refine SW_reg fun K hK => ?_
        simp only [go_sem, ↓reduceIte, Nat.reduceAdd, e26]
        apply hK
        simp only [thenQ_normal]
        refine SW_ret ?_
        try simp only [thenQ_ret, blockQ_ret]
        obtain rfl := some_eq hy4
        simp only [Sum.elim_inr] at h
        obtain rfl := some_eq h
        refine ⟨by first | exact .inl rfl | exact .inl trivial | exact .inr rfl | exact .inr trivial, ?_⟩
        simp only [go_sem, ↓reduceIte, e26]
      · replace hy4 := ite_f c27 hy4
        refine SW_skip ?_
        try simp only [thenQ_normal, blockQ_normal]
        refine SW_reg fun K hK => ?_
        simp only [go_sem, ↓reduceIte, Nat.reduceAdd, e26]
        apply hK
        simp only [thenQ_normal]
        refine ⟨c5, Nat.lt_succ_self _, (IntKind.i64.wrap (v3 + (1 : Int))), hy4, ?_⟩
        (simp only [go_sem, ↓reduceIte, Nat.reduceEqDiff, reduceCtorEq, e26]) <;> (try and_intros) <;> rfl
  · replace hy4 := ite_f c9 hy4
    refine SW_exit ?_
    try simp only [thenQ_exit, blockQ_exit, ↓reduceIte, thenQ_normal]
    obtain rfl := some_eq hy4
    simp only [Sum.elim_inl] at h
    refine SW_seq ?_
    refine SW_reg fun K hK => ?_
    simp only [go_sem, Nat.reduceAdd, c9]
    apply hK
    simp only [thenQ_normal]
    refine SW_ret ?_
    try simp only []
    obtain rfl := some_eq h
    refine ⟨by first | exact .inl rfl | exact .inl trivial | exact .inr rfl | exact .inr trivial, ?_⟩
    simp only [go_sem, ↓reduceIte, e8]

def remontoireref09_Tokens_C (f : Str → Option ((List T_remontoireref09_T) × Int × Int)) : Prop := ∀ (a0 : Str) (r : ((List T_remontoireref09_T) × Int × Int)), f a0 = some r → ∀ (q : Pa) (m : M) (vs : List V), vs.map V.weak1 = [.list .none (byteRows a0)] → SC Tryd.prog 31 vs q m (fun v m' => v = .tup [.list .none (r.1.map T_remontoireref09_T.C), .lit (.int .i64 r.2.1), .lit (.int .i64 r.2.2)] ∧ m' = m)

theorem remontoireref09_Tokens_ok (n : Nat) : remontoireref09_Tokens_C (remontoireref09_Tokens n) := by
  intro a0 r h q m vs hv
  refine SC.weak ?_
  rw [hv]
  refine SC_of Tryd.func31 rfl (fun xs w => Tryd.call31 xs w) Tryd.ntmps31 (by kernel_rfl) (congrArg Array.toList Tryd.results31) V.weak (fun _ _ _ => V.weak_ok) ?_
  unfold remontoireref09_Tokens at h
  refine SW_seq ?_
  refine SW_reg fun K hK => ?_
  simp only [go_sem, Nat.reduceAdd]
  apply hK
  simp only [thenQ_normal]
  refine SW_seq ?_
  refine SW_seq ?_
  refine SW_reg fun K hK => ?_
  simp only [go_sem, ↓reduceIte, Nat.reduceAdd, reduceCtorEq]
  apply hK
  simp only [thenQ_normal]
  refine SW_if (decide ((65536 : Int) < (a0.length : Int))) (by simp only [go_sem, ↓reduceIte]) (fun c1 => ?_) (fun c1 => ?_)
  · replace h := ite_t c1 h
    refine SW_seq ?_
    refine SW_reg fun K hK => ?_
    simp only [go_sem, Nat.reduceAdd, c1]
    apply hK
    simp only [thenQ_normal]
    refine SW_ret ?_
    try simp only [thenQ_ret]
    obtain rfl := some_eq h
    refine ⟨by first | exact .inl rfl | exact .inl trivial | exact .inr rfl | exact .inr trivial, ?_⟩
    simp only [go_sem, ↓reduceIte, Nat.reduceEqDiff, back_self]
  · replace h := ite_f c1 h
    refine SW_skip ?_
    try simp only [thenQ_normal]
    refine SW_seq ?_
    refine SW_reg fun K hK => ?_
    simp only [go_sem, ↓reduceIte, Nat.reduceAdd, reduceCtorEq, c1]
    apply hK
    simp only [thenQ_normal]
    refine SW_seq ?_
    refine SW_reg fun K hK => ?_
    simp only [go_sem, Nat.reduceAdd]
    apply hK
    simp only [thenQ_normal]
    refine SW_seq ?_
    obtain ⟨x2, h3, h⟩ := bind_some h
    refine SW_reg fun K hK => ?_
    simp only [go_sem, ↓reduceIte, Nat.reduceEqDiff, Nat.reduceAdd]
    refine SC.by_ (remontoireref09_blanks_ok n a0 (0 : Int) _ h3 _ _ _ (by simp only [go_sem])) ?_
    simp only [go_sem, ↓reduceIte, Nat.reduceAdd]
    apply hK
    simp only [thenQ_normal]
    refine SW_seq ?_
    refine SW_block ?_
    obtain ⟨y7, hy7, h⟩ := bind_some h
    refine SW_stamp 6 ([].map T_remontoireref09_T.C) rfl (by simp only [go_sem, ↓reduceIte, Nat.reduceEqDiff]) ?_
    refine SW_countW [] [] rfl (fun c E' m' => ∃ (v5 : (List T_remontoireref09_T)), ∃ (v6 : Int), ∃ (o_v5 : Pa) (j_v5 : Nat), remontoireref09_Tokens_l1 n a0 c v5 v6 = some y7 ∧ E' 5 = .lit (.string (bs a0)) ∧ E' 6 = .list (.st (.anon o_v5 j_v5)) (v5.map T_remontoireref09_T.C) ∧ m'.tok o_v5 j_v5 = true ∧ q <:+ o_v5 ∧ E' 7 = .lit (.int .i64 v6) ∧ m'.gl = m.gl ∧ m.back q m' = m) n ⟨[], x2, (13 :: q), 0, hy7, ?_⟩ ?_
    · simp only [go_sem, ↓reduceIte, Nat.reduceEqDiff, back_tokset, back_self]
    rintro i4 c8 E9 m10 ⟨v5, v6, o_v5, j_v5, hy7, e11⟩ _
    rcases c8 with _ | c8
    · exact absurd hy7 (by rw [remontoireref09_Tokens_l1]; exact fun e => nomatch e)
    rw [remontoireref09_Tokens_l1] at hy7
    refine SW_seq ?_
    refine SW_seq ?_
    refine SW_reg fun K hK => ?_
    simp only [go_sem, ↓reduceIte, Nat.reduceEqDiff, Nat.reduceAdd, e11]
    apply hK
    simp only [thenQ_normal]
    refine SW_if (decide (v6 < (a0.length : Int))) (by simp only [go_sem, ↓reduceIte]) (fun c12 => ?_) (fun c12 => ?_)
    · replace hy7 := ite_t c12 hy7
      refine SW_skip ?_
      try simp only [thenQ_normal]
      refine SW_block ?_
      refine SW_seq ?_
      refine SW_reg fun K hK => ?_
      simp only [go_sem, ↓reduceIte, Nat.reduceEqDiff, Nat.reduceAdd, c12, e11]
      apply hK
      simp only [thenQ_normal]
      refine SW_seq ?_
      refine SW_block ?_
      obtain ⟨y15, hy15, hy7⟩ := bind_some hy7
      refine SW_countW [] [] rfl (fun c E' m' => ∃ (v14 : Int), remontoireref09_Tokens_l2 a0 c v14 = some y15 ∧ E' 5 = .lit (.string (bs a0)) ∧ E' 6 = .list (.st (.anon o_v5 j_v5)) (v5.map T_remontoireref09_T.C) ∧ m'.tok o_v5 j_v5 = true ∧ q <:+ o_v5 ∧ E' 7 = .lit (.int .i64 v6) ∧ E' 8 = .lit (.int .i64 v14) ∧ m'.gl = m.gl ∧ m.back q m' = m) n ⟨v6, hy15, ?_⟩ ?_
      · simp only [go_sem, ↓reduceIte, Nat.reduceEqDiff, e11]
      rintro i13 c16 E17 m18 ⟨v14, hy15, e19⟩ _
      rcases c16 with _ | c16
      · exact absurd hy15 (by rw [remontoireref09_Tokens_l2]; exact fun e => nomatch e)
      rw [remontoireref09_Tokens_l2] at hy15
      refine SW_seq ?_
      refine SW_seq ?_
      obtain ⟨y20, hy20, hy15⟩ := bind_some hy15
      refine SW_joinK 16 [] [] rfl (fun E' m' => E' 5 = .lit (.string (bs a0)) ∧ E' 6 = .list (.st (.anon o_v5 j_v5)) (v5.map T_remontoireref09_T.C) ∧ m'.tok o_v5 j_v5 = true ∧ q <:+ o_v5 ∧ E' 7 = .lit (.int .i64 v6) ∧ E' 8 = .lit (.int .i64 v14) ∧ E' 39 = .lit (.bool y20) ∧ m'.gl = m.gl ∧ m.back q m' = m) ?_ ?_
      · rcases bool_or (decide (v14 < (a0.length : Int))) with c21 | c21
        · replace hy20 := ite_t c21 hy20
          obtain ⟨x22, h27, hy20⟩ := bind_some hy20
          obtain ⟨f24, f25, f26⟩ := idxL_some h27
          obtain ⟨x23, h28, hy20⟩ := bind_some hy20
          rcases bool_or x23 with c29 | c29
          · replace hy20 := ite_t c29 hy20
            refine SW_reg fun K hK => ?_
            simp only [go_sem, ↓reduceIte, Nat.reduceEqDiff, Nat.reduceAdd, f24, f25, f26, e19]
            refine SC.by_ (remontoireref09_letter_ok (x22.toNat : Int) _ h28 _ _ _ (by simp only [go_sem])) ?_
            simp only [go_sem, ↓reduceIte, Nat.reduceEqDiff, Nat.reduceAdd, c29]
            apply hK
            simp only [thenQ_normal]
            obtain rfl := some_eq hy20
            refine ⟨by decide, ?_⟩
            simp only [go_sem, ↓reduceIte, Nat.reduceEqDiff, e19]
          · replace hy20 := ite_f c29 hy20
            obtain ⟨x30, h31, hy20⟩ := bind_some hy20
            refine SW_reg fun K hK => ?_
            simp only [go_sem, ↓reduceIte, Nat.reduceEqDiff, Nat.reduceAdd, f24, f25, f26, e19]
            refine SC.by_ (remontoireref09_letter_ok (x22.toNat : Int) _ h28 _ _ _ (by simp only [go_sem])) ?_
            simp only [go_sem, ↓reduceIte, Nat.reduceEqDiff, Nat.reduceAdd, f24, f26, c29, e19]
            refine SC.by_ (remontoireref09_digit_ok (x22.toNat : Int) _ h31 _ _ _ (by simp only [go_sem])) ?_
            simp only [go_sem, ↓reduceIte, Nat.reduceEqDiff, Nat.reduceAdd]
            apply hK
            simp only [thenQ_normal]
            obtain rfl := some_eq hy20
            refine ⟨by decide, ?_⟩
            simp only [go_sem, ↓reduceIte, Nat.reduceEqDiff, e19]
        · replace hy20 := ite_f c21 hy20
          refine SW_reg fun K hK => ?_
          simp only [go_sem, ↓reduceIte, Nat.reduceEqDiff, Nat.reduceAdd, c21, e19]
          apply hK
          simp only [thenQ_normal]
          obtain rfl := some_eq hy20
          refine ⟨by decide, ?_⟩
          simp only [go_sem, ↓reduceIte, Nat.reduceEqDiff, e19]
      · intro E32 m33 e34 _
        simp only [thenQ_normal]
        refine SW_if y20 (by simp only [go_sem, e34]) (fun c35 => ?_) (fun c35 => ?_)
        · replace hy15 := ite_t c35 hy15
          refine SW_skip ?_
          try simp only [thenQ_normal]
          refine SW_block ?_
          refine SW_reg fun K hK => ?_
          simp only [go_sem, ↓reduceIte, Nat.reduceAdd, e34]
          apply hK
          simp only [thenQ_normal, blockQ_normal]
          refine ⟨c16, Nat.lt_succ_self _, (IntKind.i64.wrap (v14 + (1 : Int))), hy15, ?_⟩
          simp only [go_sem, ↓reduceIte, Nat.reduceEqDiff, e34]
        · replace hy15 := ite_f c35 hy15
          refine SW_exit ?_
          try simp only [thenQ_exit, blockQ_exit, ↓reduceIte, thenQ_normal]
          obtain rfl := some_eq hy15
          refine SW_seq ?_
          obtain ⟨⟨f36, f37, f38⟩, hy7⟩ := need_some hy7
          refine SW_reg fun K hK => ?_
          simp only [go_sem, ↓reduceIte, Nat.reduceEqDiff, Nat.reduceAdd, f36, f37, f38, e34]
          apply hK
          simp only [thenQ_normal]
          refine SW_seq ?_
          refine SW_seq ?_
          obtain ⟨x39, h44, hy7⟩ := bind_some hy7
          obtain ⟨f41, f42, f43⟩ := idxL_some h44
          obtain ⟨x40, h45, hy7⟩ := bind_some hy7
          refine SW_reg fun K hK => ?_
          simp only [go_sem, ↓reduceIte, Nat.reduceEqDiff, Nat.reduceAdd, f36, f43, e34]
          refine SC.by_ (remontoireref09_letter_ok (x39.toNat : Int) _ h45 _ _ _ (by simp only [go_sem])) ?_
          simp only [go_sem, Nat.reduceAdd]
          apply hK
          simp only [thenQ_normal]
          refine SW_if x40 (by simp only [go_sem, ↓reduceIte]) (fun c46 => ?_) (fun c46 => ?_)
          · replace hy7 := ite_t c46 hy7
            refine SW_seq ?_
            refine SW_seq ?_
            refine SW_reg fun K hK => ?_
            simp only [go_sem, ↓reduceIte, Nat.reduceEqDiff, Nat.reduceAdd, c46]
            apply hK
            simp only [thenQ_normal]
            refine SW_if (decide ((32 : Int) < (((a0.take v14.toNat).drop v6.toNat).length : Int))) (by simp only [go_sem, ↓reduceIte]) (fun c47 => ?_) (fun c47 => ?_)
            · replace hy7 := ite_t c47 hy7
              refine SW_seq ?_
              refine SW_reg fun K hK => ?_
              simp only [go_sem, ↓reduceIte, Nat.reduceEqDiff, Nat.reduceAdd, c47, e34]
              apply hK
              simp only [thenQ_normal]
              refine SW_ret ?_
              try simp only [thenQ_ret, blockQ_ret]
              obtain rfl := some_eq hy7
              simp only [Sum.elim_inr] at h
              obtain rfl := some_eq h
              refine ⟨by first | exact .inl rfl | exact .inl trivial | exact .inr rfl | exact .inr trivial, ?_⟩
              simp only [go_sem, ↓reduceIte, Nat.reduceEqDiff, e34]
            · replace hy7 := ite_f c47 hy7
              refine SW_skip ?_
              try simp only [thenQ_normal]
              obtain ⟨f48, hy7⟩ := need_some hy7
              have f49 : v5.length + 1 ≤ 1073741824 := by first | omega | (simp only [List.length_append, List.length_cons, List.length_nil] at f48 ⊢; omega)
              have f50 : v5.length ≤ 1073741823 := by first | omega | (simp only [List.length_append, List.length_cons, List.length_nil] at f48 ⊢; omega)
              refine SW_reg fun K hK => ?_
              simp only [go_sem, ↓reduceIte, Nat.reduceEqDiff, Nat.reduceAdd, Nat.reduceLT, Nat.reduceLeDiff, c47, f49, e34]
              apply hK
              simp only [thenQ_normal]
              obtain ⟨x51, h52, hy7⟩ := bind_some hy7
              refine SW_reg fun K hK => ?_
              simp only [go_sem, ↓reduceIte, Nat.reduceEqDiff, Nat.reduceAdd, e34]
              refine SC.by_ (remontoireref09_blanks_ok n a0 v14 _ h52 _ _ _ (by simp only [go_sem])) ?_
              simp only [go_sem, ↓reduceIte, Nat.reduceAdd]
              apply hK
              simp only [thenQ_normal, blockQ_normal]
              refine ⟨c8, Nat.lt_succ_self _, (v5 ++ [(T_remontoireref09_T.mk (1 : Int) v6 ((a0.take v14.toNat).drop v6.toNat) (0 : Int))]), x51, (24 :: i4 :: 14 :: q), 0, hy7, ?_⟩
              simp only [go_sem, ↓reduceIte, Nat.reduceEqDiff, back_tokset, e34]
          · replace hy7 := ite_f c46 hy7
            refine SW_seq ?_
            obtain ⟨x53, h54, hy7⟩ := bind_some hy7
            refine SW_reg fun K hK => ?_
            simp only [go_sem, ↓reduceIte, Nat.reduceEqDiff, Nat.reduceAdd, f36, f43, c46, e34]
            refine SC.by_ (remontoireref09_digit_ok (x39.toNat : Int) _ h54 _ _ _ (by simp only [go_sem])) ?_
            simp only [go_sem, Nat.reduceAdd]
            apply hK
            simp only [thenQ_normal]
            refine SW_if x53 (by simp only [go_sem, ↓reduceIte]) (fun c55 => ?_) (fun c55 => ?_)
            · replace hy7 := ite_t c55 hy7
              refine SW_seq ?_
              obtain ⟨x56, h57, hy7⟩ := bind_some hy7
              refine SW_reg fun K hK => ?_
              simp only [go_sem, ↓reduceIte, Nat.reduceEqDiff, Nat.reduceAdd, c55]
              refine SC.by_ (remontoireref09_number_ok n ((a0.take v14.toNat).drop v6.toNat) _ h57 _ _ _ (by simp only [go_sem])) ?_
              simp only [go_sem, ↓reduceIte, Nat.reduceEqDiff, Nat.reduceAdd]
              apply hK
              simp only [thenQ_normal]
              refine SW_seq ?_
              refine SW_seq ?_
              refine SW_reg fun K hK => ?_
              simp only [go_sem, ↓reduceIte, Nat.reduceAdd]
              apply hK
              simp only [thenQ_normal]
              refine SW_if (!x56.2) (by simp only [go_sem, ↓reduceIte]) (fun c58 => ?_) (fun c58 => ?_)
              · replace hy7 := ite_t c58 hy7
                refine SW_seq ?_
                refine SW_reg fun K hK => ?_
                simp only [go_sem, ↓reduceIte, Nat.reduceEqDiff, Nat.reduceAdd, c58, e34]
                apply hK
                simp only [thenQ_normal]
                refine SW_ret ?_
                try simp only [thenQ_ret, blockQ_ret]
                obtain rfl := some_eq hy7
                simp only [Sum.elim_inr] at h
                obtain rfl := some_eq h
                refine ⟨by first | exact .inl rfl | exact .inl trivial | exact .inr rfl | exact .inr trivial, ?_⟩
                simp only [go_sem, ↓reduceIte, Nat.reduceEqDiff, e34]
              · replace hy7 := ite_f c58 hy7
                refine SW_skip ?_
                try simp only [thenQ_normal]
                obtain ⟨f59, hy7⟩ := need_some hy7
                have f60 : v5.length + 1 ≤ 1073741824 := by first | omega | (simp only [List.length_append, List.length_cons, List.length_nil] at f59 ⊢; omega)
                have f61 : v5.length ≤ 1073741823 := by first | omega | (simp only [List.length_append, List.length_cons, List.length_nil] at f59 ⊢; omega)
                refine SW_reg fun K hK => ?_
                simp only [go_sem, ↓reduceIte, Nat.reduceEqDiff, Nat.reduceAdd, Nat.reduceLT, Nat.reduceLeDiff, c58, f60, e34]
                apply hK
                simp only [thenQ_normal]
                obtain ⟨x62, h63, hy7⟩ := bind_some hy7
                refine SW_reg fun K hK => ?_
                simp only [go_sem, ↓reduceIte, Nat.reduceEqDiff, Nat.reduceAdd, e34]
                refine SC.by_ (remontoireref09_blanks_ok n a0 v14 _ h63 _ _ _ (by simp only [go_sem])) ?_
                simp only [go_sem, ↓reduceIte, Nat.reduceAdd]
                apply hK
                simp only [thenQ_normal, blockQ_normal]
                refine ⟨c8, Nat.lt_succ_self _, (v5 ++ [(T_remontoireref09_T.mk (2 : Int) v6 ((a0.take v14.toNat).drop v6.toNat) x56.1)]), x62, (35 :: i4 :: 14 :: q), 0, hy7, ?_⟩
                simp only [go_sem, ↓reduceIte, Nat.reduceEqDiff, back_tokset, e34]
            · replace hy7 := ite_f c55 hy7
              refine SW_seq ?_
              obtain ⟨x64, h65, hy7⟩ := bind_some hy7
              refine SW_reg fun K hK => ?_
              simp only [go_sem, ↓reduceIte, Nat.reduceEqDiff, Nat.reduceAdd, c55, e34]
              refine SC.by_ (remontoireref09_signLen_ok n a0 v6 _ h65 _ _ _ (by simp only [go_sem])) ?_
              simp only [go_sem, ↓reduceIte, Nat.reduceEqDiff, Nat.reduceAdd]
              apply hK
              simp only [thenQ_normal]
              refine SW_seq ?_
              refine SW_seq ?_
              refine SW_reg fun K hK => ?_
              simp only [go_sem, ↓reduceIte, Nat.reduceEqDiff, Nat.reduceAdd, e34]
              apply hK
              simp only [thenQ_normal]
              refine SW_if ((IntKind.i64.wrap (v6 + x64)) == v6) (by simp only [go_sem, ↓reduceIte]) (fun c66 => ?_) (fun c66 => ?_)
              · replace hy7 := ite_t c66 hy7
                refine SW_seq ?_
                refine SW_reg fun K hK => ?_
                simp only [go_sem, ↓reduceIte, Nat.reduceEqDiff, Nat.reduceAdd, c66, e34]
                apply hK
                simp only [thenQ_normal]
                refine SW_ret ?_
                try simp only [thenQ_ret, blockQ_ret]
                obtain rfl := some_eq hy7
                simp only [Sum.elim_inr] at h
                obtain rfl := some_eq h
                refine ⟨by first | exact .inl rfl | exact .inl trivial | exact .inr rfl | exact .inr trivial, ?_⟩
                simp only [go_sem, ↓reduceIte, Nat.reduceEqDiff, e34]
              · replace hy7 := ite_f c66 hy7
                refine SW_skip ?_
                try simp only [thenQ_normal]
                obtain ⟨⟨f67, f68, f69⟩, hy7⟩ := need_some hy7
                obtain ⟨f70, hy7⟩ := need_some hy7
                have f71 : v5.length + 1 ≤ 1073741824 := by first | omega | (simp only [List.length_append, List.length_cons, List.length_nil] at f70 ⊢; omega)
                have f72 : v5.length ≤ 1073741823 := by first | omega | (simp only [List.length_append, List.length_cons, List.length_nil] at f70 ⊢; omega)
                refine SW_reg fun K hK => ?_
                simp only [go_sem, ↓reduceIte, Nat.reduceEqDiff, Nat.reduceAdd, Nat.reduceLT, Nat.reduceLeDiff, f36, c66, f68, f69, f71, e34]
                apply hK
                simp only [thenQ_normal]
                obtain ⟨x73, h74, hy7⟩ := bind_some hy7
                refine SW_reg fun K hK => ?_
                simp only [go_sem, ↓reduceIte, Nat.reduceEqDiff, Nat.reduceAdd, e34]
                refine SC.by_ (remontoireref09_blanks_ok n a0 (IntKind.i64.wrap (v6 + x64)) _ h74 _ _ _ (by simp only [go_sem])) ?_
                simp only [go_sem, ↓reduceIte, Nat.reduceAdd]
                apply hK
                simp only [thenQ_normal, blockQ_normal]
                refine ⟨c8, Nat.lt_succ_self _, (v5 ++ [(T_remontoireref09_T.mk (3 : Int) v6 ((a0.take (IntKind.i64.wrap (v6 + x64)).toNat).drop v6.toNat) (0 : Int))]), x73, (37 :: i4 :: 14 :: q), 0, hy7, ?_⟩
                simp only [go_sem, ↓reduceIte, Nat.reduceEqDiff, back_tokset, e34]
    · replace hy7 := ite_f c12 hy7
      refine SW_exit ?_
      try simp only [thenQ_exit, blockQ_exit, ↓reduceIte, thenQ_normal]
      obtain rfl := some_eq hy7
      simp only [Sum.elim_inl] at h
      refine SW_seq ?_
      obtain ⟨f114, h⟩ := need_some h
      have f115 : v5.length + 1 ≤ 1073741824 := by first | omega | (simp only [List.length_append, List.length_cons, List.length_nil] at f114 ⊢; omega)
      have f116 : v5.length ≤ 1073741823 := by first | omega | (simp only [List.length_append, List.length_cons, List.length_nil] at f114 ⊢; omega)
      refine SW_reg fun K hK => ?_
      simp only [go_sem, ↓reduceIte, Nat.reduceEqDiff, Nat.reduceAdd, Nat.reduceLT, Nat.reduceLeDiff, c12, f115, e11]
      apply hK
      simp only [thenQ_normal]
      refine SW_ret ?_
      try simp only []
      obtain rfl := some_eq h
      refine ⟨by first | exact .inl rfl | exact .inl trivial | exact .inr rfl | exact .inr trivial, ?_⟩
      simp only [go_sem, ↓reduceIte, Nat.reduceEqDiff, back_tokset, e11]

def remontoireref10_P_fail_C (f : T_remontoireref10_P → Int → Option T_remontoireref10_P) : Prop := ∀ (a0 : T_remontoireref10_P) (a1 : Int) (r : T_remontoireref10_P), f a0 a1 = some r → ∀ (q : Pa) (m : M) (vs : List V), vs.map V.weak1 = [.agg ((T_remontoireref10_P.C a0)), .lit (.int .i64 a1)] → SC Tryd.prog 90 vs q m (fun v m' => v = .agg ((T_remontoireref10_P.C r)) ∧ m' = m)

theorem remontoireref10_P_fail_ok : remontoireref10_P_fail_C (remontoireref10_P_fail) := by
  intro a0 a1 r h q m vs hv
  refine SC.weak ?_
  rw [hv]
  refine SC_of Tryd.func90 rfl (fun xs w => Tryd.call90 xs w) Tryd.ntmps90 (by kernel_rfl) (congrArg Array.toList Tryd.results90) V.weak (fun _ _ _ => V.weak_ok) ?_
  unfold remontoireref10_P_fail at h
  refine SW_seq ?_
  refine SW_reg fun K hK => ?_
  simp only [go_sem, Nat.reduceAdd]
  apply hK
  simp only [thenQ_normal]
  refine SW_seq ?_
  refine SW_seq ?_
  refine SW_reg fun K hK => ?_
  simp only [go_sem, ↓reduceIte, Nat.reduceEqDiff, Nat.reduceAdd]
  apply hK
  simp only [thenQ_normal]
  refine SW_if (a0.E_ == (0 : Int)) (by simp only [go_sem, ↓reduceIte]) (fun c3 => ?_) (fun c3 => ?_)
  · replace h := ite_t c3 h
    refine SW_seq ?_
    refine SW_reg fun K hK => ?_
    simp only [go_sem, ↓reduceIte, Nat.reduceEqDiff, Nat.reduceAdd, Nat.reduceLeDiff, c3]
    apply hK
    simp only [thenQ_normal]
    obtain ⟨x4, h8, h⟩ := bind_some h
    obtain ⟨f5, f6, f7⟩ := idxL_some h8
    refine SW_reg fun K hK => ?_
    simp only [go_sem, ↓reduceIte, Nat.reduceEqDiff, Nat.reduceAdd, f5, f6, f7]
    apply hK
    simp only [thenQ_normal]
    refine SW_seq ?_
    refine SW_reg fun K hK => ?_
    simp only [go_sem, ↓reduceIte, Nat.reduceEqDiff, Nat.reduceAdd]
    apply hK
    simp only [thenQ_normal]
    refine SW_ret ?_
    try simp only []
    obtain rfl := some_eq h
    refine ⟨by first | exact .inl rfl | exact .inl trivial | exact .inr rfl | exact .inr trivial, ?_⟩
    simp only [go_sem, ↓reduceIte, Nat.reduceEqDiff, Nat.reduceAdd, back_set, back_self]
  · replace h := ite_f c3 h
    refine SW_skip ?_
    try simp only [thenQ_normal]
    refine SW_seq ?_
    refine SW_reg fun K hK => ?_
    simp only [go_sem, ↓reduceIte, Nat.reduceEqDiff, Nat.reduceAdd, c3]
    apply hK
    simp only [thenQ_normal]
    refine SW_ret ?_
    try simp only []
    obtain rfl := some_eq h
    refine ⟨by first | exact .inl rfl | exact .inl trivial | exact .inr rfl | exact .inr trivial, ?_⟩
    simp only [go_sem, ↓reduceIte, Nat.reduceEqDiff, Nat.reduceAdd, back_set, back_self]

def remontoireref10_P_node_C (f : T_remontoireref10_P → Int → Option (T_remontoireref10_P × T_remontoireref10_N)) : Prop := ∀ (a0 : T_remontoireref10_P) (a1 : Int) (r : (T_remontoireref10_P × T_remontoireref10_N)), f a0 a1 = some r → ∀ (q : Pa) (m : M) (vs : List V), vs.map V.weak1 = [.agg ((T_remontoireref10_P.C a0)), .lit (.int .i64 a1)] → SC Tryd.prog 58 vs q m (fun v m' => v = .tup [.agg ((T_remontoireref10_P.C r.1)), .agg ((T_remontoireref10_N.C r.2))] ∧ m' = m)

theorem remontoireref10_P_node_ok : remontoireref10_P_node_C (remontoireref10_P_node) := by
  intro a0 a1 r h q m vs hv
  refine SC.weak ?_
  rw [hv]
  refine SC_of Tryd.func58 rfl (fun xs w => Tryd.call58 xs w) Tryd.ntmps58 (by kernel_rfl) (congrArg Array.toList Tryd.results58) V.weak (fun _ _ _ => V.weak_ok) ?_
  unfold remontoireref10_P_node at h
  refine SW_seq ?_
  refine SW_reg fun K hK => ?_
  simp only [go_sem, Nat.reduceAdd]
  apply hK
  simp only [thenQ_normal]
  refine SW_seq ?_
  refine SW_reg fun K hK => ?_
  simp only [go_sem, ↓reduceIte, Nat.reduceEqDiff, Nat.reduceAdd, Nat.reduceLeDiff, reduceCtorEq]
  apply hK
  simp only [thenQ_normal]
  refine SW_seq ?_
  refine SW_seq ?_
  refine SW_reg fun K hK => ?_
  simp only [go_sem, ↓reduceIte, Nat.reduceEqDiff, Nat.reduceAdd]
  apply hK
  simp only [thenQ_normal]
  refine SW_if (decide ((16384 : Int) < (IntKind.i64.wrap (a0.Nodes_ + (1 : Int))))) (by simp only [go_sem, ↓reduceIte]) (fun c4 => ?_) (fun c4 => ?_)
  · replace h := ite_t c4 h
    obtain ⟨x5, h6, h⟩ := bind_some h
    refine SW_reg fun K hK => ?_
    simp only [go_sem, ↓reduceIte, Nat.reduceEqDiff, Nat.reduceAdd, c4]
    refine SC.by_ (remontoireref10_P_fail_ok ({ a0 with Nodes_ := (IntKind.i64.wrap (a0.Nodes_ + (1 : Int))) } : T_remontoireref10_P) (136 : Int) _ h6 _ _ _ (by simp only [go_sem])) ?_
    simp only [go_sem, ↓reduceIte, Nat.reduceEqDiff, Nat.reduceAdd]
    apply hK
    simp only [thenQ_normal]
    refine SW_seq ?_
    obtain ⟨x7, h11, h⟩ := bind_some h
    obtain ⟨f8, f9, f10⟩ := idxL_some h11
    refine SW_drawK (tbl := [0, 0, 0, 4, 0, 16, 60, 124, 252, 510, 1, 2047]) (ord := [(0, 0), (10, 0), (1, 0), (2, 0), (3, 1), (4, 0), (5, 1), (6, 0), (7, 0), (8, 1), (9, 0), (11, 0)]) 26 rfl (by kernel_rfl) (by kernel_rfl) fun K hK => ?_
    simp only [go_sem, ↓reduceIte, Nat.reduceEqDiff, Nat.reduceAdd, Nat.reduceLeDiff, reduceCtorEq, f8, f9, f10]
    apply hK
    simp only [thenQ_normal]
    refine SW_ret ?_
    try simp only []
    obtain rfl := some_eq h
    refine ⟨by first | exact .inl rfl | exact .inl trivial | exact .inr rfl | exact .inr trivial, ?_⟩
    simp only [go_sem, ↓reduceIte, Nat.reduceEqDiff, Nat.reduceAdd, back_set, back_self]
  · replace h := ite_f c4 h
    refine SW_skip ?_
    try simp only [thenQ_normal]
    refine SW_seq ?_
    obtain ⟨x12, h16, h⟩ := bind_some h
    obtain ⟨f13, f14, f15⟩ := idxL_some h16
    refine SW_drawK (tbl := [0, 0, 0, 4, 0, 16, 60, 124, 252, 510, 1, 2047]) (ord := [(0, 0), (10, 0), (1, 0), (2, 0), (3, 1), (4, 0), (5, 1), (6, 0), (7, 0), (8, 1), (9, 0), (11, 0)]) 23 rfl (by kernel_rfl) (by kernel_rfl) fun K hK => ?_
    simp only [go_sem, ↓reduceIte, Nat.reduceEqDiff, Nat.reduceAdd, Nat.reduceLeDiff, reduceCtorEq, c4, f13, f14, f15]
    apply hK
    simp only [thenQ_normal]
    refine SW_ret ?_
    try simp only []
    obtain rfl := some_eq h
    refine ⟨by first | exact .inl rfl | exact .inl trivial | exact .inr rfl | exact .inr trivial, ?_⟩
    simp only [go_sem, ↓reduceIte, Nat.reduceEqDiff, Nat.reduceAdd, back_set, back_self]

def remontoireref10_Word_C (f : Str → Option Bool) : Prop := ∀ (a0 : Str) (r : Bool), f a0 = some r → ∀ (q : Pa) (m : M) (vs : List V), vs.map V.weak1 = [.lit (.string (bs a0))] → SC Tryd.prog 13 vs q m (fun v m' => v = .lit (.bool r) ∧ m' = m)

theorem remontoireref10_Word_ok (n : Nat) : remontoireref10_Word_C (remontoireref10_Word n) := by
  intro a0 r h q m vs hv
  refine SC.weak ?_
  rw [hv]
  refine SC_of Tryd.func13 rfl (fun xs w => Tryd.call13 xs w) Tryd.ntmps13 (by kernel_rfl) (congrArg Array.toList Tryd.results13) V.weak (fun _ _ _ => V.weak_ok) ?_
  unfold remontoireref10_Word at h
  refine SW_seq ?_
  refine SW_reg fun K hK => ?_
  simp only [go_sem]
  apply hK
  simp only [thenQ_normal]
  refine SW_seq ?_
  refine SW_reg fun K hK => ?_
  simp only [go_sem, ↓reduceIte, Nat.reduceEqDiff, Nat.reduceAdd, Nat.reduceLeDiff]
  apply hK
  simp only [thenQ_normal]
  refine SW_seq ?_
  refine SW_seq ?_
  refine SW_reg fun K hK => ?_
  simp only [go_sem, Nat.reduceAdd]
  apply hK
  simp only [thenQ_normal]
  refine SW_block ?_
  obtain ⟨y4, hy4, h⟩ := bind_some h
  refine SW_countW [] [] rfl (fun c E' m' => ∃ (v3 : Int), remontoireref10_Word_l1 a0 c v3 = some y4 ∧ E' 0 = .lit (.string (bs a0)) ∧ E' 3 = .ptr (2 :: q) 0 ∧ E' 4 = .lit (.int .i64 v3) ∧ m'.blk (2 :: q) = some ((cA cS remontoireref10_Word_k1)) ∧ m'.gl = m.gl ∧ m.back q m' = m) n ⟨(0 : Int), hy4, ?_⟩ ?_
  · (simp only [go_sem, ↓reduceIte, Nat.reduceEqDiff, reduceCtorEq, back_set, back_self]) <;> (try and_intros) <;> rfl
  rintro i2 c5 E6 m7 ⟨v3, hy4, e8⟩ _
  rcases c5 with _ | c5
  · exact absurd hy4 (by rw [remontoireref10_Word_l1]; exact fun e => nomatch e)
  rw [remontoireref10_Word_l1] at hy4
  refine SW_seq ?_
  refine SW_seq ?_
  refine SW_reg fun K hK => ?_
  simp only [go_sem, ↓reduceIte, Nat.reduceAdd, e8]
  apply hK
  simp only [thenQ_normal]
  refine SW_if (decide (v3 < (13 : Int))) (by simp only [go_sem, ↓reduceIte]) (fun c9 => ?_) (fun c9 => ?_)
  · replace hy4 := ite_t c9 hy4
    refine SW_skip ?_
    try simp only [thenQ_normal]
    refine SW_seq ?_
    refine SW_block ?_
    refine SW_seq ?_
    obtain ⟨x10, h14, hy4⟩ := bind_some hy4
    obtain ⟨f11, f12, f13⟩ := idxL_some h14
    have f15 : v3 < (13 : Int) := f12
    obtain ⟨w16, d17⟩ := cA_drop (f := cS) (s := 1) (fun _ _ => rfl) f13
    simp only [go_sem] at d17
    have d18 : List.drop (v3.toNat) [V.lit (.string (bs ([102, 110] : Str))), V.lit (.string (bs ([101, 120, 112, 111, 114, 116] : Str))), V.lit (.string (bs ([108, 101, 116] : Str))), V.lit (.string (bs ([118, 97, 114] : Str))), V.lit (.string (bs ([97, 114, 114] : Str))), V.lit (.string (bs ([105, 102] : Str))), V.lit (.string (bs ([101, 108, 115, 101] : Str))), V.lit (.string (bs ([102, 111, 114] : Str))), V.lit (.string (bs ([105, 110] : Str))), V.lit (.string (bs ([114, 101, 116, 117, 114, 110] : Str))), V.lit (.string (bs ([112, 117, 98] : Str))), V.lit (.string (bs ([117, 51, 50] : Str))), V.lit (.string (bs ([117, 54, 52] : Str)))] = _ := d17
    refine SW_reg fun K hK => ?_
    simp only [go_sem, ↓reduceIte, Nat.reduceEqDiff, Nat.reduceAdd, reduceCtorEq, f11, f15, d17, e8]
    apply hK
    simp only [thenQ_normal]
    refine SW_if (decide (a0 = x10)) (by simp only [go_sem, ↓reduceIte]) (fun c19 => ?_) (fun c19 => ?_)
    · replace hy4 := ite_t c19 hy4
      refine SW_seq ?_
      refine SW_reg fun K hK => ?_
      simp only [go_sem, Nat.reduceAdd, c19]
      apply hK
      simp only [thenQ_normal]
      refine SW_ret ?_
      try simp only [thenQ_ret, blockQ_ret]
      obtain rfl := some_eq hy4
      simp only [Sum.elim_inr] at h
      obtain rfl := some_eq h
      refine ⟨by first | exact .inl rfl | exact .inl trivial | exact .inr rfl | exact .inr trivial, ?_⟩
      simp only [go_sem, ↓reduceIte, e8]
    · replace hy4 := ite_f c19 hy4
      refine SW_skip ?_
      try simp only [thenQ_normal, blockQ_normal]
      refine SW_reg fun K hK => ?_
      simp only [go_sem, ↓reduceIte, Nat.reduceEqDiff, Nat.reduceAdd, c19, e8]
      apply hK
      simp only [thenQ_normal]
      refine ⟨c5, Nat.lt_succ_self _, (IntKind.i64.wrap (v3 + (1 : Int))), hy4, ?_⟩
      (simp only [go_sem, ↓reduceIte, Nat.reduceEqDiff, reduceCtorEq, e8]) <;> (try and_intros) <;> rfl
  · replace hy4 := ite_f c9 hy4
    refine SW_exit ?_
    try simp only [thenQ_exit, blockQ_exit, ↓reduceIte, thenQ_normal]
    obtain rfl := some_eq hy4
    simp only [Sum.elim_inl] at h
    refine SW_seq ?_
    refine SW_reg fun K hK => ?_
    simp only [go_sem, Nat.reduceAdd, c9]
    apply hK
    simp only [thenQ_normal]
    refine SW_ret ?_
    try simp only []
    obtain rfl := some_eq h
    refine ⟨by first | exact .inl rfl | exact .inl trivial | exact .inr rfl | exact .inr trivial, ?_⟩
    simp only [go_sem, ↓reduceIte, e8]

def remontoireref10_P_is_C (f : T_remontoireref10_P → Str → Option Bool) : Prop := ∀ (a0 : T_remontoireref10_P) (a1 : Str) (r : Bool), f a0 a1 = some r → ∀ (q : Pa) (m : M) (vs : List V), vs.map V.weak1 = [.agg ((T_remontoireref10_P.C a0)), .lit (.string (bs a1))] → SC Tryd.prog 91 vs q m (fun v m' => v = .lit (.bool r) ∧ m' = m)

theorem remontoireref10_P_is_ok (n : Nat) : remontoireref10_P_is_C (remontoireref10_P_is n) := by
  intro a0 a1 r h q m vs hv
  refine SC.weak ?_
  rw [hv]
  refine SC_of Tryd.func91 rfl (fun xs w => Tryd.call91 xs w) Tryd.ntmps91 (by kernel_rfl) (congrArg Array.toList Tryd.results91) V.weak (fun _ _ _ => V.weak_ok) ?_
  unfold remontoireref10_P_is at h
  refine SW_seq ?_
  refine SW_reg fun K hK => ?_
  simp only [go_sem, Nat.reduceAdd]
  apply hK
  simp only [thenQ_normal]
  refine SW_seq ?_
  obtain ⟨x2, h7, h⟩ := bind_some h
  obtain ⟨f4, f5, f6⟩ := idxL_some h7
  refine SW_reg fun K hK => ?_
  simp only [go_sem, ↓reduceIte, Nat.reduceEqDiff, Nat.reduceAdd, f4, f5, f6]
  apply hK
  simp only [thenQ_normal]
  refine SW_seq ?_
  obtain ⟨y8, hy8, h⟩ := bind_some h
  refine SW_joinK 34 [] [] rfl (fun E' m' => E' 4 = .lit (.bool y8) ∧ m'.gl = m.gl ∧ m.back q m' = m) ?_ ?_
  · rcases bool_or (a0.E_ == (0 : Int)) with c9 | c9
    · replace hy8 := ite_t c9 hy8
      rcases bool_or (decide (x2.Text_ = a1)) with c10 | c10
      · replace hy8 := ite_t c10 hy8
        rcases bool_or (x2.Kind_ == (3 : Int)) with c11 | c11
        · replace hy8 := ite_t c11 hy8
          refine SW_reg fun K hK => ?_
          simp only [go_sem, ↓reduceIte, Nat.reduceEqDiff, Nat.reduceAdd, reduceCtorEq, c9, c10, c11]
          apply hK
          simp only [thenQ_normal]
          obtain rfl := some_eq hy8
          refine ⟨by decide, ?_⟩
          simp only [go_sem, ↓reduceIte, back_set, back_self]
        · replace hy8 := ite_f c11 hy8
          rcases bool_or (x2.Kind_ == (1 : Int)) with c12 | c12
          · replace hy8 := ite_t c12 hy8
            obtain ⟨x13, h14, hy8⟩ := bind_some hy8
            refine SW_reg fun K hK => ?_
            simp only [go_sem, ↓reduceIte, Nat.reduceEqDiff, Nat.reduceAdd, reduceCtorEq, c9, c10, c11, c12]
            refine SC.by_ (remontoireref10_Word_ok n a1 _ h14 _ _ _ (by simp only [go_sem])) ?_
            simp only [go_sem, ↓reduceIte, Nat.reduceEqDiff, Nat.reduceAdd]
            apply hK
            simp only [thenQ_normal]
            obtain rfl := some_eq hy8
            refine ⟨by decide, ?_⟩
            simp only [go_sem, ↓reduceIte, back_set, back_self]
          · replace hy8 := ite_f c12 hy8
            refine SW_reg fun K hK => ?_
            simp only [go_sem, ↓reduceIte, Nat.reduceEqDiff, Nat.reduceAdd, reduceCtorEq, c9, c10, c11, c12]
            apply hK
            simp only [thenQ_normal]
            obtain rfl := some_eq hy8
            refine ⟨by decide, ?_⟩
            simp only [go_sem, ↓reduceIte, back_set, back_self]
      · replace hy8 := ite_f c10 hy8
        refine SW_reg fun K hK => ?_
        simp only [go_sem, ↓reduceIte, Nat.reduceEqDiff, Nat.reduceAdd, reduceCtorEq, c9, c10]
        apply hK
        simp only [thenQ_normal]
        obtain rfl := some_eq hy8
        refine ⟨by decide, ?_⟩
        simp only [go_sem, ↓reduceIte, back_set, back_self]
    · replace hy8 := ite_f c9 hy8
      refine SW_reg fun K hK => ?_
      simp only [go_sem, ↓reduceIte, Nat.reduceEqDiff, Nat.reduceAdd, reduceCtorEq, c9]
      apply hK
      simp only [thenQ_normal]
      obtain rfl := some_eq hy8
      refine ⟨by decide, ?_⟩
      simp only [go_sem, ↓reduceIte, back_set, back_self]
  · intro E15 m16 e17 _
    simp only [thenQ_normal]
    refine SW_ret ?_
    try simp only []
    obtain rfl := some_eq h
    refine ⟨by first | exact .inl rfl | exact .inl trivial | exact .inr rfl | exact .inr trivial, ?_⟩
    simp only [go_sem, e17]

def remontoireref10_P_take_C (f : T_remontoireref10_P → Str → Option (T_remontoireref10_P × Bool)) : Prop := ∀ (a0 : T_remontoireref10_P) (a1 : Str) (r : (T_remontoireref10_P × Bool)), f a0 a1 = some r → ∀ (q : Pa) (m : M) (vs : List V), vs.map V.weak1 = [.agg ((T_remontoireref10_P.C a0)), .lit (.string (bs a1))] → SC Tryd.prog 59 vs q m (fun v m' => v = .tup [.agg ((T_remontoireref10_P.C r.1)), .lit (.bool r.2)] ∧ m' = m)

theorem remontoireref10_P_take_ok (n : Nat) : remontoireref10_P_take_C (remontoireref10_P_take n) := by
  intro a0 a1 r h q m vs hv
  refine SC.weak ?_
  rw [hv]
  refine SC_of Tryd.func59 rfl (fun xs w => Tryd.call59 xs w) Tryd.ntmps59 (by kernel_rfl) (congrArg Array.toList Tryd.results59) V.weak (fun _ _ _ => V.weak_ok) ?_
  unfold remontoireref10_P_take at h
  refine SW_seq ?_
  refine SW_reg fun K hK => ?_
  simp only [go_sem, Nat.reduceAdd]
  apply hK
  simp only [thenQ_normal]
  refine SW_seq ?_
  refine SW_seq ?_
  obtain ⟨x3, h4, h⟩ := bind_some h
  refine SW_reg fun K hK => ?_
  simp only [go_sem, ↓reduceIte, Nat.reduceEqDiff, Nat.reduceAdd]
  refine SC.by_ (remontoireref10_P_is_ok n a0 a1 _ h4 _ _ _ (by simp only [go_sem])) ?_
  simp only [go_sem, ↓reduceIte, Nat.reduceAdd]
  apply hK
  simp only [thenQ_normal]
  refine SW_if (!x3) (by simp only [go_sem, ↓reduceIte]) (fun c5 => ?_) (fun c5 => ?_)
  · replace h := ite_t c5 h
    refine SW_seq ?_
    refine SW_reg fun K hK => ?_
    simp only [go_sem, ↓reduceIte, Nat.reduceEqDiff, Nat.reduceAdd, c5]
    apply hK
    simp only [thenQ_normal]
    refine SW_ret ?_
    try simp only [thenQ_ret]
    obtain rfl := some_eq h
    refine ⟨by first | exact .inl rfl | exact .inl trivial | exact .inr rfl | exact .inr trivial, ?_⟩
    simp only [go_sem, ↓reduceIte, Nat.reduceEqDiff, Nat.reduceAdd, back_set, back_self]
  · replace h := ite_f c5 h
    refine SW_skip ?_
    try simp only [thenQ_normal]
    refine SW_seq ?_
    refine SW_reg fun K hK => ?_
    simp only [go_sem, ↓reduceIte, Nat.reduceEqDiff, Nat.reduceAdd, Nat.reduceLeDiff, c5]
    apply hK
    simp only [thenQ_normal]
    refine SW_seq ?_
    refine SW_reg fun K hK => ?_
    simp only [go_sem, ↓reduceIte, Nat.reduceEqDiff, Nat.reduceAdd]
    apply hK
    simp only [thenQ_normal]
    refine SW_ret ?_
    try simp only []
    obtain rfl := some_eq h
    refine ⟨by first | exact .inl rfl | exact .inl trivial | exact .inr rfl | exact .inr trivial, ?_⟩
    simp only [go_sem, ↓reduceIte, Nat.reduceEqDiff, Nat.reduceAdd, back_set, back_self]

def remontoireref10_P_need_C (f : T_remontoireref10_P → Str → Option T_remontoireref10_P) : Prop := ∀ (a0 : T_remontoireref10_P) (a1 : Str) (r : T_remontoireref10_P), f a0 a1 = some r → ∀ (q : Pa) (m : M) (vs : List V), vs.map V.weak1 = [.agg ((T_remontoireref10_P.C a0)), .lit (.string (bs a1))] → SC Tryd.prog 60 vs q m (fun v m' => v = .agg ((T_remontoireref10_P.C r)) ∧ m' = m)

theorem remontoireref10_P_need_ok (n : Nat) : remontoireref10_P_need_C (remontoireref10_P_need n) := by
  intro a0 a1 r h q m vs hv
  refine SC.weak ?_
  rw [hv]
  refine SC_of Tryd.func60 rfl (fun xs w => Tryd.call60 xs w) Tryd.ntmps60 (by kernel_rfl) (congrArg Array.toList Tryd.results60) V.weak (fun _ _ _ => V.weak_ok) ?_
  unfold remontoireref10_P_need at h
  refine SW_seq ?_
  refine SW_reg fun K hK => ?_
  simp only [go_sem, Nat.reduceAdd]
  apply hK
  simp only [thenQ_normal]
  refine SW_seq ?_
  obtain ⟨x3, h5, h⟩ := bind_some h
  refine SW_reg fun K hK => ?_
  simp only [go_sem, ↓reduceIte, Nat.reduceEqDiff, Nat.reduceAdd]
  refine SC.by_ (remontoireref10_P_take_ok n a0 a1 _ h5 _ _ _ (by simp only [go_sem])) ?_
  simp only [go_sem, ↓reduceIte, Nat.reduceEqDiff, Nat.reduceAdd]
  apply hK
  simp only [thenQ_normal]
  refine SW_seq ?_
  refine SW_seq ?_
  refine SW_reg fun K hK => ?_
  simp only [go_sem, ↓reduceIte, Nat.reduceAdd]
  apply hK
  simp only [thenQ_normal]
  refine SW_if (!x3.2) (by simp only [go_sem, ↓reduceIte]) (fun c6 => ?_) (fun c6 => ?_)
  · replace h := ite_t c6 h
    refine SW_seq ?_
    obtain ⟨x7, h8, h⟩ := bind_some h
    refine SW_reg fun K hK => ?_
    simp only [go_sem, ↓reduceIte, Nat.reduceEqDiff, Nat.reduceAdd, reduceCtorEq, c6]
    refine SC.by_ (remontoireref10_P_fail_ok a0 (110 : Int) _ h8 _ _ _ (by simp only [go_sem])) ?_
    simp only [go_sem, ↓reduceIte, Nat.reduceEqDiff, Nat.reduceAdd]
    apply hK
    simp only [thenQ_normal]
    refine SW_ret ?_
    try simp only [thenQ_ret]
    obtain rfl := some_eq h
    refine ⟨by first | exact .inl rfl | exact .inl trivial | exact .inr rfl | exact .inr trivial, ?_⟩
    simp only [go_sem, ↓reduceIte, Nat.reduceEqDiff, Nat.reduceAdd, back_set, back_self]
  · replace h := ite_f c6 h
    refine SW_skip ?_
    try simp only [thenQ_normal]
    refine SW_seq ?_
    refine SW_reg fun K hK => ?_
    simp only [go_sem, ↓reduceIte, Nat.reduceEqDiff, Nat.reduceAdd, c6]
    apply hK
    simp only [thenQ_normal]
    refine SW_ret ?_
    try simp only []
    obtain rfl := some_eq h
    refine ⟨by first | exact .inl rfl | exact .inl trivial | exact .inr rfl | exact .inr trivial, ?_⟩
    simp only [go_sem, ↓reduceIte, Nat.reduceEqDiff, Nat.reduceAdd, back_set, back_self]

def remontoireref10_P_name_C (f : T_remontoireref10_P → Option (T_remontoireref10_P × Str)) : Prop := ∀ (a0 : T_remontoireref10_P) (r : (T_remontoireref10_P × Str)), f a0 = some r → ∀ (q : Pa) (m : M) (vs : List V), vs.map V.weak1 = [.agg ((T_remontoireref10_P.C a0))] → SC Tryd.prog 61 vs q m (fun v m' => v = .tup [.agg ((T_remontoireref10_P.C r.1)), .lit (.string (bs r.2))] ∧ m' = m)

theorem remontoireref10_P_name_ok (n : Nat) : remontoireref10_P_name_C (remontoireref10_P_name n) := by
  intro a0 r h q m vs hv
  refine SC.weak ?_
  rw [hv]
  refine SC_of Tryd.func61 rfl (fun xs w => Tryd.call61 xs w) Tryd.ntmps61 (by kernel_rfl) (congrArg Array.toList Tryd.results61) V.weak (fun _ _ _ => V.weak_ok) ?_
  unfold remontoireref10_P_name at h
  refine SW_seq ?_
  refine SW_reg fun K hK => ?_
  simp only [go_sem, Nat.reduceAdd]
  apply hK
  simp only [thenQ_normal]
  refine SW_seq ?_
  obtain ⟨x3, h8, h⟩ := bind_some h
  obtain ⟨f5, f6, f7⟩ := idxL_some h8
  refine SW_reg fun K hK => ?_
  simp only [go_sem, ↓reduceIte, Nat.reduceEqDiff, Nat.reduceAdd, f5, f6, f7]
  apply hK
  simp only [thenQ_normal]
  refine SW_seq ?_
  refine SW_seq ?_
  obtain ⟨y9, hy9, h⟩ := bind_some h
  refine SW_joinK 24 [] [] rfl (fun E' m' => E' 1 = .ptr (0 :: q) 0 ∧ E' 2 = .ptr (1 :: q) 0 ∧ E' 4 = .ptr (9 :: q) 0 ∧ E' 23 = .lit (.bool y9) ∧ m'.blk (0 :: q) = some ((T_remontoireref10_P.C a0)) ∧ m'.blk (1 :: q) = some ([.list .self ([].map T_remontoireref09_T.C), .lit (.int .i64 (0 : Int)), .lit (.int .i64 (0 : Int)), .lit (.int .i64 (0 : Int)), .lit (.int .i64 (0 : Int))]) ∧ m'.blk (9 :: q) = some ((T_remontoireref09_T.C x3)) ∧ m'.gl = m.gl ∧ m.back q m' = m) ?_ ?_
  · rcases bool_or (a0.E_ != (0 : Int)) with c10 | c10
    · replace hy9 := ite_t c10 hy9
      refine SW_reg fun K hK => ?_
      simp only [go_sem, ↓reduceIte, Nat.reduceEqDiff, Nat.reduceAdd, reduceCtorEq, c10]
      apply hK
      simp only [thenQ_normal]
      obtain rfl := some_eq hy9
      refine ⟨by decide, ?_⟩
      simp only [go_sem, ↓reduceIte, Nat.reduceEqDiff, reduceCtorEq, back_set, back_self]
    · replace hy9 := ite_f c10 hy9
      rcases bool_or (x3.Kind_ != (1 : Int)) with c11 | c11
      · replace hy9 := ite_t c11 hy9
        refine SW_reg fun K hK => ?_
        simp only [go_sem, ↓reduceIte, Nat.reduceEqDiff, Nat.reduceAdd, reduceCtorEq, c10, c11]
        apply hK
        simp only [thenQ_normal]
        obtain rfl := some_eq hy9
        refine ⟨by decide, ?_⟩
        simp only [go_sem, ↓reduceIte, Nat.reduceEqDiff, reduceCtorEq, back_set, back_self]
      · replace hy9 := ite_f c11 hy9
        obtain ⟨x12, h13, hy9⟩ := bind_some hy9
        refine SW_reg fun K hK => ?_
        simp only [go_sem, ↓reduceIte, Nat.reduceEqDiff, Nat.reduceAdd, reduceCtorEq, c10, c11]
        refine SC.by_ (remontoireref10_Word_ok n x3.Text_ _ h13 _ _ _ (by simp only [go_sem])) ?_
        simp only [go_sem, ↓reduceIte, Nat.reduceEqDiff, Nat.reduceAdd]
        apply hK
        simp only [thenQ_normal]
        obtain rfl := some_eq hy9
        refine ⟨by decide, ?_⟩
        simp only [go_sem, ↓reduceIte, Nat.reduceEqDiff, reduceCtorEq, back_set, back_self]
  · intro E14 m15 e16 _
    simp only [thenQ_normal]
    refine SW_if y9 (by simp only [go_sem, e16]) (fun c17 => ?_) (fun c17 => ?_)
    · replace h := ite_t c17 h
      refine SW_seq ?_
      obtain ⟨x18, h19, h⟩ := bind_some h
      refine SW_reg fun K hK => ?_
      simp only [go_sem, ↓reduceIte, Nat.reduceAdd, e16]
      refine SC.by_ (remontoireref10_P_fail_ok a0 (110 : Int) _ h19 _ _ _ (by simp only [go_sem])) ?_
      simp only [go_sem, ↓reduceIte, Nat.reduceEqDiff, Nat.reduceAdd, e16]
      apply hK
      simp only [thenQ_normal]
      refine SW_ret ?_
      try simp only [thenQ_ret]
      obtain rfl := some_eq h
      refine ⟨by first | exact .inl rfl | exact .inl trivial | exact .inr rfl | exact .inr trivial, ?_⟩
      simp only [go_sem, ↓reduceIte, Nat.reduceEqDiff, Nat.reduceAdd, back_set, e16]
    · replace h := ite_f c17 h
      refine SW_skip ?_
      try simp only [thenQ_normal]
      refine SW_seq ?_
      refine SW_reg fun K hK => ?_
      simp only [go_sem, ↓reduceIte, Nat.reduceEqDiff, Nat.reduceAdd, Nat.reduceLeDiff, e16]
      apply hK
      simp only [thenQ_normal]
      refine SW_seq ?_
      refine SW_drawK (tbl := [0, 0, 2, 1, 15]) (ord := [(0, 0), (3, 0), (1, 0), (2, 1), (4, 0)]) 34 rfl (by kernel_rfl) (by kernel_rfl) fun K hK => ?_
      simp only [go_sem, ↓reduceIte, Nat.reduceEqDiff, Nat.reduceAdd, reduceCtorEq, e16]
      apply hK
      simp only [thenQ_normal]
      refine SW_ret ?_
      try simp only []
      obtain rfl := some_eq h
      refine ⟨by first | exact .inl rfl | exact .inl trivial | exact .inr rfl | exact .inr trivial, ?_⟩
      simp only [go_sem, ↓reduceIte, Nat.reduceEqDiff, Nat.reduceAdd, back_set, e16]

def remontoireref10_P_number_C (f : T_remontoireref10_P → Option (T_remontoireref10_P × Int)) : Prop := ∀ (a0 : T_remontoireref10_P) (r : (T_remontoireref10_P × Int)), f a0 = some r → ∀ (q : Pa) (m : M) (vs : List V), vs.map V.weak1 = [.agg ((T_remontoireref10_P.C a0))] → SC Tryd.prog 129 vs q m (fun v m' => v = .tup [.agg ((T_remontoireref10_P.C r.1)), .lit (.int .u32 r.2)] ∧ m' = m)

theorem remontoireref10_P_number_ok : remontoireref10_P_number_C (remontoireref10_P_number) := by
  intro a0 r h q m vs hv
  refine SC.weak ?_
  rw [hv]
  refine SC_of Tryd.func129 rfl (fun xs w => Tryd.call129 xs w) Tryd.ntmps129 (by kernel_rfl) (congrArg Array.toList Tryd.results129) V.weak (fun _ _ _ => V.weak_ok) ?_
  unfold remontoireref10_P_number at h
  refine SW_seq ?_
  refine SW_reg fun K hK => ?_
  simp only [go_sem, Nat.reduceAdd]
  apply hK
  simp only [thenQ_normal]
  refine SW_seq ?_
  obtain ⟨x3, h8, h⟩ := bind_some h
  obtain ⟨f5, f6, f7⟩ := idxL_some h8
  refine SW_reg fun K hK => ?_
  simp only [go_sem, ↓reduceIte, Nat.reduceEqDiff, Nat.reduceAdd, f5, f6, f7]
  apply hK
  simp only [thenQ_normal]
  refine SW_seq ?_
  refine SW_seq ?_
  obtain ⟨y9, hy9, h⟩ := bind_some h
  refine SW_joinK 19 [] [] rfl (fun E' m' => E' 1 = .ptr (0 :: q) 0 ∧ E' 2 = .ptr (1 :: q) 0 ∧ E' 4 = .ptr (9 :: q) 0 ∧ E' 18 = .lit (.bool y9) ∧ m'.blk (0 :: q) = some ((T_remontoireref10_P.C a0)) ∧ m'.blk (1 :: q) = some ([.list .self ([].map T_remontoireref09_T.C), .lit (.int .i64 (0 : Int)), .lit (.int .i64 (0 : Int)), .lit (.int .i64 (0 : Int)), .lit (.int .i64 (0 : Int))]) ∧ m'.blk (9 :: q) = some ((T_remontoireref09_T.C x3)) ∧ m'.gl = m.gl ∧ m.back q m' = m) ?_ ?_
  · rcases bool_or (a0.E_ != (0 : Int)) with c10 | c10
    · replace hy9 := ite_t c10 hy9
      refine SW_reg fun K hK => ?_
      simp only [go_sem, ↓reduceIte, Nat.reduceEqDiff, Nat.reduceAdd, reduceCtorEq, c10]
      apply hK
      simp only [thenQ_normal]
      obtain rfl := some_eq hy9
      refine ⟨by decide, ?_⟩
      simp only [go_sem, ↓reduceIte, Nat.reduceEqDiff, reduceCtorEq, back_set, back_self]
    · replace hy9 := ite_f c10 hy9
      refine SW_reg fun K hK => ?_
      simp only [go_sem, ↓reduceIte, Nat.reduceEqDiff, Nat.reduceAdd, reduceCtorEq, c10]
      apply hK
      simp only [thenQ_normal]
      obtain rfl := some_eq hy9
      refine ⟨by decide, ?_⟩
      simp only [go_sem, ↓reduceIte, Nat.reduceEqDiff, reduceCtorEq, back_set, back_self]
  · intro E11 m12 e13 _
    simp only [thenQ_normal]
    refine SW_if y9 (by simp only [go_sem, e13]) (fun c14 => ?_) (fun c14 => ?_)
    · replace h := ite_t c14 h
      refine SW_seq ?_
      obtain ⟨x15, h16, h⟩ := bind_some h
      refine SW_reg fun K hK => ?_
      simp only [go_sem, ↓reduceIte, Nat.reduceAdd, e13]
      refine SC.by_ (remontoireref10_P_fail_ok a0 (110 : Int) _ h16 _ _ _ (by simp only [go_sem])) ?_
      simp only [go_sem, ↓reduceIte, Nat.reduceEqDiff, Nat.reduceAdd, e13]
      apply hK
      simp only [thenQ_normal]
      refine SW_ret ?_
      try simp only [thenQ_ret]
      obtain rfl := some_eq h
      refine ⟨by first | exact .inl rfl | exact .inl trivial | exact .inr rfl | exact .inr trivial, ?_⟩
      simp only [go_sem, ↓reduceIte, Nat.reduceEqDiff, Nat.reduceAdd, back_set, e13]
    · replace h := ite_f c14 h
      refine SW_skip ?_
      try simp only [thenQ_normal]
      refine SW_seq ?_
      refine SW_reg fun K hK => ?_
      simp only [go_sem, ↓reduceIte, Nat.reduceEqDiff, Nat.reduceAdd, Nat.reduceLeDiff, e13]
      apply hK
      simp only [thenQ_normal]
      refine SW_seq ?_
      refine SW_drawK (tbl := [0, 0, 2, 1, 15]) (ord := [(0, 0), (3, 0), (1, 0), (2, 1), (4, 0)]) 29 rfl (by kernel_rfl) (by kernel_rfl) fun K hK => ?_
      simp only [go_sem, ↓reduceIte, Nat.reduceEqDiff, Nat.reduceAdd, reduceCtorEq, e13]
      apply hK
      simp only [thenQ_normal]
      refine SW_ret ?_
      try simp only []
      obtain rfl := some_eq h
      refine ⟨by first | exact .inl rfl | exact .inl trivial | exact .inr rfl | exact .inr trivial, ?_⟩
      simp only [go_sem, ↓reduceIte, Nat.reduceEqDiff, Nat.reduceAdd, back_set, e13]

def remontoireref10_P_size_C (f : T_remontoireref10_P → Option (T_remontoireref10_P × Int)) : Prop := ∀ (a0 : T_remontoireref10_P) (r : (T_remontoireref10_P × Int)), f a0 = some r → ∀ (q : Pa) (m : M) (vs : List V), vs.map V.weak1 = [.agg ((T_remontoireref10_P.C a0))] → SC Tryd.prog 110 vs q m (fun v m' => v = .tup [.agg ((T_remontoireref10_P.C r.1)), .lit (.int .u32 r.2)] ∧ m' = m)

theorem remontoireref10_P_size_ok (n : Nat) : remontoireref10_P_size_C (remontoireref10_P_size n) := by
  intro a0 r h q m vs hv
  refine SC.weak ?_
  rw [hv]
  refine SC_of Tryd.func110 rfl (fun xs w => Tryd.call110 xs w) Tryd.ntmps110 (by kernel_rfl) (congrArg Array.toList Tryd.results110) V.weak (fun _ _ _ => V.weak_ok) ?_
  unfold remontoireref10_P_size at h
  refine SW_seq ?_
  refine SW_reg fun K hK => ?_
  simp only [go_sem, Nat.reduceAdd]
  apply hK
  simp only [thenQ_normal]
  refine SW_seq ?_
  obtain ⟨x3, h5, h⟩ := bind_some h
  obtain ⟨x4, h6, h⟩ := bind_some h
  refine SW_reg fun K hK => ?_
  simp only [go_sem, ↓reduceIte, Nat.reduceEqDiff, Nat.reduceAdd]
  refine SC.by_ (remontoireref10_P_need_ok n a0 ([91] : Str) _ h5 _ _ _ (by simp only [go_sem])) ?_
  simp only [go_sem, ↓reduceIte, Nat.reduceAdd]
  refine SC.by_ (remontoireref10_P_number_ok x3 _ h6 _ _ _ (by simp only [go_sem])) ?_
  simp only [go_sem, ↓reduceIte, Nat.reduceEqDiff, Nat.reduceAdd]
  apply hK
  simp only [thenQ_normal]
  refine SW_seq ?_
  obtain ⟨x7, h8, h⟩ := bind_some h
  refine SW_reg fun K hK => ?_
  simp only [go_sem, ↓reduceIte, Nat.reduceEqDiff, Nat.reduceAdd]
  refine SC.by_ (remontoireref10_P_need_ok n x4.1 ([93] : Str) _ h8 _ _ _ (by simp only [go_sem])) ?_
  simp only [go_sem, ↓reduceIte, Nat.reduceEqDiff, Nat.reduceAdd]
  apply hK
  simp only [thenQ_normal]
  refine SW_ret ?_
  try simp only []
  obtain rfl := some_eq h
  refine ⟨by first | exact .inl rfl | exact .inl trivial | exact .inr rfl | exact .inr trivial, ?_⟩
  simp only [go_sem, ↓reduceIte, Nat.reduceEqDiff, Nat.reduceAdd, back_set, back_self]

def remontoireref10_P_param_C (f : T_remontoireref10_P → Option (T_remontoireref10_P × (List T_remontoireref10_N))) : Prop := ∀ (a0 : T_remontoireref10_P) (r : (T_remontoireref10_P × (List T_remontoireref10_N))), f a0 = some r → ∀ (q : Pa) (m : M) (vs : List V), vs.map V.weak1 = [.agg ((T_remontoireref10_P.C a0))] → SC Tryd.prog 92 vs q m (fun v m' => v = .tup [.agg ((T_remontoireref10_P.C r.1)), .list .none (r.2.map T_remontoireref10_N.C)] ∧ m' = m)

theorem remontoireref10_P_param_ok (n : Nat) : remontoireref10_P_param_C (remontoireref10_P_param n) := by
  intro a0 r h q m vs hv
  refine SC.weak ?_
  rw [hv]
  refine SC_of Tryd.func92 rfl (fun xs w => Tryd.call92 xs w) Tryd.ntmps92 (by kernel_rfl) (congrArg Array.toList Tryd.results92) V.weak (fun _ _ _ => V.weak_ok) ?_
  unfold remontoireref10_P_param at h
  refine SW_seq ?_
  refine SW_reg fun K hK => ?_
  simp only [go_sem, Nat.reduceAdd]
  apply hK
  simp only [thenQ_normal]
  refine SW_seq ?_
  obtain ⟨x3, h5, h⟩ := bind_some h
  refine SW_reg fun K hK => ?_
  simp only [go_sem, ↓reduceIte, Nat.reduceEqDiff, Nat.reduceAdd]
  refine SC.by_ (remontoireref10_P_node_ok a0 (3 : Int) _ h5 _ _ _ (by simp only [go_sem])) ?_
  simp only [go_sem, ↓reduceIte, Nat.reduceEqDiff, Nat.reduceAdd, reduceCtorEq]
  apply hK
  simp only [thenQ_normal]
  refine SW_seq ?_
  obtain ⟨x6, h7, h⟩ := bind_some h
  refine SW_reg fun K hK => ?_
  simp only [go_sem, ↓reduceIte, Nat.reduceEqDiff, Nat.reduceAdd, reduceCtorEq]
  refine SC.by_ (remontoireref10_P_name_ok n x3.1 _ h7 _ _ _ (by simp only [go_sem])) ?_
  simp only [go_sem, ↓reduceIte, Nat.reduceEqDiff, Nat.reduceAdd, Nat.reduceLeDiff, reduceCtorEq]
  apply hK
  simp only [thenQ_normal]
  refine SW_seq ?_
  obtain ⟨x8, h9, h⟩ := bind_some h
  refine SW_reg fun K hK => ?_
  simp only [go_sem, ↓reduceIte, Nat.reduceEqDiff, Nat.reduceAdd, reduceCtorEq]
  refine SC.by_ (remontoireref10_P_need_ok n x6.1 ([58] : Str) _ h9 _ _ _ (by simp only [go_sem])) ?_
  simp only [go_sem, ↓reduceIte, Nat.reduceEqDiff, Nat.reduceAdd, reduceCtorEq]
  apply hK
  simp only [thenQ_normal]
  refine SW_seq ?_
  refine SW_reg fun K hK => ?_
  simp only [go_sem, ↓reduceIte, Nat.reduceEqDiff, Nat.reduceAdd, Nat.reduceLeDiff]
  apply hK
  simp only [thenQ_normal]
  refine SW_seq ?_
  refine SW_seq ?_
  refine SW_reg fun K hK => ?_
  simp only [go_sem, Nat.reduceAdd]
  apply hK
  simp only [thenQ_normal]
  refine SW_block ?_
  obtain ⟨y15, hy15, h⟩ := bind_some h
  refine SW_countW [] [] rfl (fun c E' m' => ∃ (v12 : Int), ∃ (v13 : T_remontoireref10_P), ∃ (v14 : T_remontoireref10_N), remontoireref10_P_param_l1 n x8 c v12 v13 v14 = some y15 ∧ E' 1 = .ptr (0 :: q) 0 ∧ E' 2 = .ptr (1 :: q) 0 ∧ E' 4 = .ptr (8 :: q) 0 ∧ E' 5 = .ptr (23 :: q) 0 ∧ E' 6 = .lit (.int .i64 v12) ∧ m'.blk (23 :: q) = some ((cA cS remontoireref10_P_param_k1)) ∧ m'.blk (0 :: q) = some ((T_remontoireref10_P.C x8)) ∧ m'.blk (1 :: q) = some ([.list .self (v13.L_.map T_remontoireref09_T.C), .lit (.int .i64 v13.At_), .lit (.int .i64 v13.Nodes_), .lit (.int .i64 v13.E_), .lit (.int .i64 v13.Where_)]) ∧ m'.blk (8 :: q) = some ((T_remontoireref10_N.C v14)) ∧ m'.gl = m.gl ∧ m.back q m' = m) n ⟨(0 : Int), (T_remontoireref10_P.mk [] (0 : Int) (0 : Int) (0 : Int) (0 : Int)), ({ x3.2 with Text_ := x6.2 } : T_remontoireref10_N), hy15, ?_⟩ ?_
  · (simp only [go_sem, ↓reduceIte, Nat.reduceEqDiff, reduceCtorEq, back_set, back_self]) <;> (try and_intros) <;> rfl
  rintro i11 c16 E17 m18 ⟨v12, v13, v14, hy15, e19⟩ _
  rcases c16 with _ | c16
  · exact absurd hy15 (by rw [remontoireref10_P_param_l1]; exact fun e => nomatch e)
  rw [remontoireref10_P_param_l1] at hy15
  refine SW_seq ?_
  refine SW_seq ?_
  refine SW_reg fun K hK => ?_
  simp only [go_sem, ↓reduceIte, Nat.reduceAdd, e19]
  apply hK
  simp only [thenQ_normal]
  refine SW_if (decide (v12 < (3 : Int))) (by simp only [go_sem, ↓reduceIte]) (fun c20 => ?_) (fun c20 => ?_)
  · replace hy15 := ite_t c20 hy15
    refine SW_skip ?_
    try simp only [thenQ_normal]
    refine SW_seq ?_
    refine SW_block ?_
    refine SW_seq ?_
    obtain ⟨x21, h27, hy15⟩ := bind_some hy15
    obtain ⟨f24, f25, f26⟩ := idxL_some h27
    have f28 : v12 < (3 : Int) := f25
    obtain ⟨w29, d30⟩ := cA_drop (f := cS) (s := 1) (fun _ _ => rfl) f26
    simp only [go_sem] at d30
    have d31 : List.drop (v12.toNat) [V.lit (.string (bs ([112, 117, 98] : Str))), V.lit (.string (bs ([117, 51, 50] : Str))), V.lit (.string (bs ([117, 54, 52] : Str)))] = _ := d30
    obtain ⟨x22, h32, hy15⟩ := bind_some hy15
    refine SW_drawK (tbl := [0, 0, 2, 6, 15, 31, 63, 63, 0, 383, 1023]) (ord := [(0, 0), (1, 0), (2, 0), (3, 0), (4, 0), (5, 0), (6, 0), (8, 0), (9, 0), (7, 0), (10, 0)]) 13 rfl (by kernel_rfl) (by kernel_rfl) fun K hK => ?_
    simp only [go_sem, ↓reduceIte, Nat.reduceEqDiff, Nat.reduceAdd, f24, f28, d30, e19]
    refine dcall_of (remontoireref10_P_take_ok n x8 x21 _ h32 _ _ _ (by simp only [go_sem])) rfl ?_
    simp only [go_sem, ↓reduceIte, Nat.reduceEqDiff, Nat.reduceAdd, e19]
    apply hK
    simp only [thenQ_normal]
    refine SW_seq ?_
    refine SW_reg fun K hK => ?_
    simp only [go_sem, ↓reduceIte, Nat.reduceAdd]
    apply hK
    simp only [thenQ_normal]
    refine SW_if x22.2 (by simp only [go_sem, ↓reduceIte]) (fun c33 => ?_) (fun c33 => ?_)
    · replace hy15 := ite_t c33 hy15
      refine SW_seq ?_
      refine SW_reg fun K hK => ?_
      simp only [go_sem, ↓reduceIte, Nat.reduceEqDiff, Nat.reduceAdd, Nat.reduceLeDiff, c33, e19]
      apply hK
      simp only [thenQ_normal]
      refine SW_seq ?_
      refine SW_drawK (tbl := [0, 0, 2, 1, 15]) (ord := [(0, 0), (3, 0), (1, 1), (2, 0), (4, 0)]) 24 rfl (by kernel_rfl) (by kernel_rfl) fun K hK => ?_
      simp only [go_sem, ↓reduceIte, Nat.reduceEqDiff, Nat.reduceAdd, Nat.reduceLT, Nat.reduceLeDiff, e19]
      apply hK
      simp only [thenQ_normal]
      refine SW_ret ?_
      try simp only [thenQ_ret, blockQ_ret]
      obtain rfl := some_eq hy15
      simp only [Sum.elim_inr] at h
      obtain rfl := some_eq h
      refine ⟨by first | exact .inl rfl | exact .inl trivial | exact .inr rfl | exact .inr trivial, ?_⟩
      simp only [go_sem, ↓reduceIte, Nat.reduceEqDiff, Nat.reduceAdd, back_set, e19]
    · replace hy15 := ite_f c33 hy15
      refine SW_skip ?_
      try simp only [thenQ_normal, blockQ_normal]
      refine SW_reg fun K hK => ?_
      simp only [go_sem, ↓reduceIte, Nat.reduceEqDiff, Nat.reduceAdd, c33, e19]
      apply hK
      simp only [thenQ_normal]
      refine ⟨c16, Nat.lt_succ_self _, (IntKind.i64.wrap (v12 + (1 : Int))), v13, v14, hy15, ?_⟩
      (simp only [go_sem, ↓reduceIte, Nat.reduceEqDiff, reduceCtorEq, back_set, e19]) <;> (try and_intros) <;> rfl
  · replace hy15 := ite_f c20 hy15
    refine SW_exit ?_
    try simp only [thenQ_exit, blockQ_exit, ↓reduceIte, thenQ_normal]
    obtain rfl := some_eq hy15
    simp only [Sum.elim_inl] at h
    refine SW_seq ?_
    refine SW_reg fun K hK => ?_
    simp only [go_sem, ↓reduceIte, Nat.reduceEqDiff, Nat.reduceAdd, Nat.reduceLeDiff, c20, e19]
    apply hK
    simp only [thenQ_normal]
    refine SW_seq ?_
    refine SW_reg fun K hK => ?_
    simp only [go_sem, ↓reduceIte, Nat.reduceEqDiff, Nat.reduceAdd, e19]
    apply hK
    simp only [thenQ_normal]
    refine SW_seq ?_
    obtain ⟨x34, h36, h⟩ := bind_some h
    refine SW_reg fun K hK => ?_
    simp only [go_sem, ↓reduceIte, Nat.reduceEqDiff, Nat.reduceAdd, reduceCtorEq, e19]
    refine SC.by_ (remontoireref10_P_node_ok x8 (14 : Int) _ h36 _ _ _ (by simp only [go_sem])) ?_
    simp only [go_sem, ↓reduceIte, Nat.reduceEqDiff, Nat.reduceAdd, reduceCtorEq, e19]
    apply hK
    simp only [thenQ_normal]
    refine SW_seq ?_
    obtain ⟨x37, h38, h⟩ := bind_some h
    refine SW_reg fun K hK => ?_
    simp only [go_sem, ↓reduceIte, Nat.reduceEqDiff, Nat.reduceAdd, reduceCtorEq, e19]
    refine SC.by_ (remontoireref10_P_size_ok n x34.1 _ h38 _ _ _ (by simp only [go_sem])) ?_
    simp only [go_sem, ↓reduceIte, Nat.reduceEqDiff, Nat.reduceAdd, Nat.reduceLeDiff, reduceCtorEq, e19]
    apply hK
    simp only [thenQ_normal]
    refine SW_seq ?_
    refine SW_drawK (tbl := [0, 0, 0, 6, 1, 31]) (ord := [(0, 0), (4, 0), (1, 1), (2, 1), (3, 0), (5, 0)]) 53 rfl (by kernel_rfl) (by kernel_rfl) fun K hK => ?_
    simp only [go_sem, ↓reduceIte, Nat.reduceEqDiff, Nat.reduceAdd, Nat.reduceMul, Nat.reduceLT, Nat.reduceLeDiff, reduceCtorEq, e19]
    apply hK
    simp only [thenQ_normal]
    refine SW_ret ?_
    try simp only []
    obtain rfl := some_eq h
    refine ⟨by first | exact .inl rfl | exact .inl trivial | exact .inr rfl | exact .inr trivial, ?_⟩
    simp only [go_sem, ↓reduceIte, Nat.reduceEqDiff, Nat.reduceAdd, back_set, e19]

def remontoireref10_P_params_C (f : T_remontoireref10_P → Option (T_remontoireref10_P × (List T_remontoireref10_N) × Int)) : Prop := ∀ (a0 : T_remontoireref10_P) (r : (T_remontoireref10_P × (List T_remontoireref10_N) × Int)), f a0 = some r → ∀ (q : Pa) (m : M) (vs : List V), vs.map V.weak1 = [.agg ((T_remontoireref10_P.C a0))] → SC Tryd.prog 62 vs q m (fun v m' => v = .tup [.agg ((T_remontoireref10_P.C r.1)), .list .none (r.2.1.map T_remontoireref10_N.C), .lit (.int .i64 r.2.2)] ∧ m' = m)

theorem remontoireref10_P_params_ok (n : Nat) : remontoireref10_P_params_C (remontoireref10_P_params n) := by
  intro a0 r h q m vs hv
  refine SC.weak ?_
  rw [hv]
  refine SC_of Tryd.func62 rfl (fun xs w => Tryd.call62 xs w) Tryd.ntmps62 (by kernel_rfl) (congrArg Array.toList Tryd.results62) V.weak (fun _ _ _ => V.weak_ok) ?_
  unfold remontoireref10_P_params at h
  refine SW_seq ?_
  refine SW_reg fun K hK => ?_
  simp only [go_sem, Nat.reduceAdd]
  apply hK
  simp only [thenQ_normal]
  refine SW_seq ?_
  refine SW_reg fun K hK => ?_
  simp only [go_sem, Nat.reduceAdd]
  apply hK
  simp only [thenQ_normal]
  refine SW_seq ?_
  obtain ⟨x3, h4, h⟩ := bind_some h
  refine SW_reg fun K hK => ?_
  simp only [go_sem, ↓reduceIte, Nat.reduceEqDiff, Nat.reduceAdd]
  refine SC.by_ (remontoireref10_P_need_ok n a0 ([40] : Str) _ h4 _ _ _ (by simp only [go_sem])) ?_
  simp only [go_sem, ↓reduceIte, Nat.reduceEqDiff, Nat.reduceAdd]
  apply hK
  simp only [thenQ_normal]
  refine SW_seq ?_
  obtain ⟨x5, h7, h⟩ := bind_some h
  refine SW_reg fun K hK => ?_
  simp only [go_sem, ↓reduceIte, Nat.reduceEqDiff, Nat.reduceAdd]
  refine SC.by_ (remontoireref10_P_take_ok n x3 ([41] : Str) _ h7 _ _ _ (by simp only [go_sem])) ?_
  simp only [go_sem, ↓reduceIte, Nat.reduceEqDiff, Nat.reduceAdd]
  apply hK
  simp only [thenQ_normal]
  refine SW_seq ?_
  refine SW_seq ?_
  refine SW_reg fun K hK => ?_
  simp only [go_sem, ↓reduceIte, Nat.reduceAdd]
  apply hK
  simp only [thenQ_normal]
  refine SW_if x5.2 (by simp only [go_sem, ↓reduceIte]) (fun c8 => ?_) (fun c8 => ?_)
  · replace h := ite_t c8 h
    refine SW_seq ?_
    refine SW_reg fun K hK => ?_
    simp only [go_sem, ↓reduceIte, Nat.reduceEqDiff, Nat.reduceAdd, c8]
    apply hK
    simp only [thenQ_normal]
    refine SW_ret ?_
    try simp only [thenQ_ret]
    obtain rfl := some_eq h
    refine ⟨by first | exact .inl rfl | exact .inl trivial | exact .inr rfl | exact .inr trivial, ?_⟩
    simp only [go_sem, ↓reduceIte, Nat.reduceEqDiff, Nat.reduceAdd, back_set, back_self]
  · replace h := ite_f c8 h
    refine SW_skip ?_
    try simp only [thenQ_normal]
    refine SW_seq ?_
    refine SW_reg fun K hK => ?_
    simp only [go_sem, Nat.reduceAdd, c8]
    apply hK
    simp only [thenQ_normal]
    refine SW_seq ?_
    obtain ⟨y9, hy9, h⟩ := bind_some h
    refine SW_joinK 20 [] [] rfl (fun E' m' => ∃ (oy9_5 : Pa) (jy9_5 : Nat), E' 1 = .ptr (0 :: q) 0 ∧ E' 2 = .ptr (1 :: q) 0 ∧ E' 5 = .list (.st (.anon oy9_5 jy9_5)) (y9.1.map T_remontoireref10_N.C) ∧ m'.tok oy9_5 jy9_5 = true ∧ q <:+ oy9_5 ∧ E' 8 = .lit (.int .i64 y9.2.1) ∧ m'.blk (0 :: q) = some ((T_remontoireref10_P.C y9.2.2)) ∧ m'.blk (1 :: q) = some ([.list .self ([].map T_remontoireref09_T.C), .lit (.int .i64 (0 : Int)), .lit (.int .i64 (0 : Int)), .lit (.int .i64 (0 : Int)), .lit (.int .i64 (0 : Int))]) ∧ m'.gl = m.gl ∧ m.back q m' = m) ?_ ?_
    · refine SW_block ?_
      obtain ⟨y14, hy14, hy9⟩ := bind_some hy9
      refine SW_stamp 5 ([].map T_remontoireref10_N.C) rfl (by simp only [go_sem, ↓reduceIte, Nat.reduceEqDiff]) ?_
      refine SW_countW [] [] rfl (fun c E' m' => ∃ (v11 : (List T_remontoireref10_N)), ∃ (v12 : Int), ∃ (v13 : T_remontoireref10_P), ∃ (o_v11 : Pa) (j_v11 : Nat), remontoireref10_P_params_l1 n c v11 v12 v13 = some y14 ∧ E' 1 = .ptr (0 :: q) 0 ∧ E' 2 = .ptr (1 :: q) 0 ∧ E' 5 = .list (.st (.anon o_v11 j_v11)) (v11.map T_remontoireref10_N.C) ∧ m'.tok o_v11 j_v11 = true ∧ q <:+ o_v11 ∧ E' 8 = .lit (.int .i64 v12) ∧ m'.blk (0 :: q) = some ((T_remontoireref10_P.C v13)) ∧ m'.blk (1 :: q) = some ([.list .self ([].map T_remontoireref09_T.C), .lit (.int .i64 (0 : Int)), .lit (.int .i64 (0 : Int)), .lit (.int .i64 (0 : Int)), .lit (.int .i64 (0 : Int))]) ∧ m'.gl = m.gl ∧ m.back q m' = m) n ⟨[], (0 : Int), x3, (18 :: q), 0, hy14, ?_⟩ ?_
      · simp only [go_sem, ↓reduceIte, Nat.reduceEqDiff, reduceCtorEq, back_set, back_tokset, back_self]
      rintro i10 c15 E16 m17 ⟨v11, v12, v13, o_v11, j_v11, hy14, e18⟩ _
      rcases c15 with _ | c15
      · exact absurd hy14 (by rw [remontoireref10_P_params_l1]; exact fun e => nomatch e)
      rw [remontoireref10_P_params_l1] at hy14
      refine SW_seq ?_
      refine SW_seq ?_
      refine SW_reg fun K hK => ?_
      simp only [go_sem, ↓reduceIte, Nat.reduceAdd, e18]
      apply hK
      simp only [thenQ_normal]
      refine SW_if (v13.E_ == (0 : Int)) (by simp only [go_sem, ↓reduceIte]) (fun c19 => ?_) (fun c19 => ?_)
      · replace hy14 := ite_t c19 hy14
        refine SW_skip ?_
        try simp only [thenQ_normal]
        refine SW_block ?_
        refine SW_seq ?_
        obtain ⟨x20, h22, hy14⟩ := bind_some hy14
        refine SW_reg fun K hK => ?_
        simp only [go_sem, ↓reduceIte, Nat.reduceEqDiff, Nat.reduceAdd, c19, e18]
        refine SC.by_ (remontoireref10_P_param_ok n v13 _ h22 _ _ _ (by simp only [go_sem])) ?_
        simp only [go_sem, ↓reduceIte, Nat.reduceEqDiff, Nat.reduceAdd]
        apply hK
        simp only [thenQ_normal]
        refine SW_seq ?_
        refine SW_reg fun K hK => ?_
        simp only [go_sem, ↓reduceIte, Nat.reduceEqDiff, Nat.reduceAdd, reduceCtorEq, e18]
        apply hK
        simp only [thenQ_normal]
        refine SW_seq ?_
        obtain ⟨f23, hy14⟩ := need_some hy14
        have f24 : v11.length + x20.2.length ≤ 1073741824 := by first | omega | (simp only [List.length_append, List.length_cons, List.length_nil] at f23 ⊢; omega)
        refine SW_reg fun K hK => ?_
        simp only [go_sem, ↓reduceIte, Nat.reduceEqDiff, Nat.reduceAdd, Nat.reduceLT, Nat.reduceLeDiff, f23, e18]
        apply hK
        simp only [thenQ_normal]
        refine SW_seq ?_
        refine SW_reg fun K hK => ?_
        simp only [go_sem, ↓reduceIte, Nat.reduceEqDiff, Nat.reduceAdd, e18]
        apply hK
        simp only [thenQ_normal]
        refine SW_seq ?_
        obtain ⟨x25, h26, hy14⟩ := bind_some hy14
        refine SW_reg fun K hK => ?_
        simp only [go_sem, ↓reduceIte, Nat.reduceEqDiff, Nat.reduceAdd, e18]
        refine SC.by_ (remontoireref10_P_take_ok n x20.1 ([44] : Str) _ h26 _ _ _ (by simp only [go_sem])) ?_
        simp only [go_sem, ↓reduceIte, Nat.reduceEqDiff, Nat.reduceAdd, e18]
        apply hK
        simp only [thenQ_normal]
        refine SW_seq ?_
        refine SW_reg fun K hK => ?_
        simp only [go_sem, ↓reduceIte, Nat.reduceAdd]
        apply hK
        simp only [thenQ_normal]
        refine SW_if (!x25.2) (by simp only [go_sem, ↓reduceIte]) (fun c27 => ?_) (fun c27 => ?_)
        · replace hy14 := ite_t c27 hy14
          refine SW_exit ?_
          try simp only [thenQ_exit, blockQ_exit, ↓reduceIte, Nat.reduceEqDiff, thenQ_normal]
          obtain rfl := some_eq hy14
          obtain rfl := some_eq hy9
          refine ⟨by decide, (15 :: i10 :: 19 :: q), 0, ?_⟩
          simp only [go_sem, ↓reduceIte, Nat.reduceEqDiff, back_set, back_tokset, c27, e18]
        · replace hy14 := ite_f c27 hy14
          refine SW_skip ?_
          try simp only [thenQ_normal, blockQ_normal]
          refine ⟨c15, Nat.lt_succ_self _, (v11 ++ x20.2), (IntKind.i64.wrap (v12 + (1 : Int))), x25.1, (15 :: i10 :: 19 :: q), 0, hy14, ?_⟩
          simp only [go_sem, ↓reduceIte, Nat.reduceEqDiff, back_set, back_tokset, c27, e18]
      · replace hy14 := ite_f c19 hy14
        refine SW_exit ?_
        try simp only [thenQ_exit, blockQ_exit, ↓reduceIte, thenQ_normal]
        obtain rfl := some_eq hy14
        obtain rfl := some_eq hy9
        refine ⟨by decide, o_v11, j_v11, ?_⟩
        simp only [go_sem, ↓reduceIte, Nat.reduceEqDiff, c19, e18]
    · rintro E28 m29 ⟨oy9_5, jy9_5, e30⟩ _
      simp only [thenQ_normal]
      refine SW_seq ?_
      obtain ⟨x31, h32, h⟩ := bind_some h
      refine SW_reg fun K hK => ?_
      simp only [go_sem, ↓reduceIte, Nat.reduceAdd, e30]
      refine SC.by_ (remontoireref10_P_need_ok n y9.2.2 ([41] : Str) _ h32 _ _ _ (by simp only [go_sem])) ?_
      simp only [go_sem, ↓reduceIte, Nat.reduceEqDiff, Nat.reduceAdd, e30]
      apply hK
      simp only [thenQ_normal]
      refine SW_ret ?_
      try simp only []
      obtain rfl := some_eq h
      refine ⟨by first | exact .inl rfl | exact .inl trivial | exact .inr rfl | exact .inr trivial, ?_⟩
      simp only [go_sem, ↓reduceIte, Nat.reduceEqDiff, Nat.reduceAdd, back_set, e30]

def remontoireref10_P_sign_C (f : T_remontoireref10_P → Int → Option Str) : Prop := ∀ (a0 : T_remontoireref10_P) (a1 : Int) (r : Str), f a0 a1 = some r → ∀ (q : Pa) (m : M) (vs : List V), vs.map V.weak1 = [.agg ((T_remontoireref10_P.C a0)), .lit (.int .i64 a1)] → SC Tryd.prog 152 vs q m (fun v m' => v = .lit (.string (bs r)) ∧ m' = m)

theorem remontoireref10_P_sign_ok (n : Nat) : remontoireref10_P_sign_C (remontoireref10_P_sign n) := by
  intro a0 a1 r h q m vs hv
  refine SC.weak ?_
  rw [hv]
  refine SC_of Tryd.func152 rfl (fun xs w => Tryd.call152 xs w) Tryd.ntmps152 (by kernel_rfl) (congrArg Array.toList Tryd.results152) V.weak (fun _ _ _ => V.weak_ok) ?_
  unfold remontoireref10_P_sign at h
  refine SW_seq ?_
  refine SW_reg fun K hK => ?_
  simp only [go_sem, Nat.reduceAdd]
  apply hK
  simp only [thenQ_normal]
  refine SW_seq ?_
  refine SW_reg fun K hK => ?_
  simp only [go_sem, ↓reduceIte, Nat.reduceEqDiff, Nat.reduceAdd, Nat.reduceMul, Nat.reduceLeDiff]
  apply hK
  simp only [thenQ_normal]
  refine SW_seq ?_
  refine SW_seq ?_
  refine SW_reg fun K hK => ?_
  simp only [go_sem, Nat.reduceAdd]
  apply hK
  simp only [thenQ_normal]
  refine SW_block ?_
  obtain ⟨y5, hy5, h⟩ := bind_some h
  refine SW_countW [] [] rfl (fun c E' m' => ∃ (v4 : Int), remontoireref10_P_sign_l1 n a1 a0 c v4 = some y5 ∧ E' 1 = .lit (.int .i64 a1) ∧ E' 2 = .ptr (0 :: q) 0 ∧ E' 5 = .ptr (10 :: q) 0 ∧ E' 6 = .lit (.int .i64 v4) ∧ m'.blk (0 :: q) = some ((T_remontoireref10_P.C a0)) ∧ m'.blk (10 :: q) = some ((cA (cA cS) remontoireref10_P_sign_k1)) ∧ m'.gl = m.gl ∧ m.back q m' = m) n ⟨(0 : Int), hy5, ?_⟩ ?_
  · (simp only [go_sem, ↓reduceIte, Nat.reduceEqDiff, reduceCtorEq, back_set, back_self]) <;> (try and_intros) <;> rfl
  rintro i3 c6 E7 m8 ⟨v4, hy5, e9⟩ _
  rcases c6 with _ | c6
  · exact absurd hy5 (by rw [remontoireref10_P_sign_l1]; exact fun e => nomatch e)
  rw [remontoireref10_P_sign_l1] at hy5
  refine SW_seq ?_
  refine SW_seq ?_
  refine SW_reg fun K hK => ?_
  simp only [go_sem, ↓reduceIte, Nat.reduceAdd, e9]
  apply hK
  simp only [thenQ_normal]
  refine SW_if (decide (v4 < (3 : Int))) (by simp only [go_sem, ↓reduceIte]) (fun c10 => ?_) (fun c10 => ?_)
  · replace hy5 := ite_t c10 hy5
    refine SW_skip ?_
    try simp only [thenQ_normal]
    refine SW_seq ?_
    refine SW_block ?_
    refine SW_seq ?_
    obtain ⟨x11, h17, hy5⟩ := bind_some hy5
    obtain ⟨f14, f15, f16⟩ := idxL_some h17
    have f18 : a1 < (7 : Int) := f15
    obtain ⟨w19, d20⟩ := cA_drop (f := (cA cS)) (s := 3) (cA_all (f := (cA cS)) (s := 3) _ (by kernel_rfl)) f16
    have d21 := (cA_all (f := (cA cS)) (s := 3) _ (by kernel_rfl)) _ (List.mem_of_getElem? f16)
    have d22 := List.take_left' (l₂ := w19) d21
    have d23 : (3 ≤ (cA cS x11).length + w19.length) = True := eq_true (by omega)
    have d24 : List.drop (a1.toNat * 3) [V.lit (.string (bs ([124] : Str))), V.lit (.string (bs ([124] : Str))), V.lit (.string (bs ([124] : Str))), V.lit (.string (bs ([94] : Str))), V.lit (.string (bs ([94] : Str))), V.lit (.string (bs ([94] : Str))), V.lit (.string (bs ([38] : Str))), V.lit (.string (bs ([38] : Str))), V.lit (.string (bs ([38] : Str))), V.lit (.string (bs ([61, 61] : Str))), V.lit (.string (bs ([60] : Str))), V.lit (.string (bs ([60] : Str))), V.lit (.string (bs ([60, 60] : Str))), V.lit (.string (bs ([62, 62] : Str))), V.lit (.string (bs ([60, 60, 60] : Str))), V.lit (.string (bs ([43] : Str))), V.lit (.string (bs ([45] : Str))), V.lit (.string (bs ([45] : Str))), V.lit (.string (bs ([42] : Str))), V.lit (.string (bs ([47] : Str))), V.lit (.string (bs ([37] : Str)))] = _ := d20
    obtain ⟨x12, h28, hy5⟩ := bind_some hy5
    obtain ⟨f25, f26, f27⟩ := idxL_some h28
    have f29 := (List.getElem?_eq_some_iff.1 f27).1
    have f30 : v4 < (3 : Int) := by have := cA_one d21; omega
    obtain ⟨w31, d32⟩ := cA_drop (f := cS) (s := 1) (fun _ _ => rfl) f27
    have d33 := cA_drop2 (n := a1.toNat * 3) d20 d32 (by have := (List.getElem?_eq_some_iff.1 f27).1; have := cA_one d21; omega)
    simp only [go_sem] at d33
    obtain ⟨x13, h34, hy5⟩ := bind_some hy5
    refine SW_drawK (tbl := [0, 0, 0, 2, 14, 30, 63]) (ord := [(0, 0), (1, 0), (2, 0), (3, 0), (4, 0), (5, 0), (6, 0)]) 9 rfl (by kernel_rfl) (by kernel_rfl) fun K hK => ?_
    simp only [go_sem, ↓reduceIte, Nat.reduceEqDiff, Nat.reduceAdd, f14, f18, f25, f30, d33, e9]
    refine dcall_of (remontoireref10_P_is_ok n a0 x12 _ h34 _ _ _ (by simp only [go_sem])) rfl ?_
    simp only [go_sem]
    apply hK
    simp only [thenQ_normal]
    refine SW_if x13 (by simp only [go_sem, ↓reduceIte]) (fun c35 => ?_) (fun c35 => ?_)
    · replace hy5 := ite_t c35 hy5
      refine SW_seq ?_
      refine SW_reg fun K hK => ?_
      simp only [go_sem, ↓reduceIte, Nat.reduceEqDiff, Nat.reduceAdd, f14, f18, f25, f30, d33, c35, e9]
      apply hK
      simp only [thenQ_normal]
      refine SW_ret ?_
      try simp only [thenQ_ret, blockQ_ret]
      obtain rfl := some_eq hy5
      simp only [Sum.elim_inr] at h
      obtain rfl := some_eq h
      refine ⟨by first | exact .inl rfl | exact .inl trivial | exact .inr rfl | exact .inr trivial, ?_⟩
      simp only [go_sem, ↓reduceIte, e9]
    · replace hy5 := ite_f c35 hy5
      refine SW_skip ?_
      try simp only [thenQ_normal, blockQ_normal]
      refine SW_reg fun K hK => ?_
      simp only [go_sem, ↓reduceIte, Nat.reduceEqDiff, Nat.reduceAdd, c35, e9]
      apply hK
      simp only [thenQ_normal]
      refine ⟨c6, Nat.lt_succ_self _, (IntKind.i64.wrap (v4 + (1 : Int))), hy5, ?_⟩
      (simp only [go_sem, ↓reduceIte, Nat.reduceEqDiff, e9]) <;> (try and_intros) <;> rfl
  · replace hy5 := ite_f c10 hy5
    refine SW_exit ?_
    try simp only [thenQ_exit, blockQ_exit, ↓reduceIte, thenQ_normal]
    obtain rfl := some_eq hy5
    simp only [Sum.elim_inl] at h
    refine SW_seq ?_
    refine SW_reg fun K hK => ?_
    simp only [go_sem, Nat.reduceAdd, c10]
    apply hK
    simp only [thenQ_normal]
    refine SW_ret ?_
    try simp only []
    obtain rfl := some_eq h
    refine ⟨by first | exact .inl rfl | exact .inl trivial | exact .inr rfl | exact .inr trivial, ?_⟩
    simp only [go_sem, ↓reduceIte, e9]

def remontoireref10_P_level_C (f : T_remontoireref10_P → Int → Int → Option (T_remontoireref10_P × (List T_remontoireref10_N))) : Prop := ∀ (a0 : T_remontoireref10_P) (a1 : Int) (a2 : Int) (r : (T_remontoireref10_P × (List T_remontoireref10_N))), f a0 a1 a2 = some r → ∀ (q : Pa) (m : M) (vs : List V), vs.map V.weak1 = [.agg ((T_remontoireref10_P.C a0)), .lit (.int .i64 a1), .lit (.int .i64 a2)] → SC Tryd.prog 130 vs q m (fun v m' => v = .tup [.agg ((T_remontoireref10_P.C r.1)), .list .none (r.2.map T_remontoireref10_N.C)] ∧ m' = m)

def remontoireref10_P_args_C (f : T_remontoireref10_P → Int → Option (T_remontoireref10_P × (List T_remontoireref10_N) × Int)) : Prop := ∀ (a0 : T_remontoireref10_P) (a1 : Int) (r : (T_remontoireref10_P × (List T_remontoireref10_N) × Int)), f a0 a1 = some r → ∀ (q : Pa) (m : M) (vs : List V), vs.map V.weak1 = [.agg ((T_remontoireref10_P.C a0)), .lit (.int .i64 a1)] → SC Tryd.prog 131 vs q m (fun v m' => v = .tup [.agg ((T_remontoireref10_P.C r.1)), .list .none (r.2.1.map T_remontoireref10_N.C), .lit (.int .i64 r.2.2)] ∧ m' = m)

def remontoireref10_P_operand_C (f : T_remontoireref10_P → Int → Option (T_remontoireref10_P × (List T_remontoireref10_N))) : Prop := ∀ (a0 : T_remontoireref10_P) (a1 : Int) (r : (T_remontoireref10_P × (List T_remontoireref10_N))), f a0 a1 = some r → ∀ (q : Pa) (m : M) (vs : List V), vs.map V.weak1 = [.agg ((T_remontoireref10_P.C a0)), .lit (.int .i64 a1)] → SC Tryd.prog 151 vs q m (fun v m' => v = .tup [.agg ((T_remontoireref10_P.C r.1)), .list .none (r.2.map T_remontoireref10_N.C)] ∧ m' = m)

theorem remontoireref10_P_level_b_ok {rec_remontoireref10_P_operand : T_remontoireref10_P → Int → Option (T_remontoireref10_P × (List T_remontoireref10_N))} (hrec_remontoireref10_P_operand : remontoireref10_P_operand_C rec_remontoireref10_P_operand) {rec_remontoireref10_P_level : T_remontoireref10_P → Int → Int → Option (T_remontoireref10_P × (List T_remontoireref10_N))} (hrec_remontoireref10_P_level : remontoireref10_P_level_C rec_remontoireref10_P_level) (n : Nat) : remontoireref10_P_level_C (remontoireref10_P_level_b rec_remontoireref10_P_operand rec_remontoireref10_P_level n) := by
  intro a0 a1 a2 r h q m vs hv
  refine SC.weak ?_
  rw [hv]
  refine SC_of Tryd.func130 rfl (fun xs w => Tryd.call130 xs w) Tryd.ntmps130 (by kernel_rfl) (congrArg Array.toList Tryd.results130) V.weak (fun _ _ _ => V.weak_ok) ?_
  unfold remontoireref10_P_level_b at h
  refine SW_seq ?_
  refine SW_reg fun K hK => ?_
  simp only [go_sem, Nat.reduceAdd]
  apply hK
  simp only [thenQ_normal]
  refine SW_seq ?_
  refine SW_seq ?_
  refine SW_reg fun K hK => ?_
  simp only [go_sem, ↓reduceIte, Nat.reduceEqDiff, Nat.reduceAdd]
  apply hK
  simp only [thenQ_normal]
  refine SW_if (a1 == (7 : Int)) (by simp only [go_sem, ↓reduceIte]) (fun c3 => ?_) (fun c3 => ?_)
  · replace h := ite_t c3 h
    refine SW_seq ?_
    obtain ⟨x4, h5, h⟩ := bind_some h
    refine SW_reg fun K hK => ?_
    simp only [go_sem, ↓reduceIte, Nat.reduceEqDiff, Nat.reduceAdd, c3]
    refine SC.by_ (hrec_remontoireref10_P_operand a0 a2 _ h5 _ _ _ (by simp only [go_sem])) ?_
    simp only [go_sem, ↓reduceIte, Nat.reduceEqDiff, Nat.reduceAdd]
    apply hK
    simp only [thenQ_normal]
    refine SW_ret ?_
    try simp only [thenQ_ret]
    obtain rfl := some_eq h
    refine ⟨by first | exact .inl rfl | exact .inl trivial | exact .inr rfl | exact .inr trivial, ?_⟩
    simp only [go_sem, ↓reduceIte, Nat.reduceEqDiff, Nat.reduceAdd, back_set, back_self]
  · replace h := ite_f c3 h
    refine SW_skip ?_
    try simp only [thenQ_normal]
    refine SW_seq ?_
    obtain ⟨x6, h7, h⟩ := bind_some h
    refine SW_reg fun K hK => ?_
    simp only [go_sem, ↓reduceIte, Nat.reduceEqDiff, Nat.reduceAdd, c3]
    refine SC.by_ (hrec_remontoireref10_P_level a0 (IntKind.i64.wrap (a1 + (1 : Int))) a2 _ h7 _ _ _ (by simp only [go_sem])) ?_
    simp only [go_sem, ↓reduceIte, Nat.reduceEqDiff, Nat.reduceAdd]
    apply hK
    simp only [thenQ_normal]
    refine SW_block ?_
    obtain ⟨y12, hy12, h⟩ := bind_some h
    refine SW_countW [8] [] rfl (fun c E' m' => ∃ (v9 : (List T_remontoireref10_N)), ∃ (v10 : T_remontoireref10_P), ∃ (v11 : T_remontoireref10_P), remontoireref10_P_level_l1 rec_remontoireref10_P_level n a1 a2 c v9 v10 v11 = some y12 ∧ E' 1 = .lit (.int .i64 a1) ∧ E' 2 = .lit (.int .i64 a2) ∧ E' 3 = .ptr (0 :: q) 0 ∧ E' 6 = .ptr (1 :: q) 0 ∧ E' 8 = .list .none (v9.map T_remontoireref10_N.C) ∧ m'.blk (0 :: q) = some ((T_remontoireref10_P.C v11)) ∧ m'.blk (1 :: q) = some ([.list .self (v10.L_.map T_remontoireref09_T.C), .lit (.int .i64 v10.At_), .lit (.int .i64 v10.Nodes_), .lit (.int .i64 v10.E_), .lit (.int .i64 v10.Where_)]) ∧ m'.gl = m.gl ∧ m.back q m' = m) n ⟨x6.2, (T_remontoireref10_P.mk [] (0 : Int) (0 : Int) (0 : Int) (0 : Int)), x6.1, hy12, ?_⟩ ?_
    · simp only [go_sem, ↓reduceIte, Nat.reduceEqDiff, back_set, back_self]
    rintro i8 c13 E14 m15 ⟨v9, v10, v11, hy12, e16⟩ _
    rcases c13 with _ | c13
    · exact absurd hy12 (by rw [remontoireref10_P_level_l1]; exact fun e => nomatch e)
    rw [remontoireref10_P_level_l1] at hy12
    refine SW_block ?_
    refine SW_seq ?_
    obtain ⟨x17, h18, hy12⟩ := bind_some hy12
    refine SW_reg fun K hK => ?_
    simp only [go_sem, ↓reduceIte, Nat.reduceEqDiff, Nat.reduceAdd, e16]
    refine SC.by_ (remontoireref10_P_sign_ok n v11 a1 _ h18 _ _ _ (by simp only [go_sem])) ?_
    simp only [go_sem, ↓reduceIte, Nat.reduceAdd]
    apply hK
    simp only [thenQ_normal]
    refine SW_seq ?_
    refine SW_seq ?_
    refine SW_reg fun K hK => ?_
    simp only [go_sem, ↓reduceIte, Nat.reduceAdd]
    apply hK
    simp only [thenQ_normal]
    refine SW_if (decide (x17 = ([] : Str))) (by simp only [go_sem, ↓reduceIte]) (fun c19 => ?_) (fun c19 => ?_)
    · replace hy12 := ite_t c19 hy12
      refine SW_seq ?_
      refine SW_reg fun K hK => ?_
      simp only [go_sem, ↓reduceIte, Nat.reduceEqDiff, Nat.reduceAdd, c19, e16]
      apply hK
      simp only [thenQ_normal]
      refine SW_ret ?_
      try simp only [thenQ_ret, blockQ_ret]
      obtain rfl := some_eq hy12
      obtain rfl := some_eq h
      refine ⟨by first | exact .inl rfl | exact .inl trivial | exact .inr rfl | exact .inr trivial, ?_⟩
      simp only [go_sem, ↓reduceIte, Nat.reduceEqDiff, Nat.reduceAdd, back_set, e16]
    · replace hy12 := ite_f c19 hy12
      refine SW_skip ?_
      try simp only [thenQ_normal]
      refine SW_seq ?_
      obtain ⟨x20, h23, hy12⟩ := bind_some hy12
      refine SW_reg fun K hK => ?_
      simp only [go_sem, ↓reduceIte, Nat.reduceEqDiff, Nat.reduceAdd, c19, e16]
      refine SC.by_ (remontoireref10_P_node_ok v11 (19 : Int) _ h23 _ _ _ (by simp only [go_sem])) ?_
      simp only [go_sem, ↓reduceIte, Nat.reduceEqDiff, Nat.reduceAdd]
      apply hK
      simp only [thenQ_normal]
      refine SW_seq ?_
      refine SW_reg fun K hK => ?_
      simp only [go_sem, ↓reduceIte, Nat.reduceEqDiff, Nat.reduceAdd, Nat.reduceLeDiff]
      apply hK
      simp only [thenQ_normal]
      refine SW_seq ?_
      refine SW_reg fun K hK => ?_
      simp only [go_sem, ↓reduceIte, Nat.reduceEqDiff, Nat.reduceAdd]
      apply hK
      simp only [thenQ_normal]
      refine SW_seq ?_
      obtain ⟨x24, h26, hy12⟩ := bind_some hy12
      obtain ⟨x25, h27, hy12⟩ := bind_some hy12
      refine SW_reg fun K hK => ?_
      simp only [go_sem, ↓reduceIte, Nat.reduceEqDiff, Nat.reduceAdd]
      refine SC.by_ (remontoireref10_P_need_ok n x20.1 x17 _ h26 _ _ _ (by simp only [go_sem])) ?_
      simp only [go_sem, ↓reduceIte, Nat.reduceEqDiff, Nat.reduceAdd, e16]
      refine SC.by_ (hrec_remontoireref10_P_level x24 (IntKind.i64.wrap (a1 + (1 : Int))) a2 _ h27 _ _ _ (by simp only [go_sem])) ?_
      simp only [go_sem, ↓reduceIte, Nat.reduceEqDiff, Nat.reduceAdd]
      apply hK
      simp only [thenQ_normal]
      refine SW_seq ?_
      refine SW_reg fun K hK => ?_
      simp only [go_sem, ↓reduceIte, Nat.reduceEqDiff, Nat.reduceAdd, reduceCtorEq, e16]
      apply hK
      simp only [thenQ_normal]
      refine SW_seq ?_
      obtain ⟨f28, hy12⟩ := need_some hy12
      have f29 : 1 + v9.length ≤ 1073741824 := by first | omega | (simp only [List.length_append, List.length_cons, List.length_nil] at f28 ⊢; omega)
      obtain ⟨f30, hy12⟩ := need_some hy12
      have f31 : v9.length + 1 + x25.2.length ≤ 1073741824 := by first | omega | (simp only [List.length_append, List.length_cons, List.length_nil] at f30 ⊢; omega)
      refine SW_reg fun K hK => ?_
      simp only [go_sem, ↓reduceIte, Nat.reduceEqDiff, Nat.reduceAdd, Nat.reduceLT, Nat.reduceLeDiff, reduceCtorEq, f29, f31, e16]
      apply hK
      simp only [thenQ_normal]
      refine SW_seq ?_
      refine SW_reg fun K hK => ?_
      simp only [go_sem, ↓reduceIte, Nat.reduceEqDiff, Nat.reduceAdd, e16]
      apply hK
      simp only [thenQ_normal]
      refine SW_if (a1 == (3 : Int)) (by simp only [go_sem, ↓reduceIte]) (fun c32 => ?_) (fun c32 => ?_)
      · replace hy12 := ite_t c32 hy12
        refine SW_seq ?_
        refine SW_reg fun K hK => ?_
        simp only [go_sem, ↓reduceIte, Nat.reduceEqDiff, Nat.reduceAdd, c32, e16]
        apply hK
        simp only [thenQ_normal]
        refine SW_ret ?_
        try simp only [thenQ_ret, blockQ_ret]
        obtain rfl := some_eq hy12
        obtain rfl := some_eq h
        refine ⟨by first | exact .inl rfl | exact .inl trivial | exact .inr rfl | exact .inr trivial, ?_⟩
        simp only [go_sem, ↓reduceIte, Nat.reduceEqDiff, Nat.reduceAdd, back_set, back_tokset, e16]
      · replace hy12 := ite_f c32 hy12
        refine SW_skip ?_
        try simp only [thenQ_normal, blockQ_normal]
        refine ⟨c13, Nat.lt_succ_self _, (([({ x20.2 with Text_ := x17, Kids_ := (2 : Int) } : T_remontoireref10_N)] ++ v9) ++ x25.2), v10, x25.1, hy12, ?_⟩
        simp only [go_sem, ↓reduceIte, Nat.reduceEqDiff, back_set, back_tokset, c32, e16]

theorem remontoireref10_P_args_b_ok {rec_remontoireref10_P_level : T_remontoireref10_P → Int → Int → Option (T_remontoireref10_P × (List T_remontoireref10_N))} (hrec_remontoireref10_P_level : remontoireref10_P_level_C rec_remontoireref10_P_level) (n : Nat) : remontoireref10_P_args_C (remontoireref10_P_args_b rec_remontoireref10_P_level n) := by
  intro a0 a1 r h q m vs hv
  refine SC.weak ?_
  rw [hv]
  refine SC_of Tryd.func131 rfl (fun xs w => Tryd.call131 xs w) Tryd.ntmps131 (by kernel_rfl) (congrArg Array.toList Tryd.results131) V.weak (fun _ _ _ => V.weak_ok) ?_
  unfold remontoireref10_P_args_b at h
  refine SW_seq ?_
  refine SW_reg fun K hK => ?_
  simp only [go_sem, Nat.reduceAdd]
  apply hK
  simp only [thenQ_normal]
  refine SW_seq ?_
  refine SW_reg fun K hK => ?_
  simp only [go_sem, Nat.reduceAdd]
  apply hK
  simp only [thenQ_normal]
  refine SW_seq ?_
  obtain ⟨x3, h4, h⟩ := bind_some h
  refine SW_reg fun K hK => ?_
  simp only [go_sem, ↓reduceIte, Nat.reduceEqDiff, Nat.reduceAdd]
  refine SC.by_ (remontoireref10_P_need_ok n a0 ([40] : Str) _ h4 _ _ _ (by simp only [go_sem])) ?_
  simp only [go_sem, ↓reduceIte, Nat.reduceEqDiff, Nat.reduceAdd]
  apply hK
  simp only [thenQ_normal]
  refine SW_seq ?_
  obtain ⟨x5, h7, h⟩ := bind_some h
  refine SW_reg fun K hK => ?_
  simp only [go_sem, ↓reduceIte, Nat.reduceEqDiff, Nat.reduceAdd]
  refine SC.by_ (remontoireref10_P_take_ok n x3 ([41] : Str) _ h7 _ _ _ (by simp only [go_sem])) ?_
  simp only [go_sem, ↓reduceIte, Nat.reduceEqDiff, Nat.reduceAdd]
  apply hK
  simp only [thenQ_normal]
  refine SW_seq ?_
  refine SW_seq ?_
  refine SW_reg fun K hK => ?_
  simp only [go_sem, ↓reduceIte, Nat.reduceAdd]
  apply hK
  simp only [thenQ_normal]
  refine SW_if x5.2 (by simp only [go_sem, ↓reduceIte]) (fun c8 => ?_) (fun c8 => ?_)
  · replace h := ite_t c8 h
    refine SW_seq ?_
    refine SW_reg fun K hK => ?_
    simp only [go_sem, ↓reduceIte, Nat.reduceEqDiff, Nat.reduceAdd, c8]
    apply hK
    simp only [thenQ_normal]
    refine SW_ret ?_
    try simp only [thenQ_ret]
    obtain rfl := some_eq h
    refine ⟨by first | exact .inl rfl | exact .inl trivial | exact .inr rfl | exact .inr trivial, ?_⟩
    simp only [go_sem, ↓reduceIte, Nat.reduceEqDiff, Nat.reduceAdd, back_set, back_self]
  · replace h := ite_f c8 h
    refine SW_skip ?_
    try simp only [thenQ_normal]
    refine SW_seq ?_
    refine SW_reg fun K hK => ?_
    simp only [go_sem, Nat.reduceAdd, c8]
    apply hK
    simp only [thenQ_normal]
    refine SW_seq ?_
    obtain ⟨y9, hy9, h⟩ := bind_some h
    refine SW_joinK 20 [] [] rfl (fun E' m' => ∃ (oy9_7 : Pa) (jy9_7 : Nat), E' 2 = .ptr (0 :: q) 0 ∧ E' 4 = .ptr (1 :: q) 0 ∧ E' 7 = .list (.st (.anon oy9_7 jy9_7)) (y9.1.map T_remontoireref10_N.C) ∧ m'.tok oy9_7 jy9_7 = true ∧ q <:+ oy9_7 ∧ E' 10 = .lit (.int .i64 y9.2.1) ∧ m'.blk (0 :: q) = some ((T_remontoireref10_P.C y9.2.2)) ∧ m'.blk (1 :: q) = some ([.list .self ([].map T_remontoireref09_T.C), .lit (.int .i64 (0 : Int)), .lit (.int .i64 (0 : Int)), .lit (.int .i64 (0 : Int)), .lit (.int .i64 (0 : Int))]) ∧ m'.gl = m.gl ∧ m.back q m' = m) ?_ ?_
    · refine SW_block ?_
      obtain ⟨y14, hy14, hy9⟩ := bind_some hy9
      refine SW_stamp 7 ([].map T_remontoireref10_N.C) rfl (by simp only [go_sem, ↓reduceIte, Nat.reduceEqDiff]) ?_
      refine SW_countW [] [] rfl (fun c E' m' => ∃ (v11 : (List T_remontoireref10_N)), ∃ (v12 : Int), ∃ (v13 : T_remontoireref10_P), ∃ (o_v11 : Pa) (j_v11 : Nat), remontoireref10_P_args_l1 rec_remontoireref10_P_level n a1 c v11 v12 v13 = some y14 ∧ E' 1 = .lit (.int .i64 a1) ∧ E' 2 = .ptr (0 :: q) 0 ∧ E' 4 = .ptr (1 :: q) 0 ∧ E' 7 = .list (.st (.anon o_v11 j_v11)) (v11.map T_remontoireref10_N.C) ∧ m'.tok o_v11 j_v11 = true ∧ q <:+ o_v11 ∧ E' 10 = .lit (.int .i64 v12) ∧ m'.blk (0 :: q) = some ((T_remontoireref10_P.C v13)) ∧ m'.blk (1 :: q) = some ([.list .self ([].map T_remontoireref09_T.C), .lit (.int .i64 (0 : Int)), .lit (.int .i64 (0 : Int)), .lit (.int .i64 (0 : Int)), .lit (.int .i64 (0 : Int))]) ∧ m'.gl = m.gl ∧ m.back q m' = m) n ⟨[], (0 : Int), x3, (18 :: q), 0, hy14, ?_⟩ ?_
      · simp only [go_sem, ↓reduceIte, Nat.reduceEqDiff, reduceCtorEq, back_set, back_tokset, back_self]
      rintro i10 c15 E16 m17 ⟨v11, v12, v13, o_v11, j_v11, hy14, e18⟩ _
      rcases c15 with _ | c15
      · exact absurd hy14 (by rw [remontoireref10_P_args_l1]; exact fun e => nomatch e)
      rw [remontoireref10_P_args_l1] at hy14
      refine SW_seq ?_
      refine SW_seq ?_
      refine SW_reg fun K hK => ?_
      simp only [go_sem, ↓reduceIte, Nat.reduceAdd, e18]
      apply hK
      simp only [thenQ_normal]
      refine SW_if (v13.E_ == (0 : Int)) (by simp only [go_sem, ↓reduceIte]) (fun c19 => ?_) (fun c19 => ?_)
      · replace hy14 := ite_t c19 hy14
        refine SW_skip ?_
        try simp only [thenQ_normal]
        refine SW_block ?_
        refine SW_seq ?_
        obtain ⟨x20, h22, hy14⟩ := bind_some hy14
        refine SW_reg fun K hK => ?_
        simp only [go_sem, ↓reduceIte, Nat.reduceEqDiff, Nat.reduceAdd, c19, e18]
        refine SC.by_ (hrec_remontoireref10_P_level v13 (0 : Int) a1 _ h22 _ _ _ (by simp only [go_sem])) ?_
        simp only [go_sem, ↓reduceIte, Nat.reduceEqDiff, Nat.reduceAdd]
        apply hK
        simp only [thenQ_normal]
        refine SW_seq ?_
        refine SW_reg fun K hK => ?_
        simp only [go_sem, ↓reduceIte, Nat.reduceEqDiff, Nat.reduceAdd, reduceCtorEq, e18]
        apply hK
        simp only [thenQ_normal]
        refine SW_seq ?_
        obtain ⟨f23, hy14⟩ := need_some hy14
        have f24 : v11.length + x20.2.length ≤ 1073741824 := by first | omega | (simp only [List.length_append, List.length_cons, List.length_nil] at f23 ⊢; omega)
        refine SW_reg fun K hK => ?_
        simp only [go_sem, ↓reduceIte, Nat.reduceEqDiff, Nat.reduceAdd, Nat.reduceLT, Nat.reduceLeDiff, f23, e18]
        apply hK
        simp only [thenQ_normal]
        refine SW_seq ?_
        refine SW_reg fun K hK => ?_
        simp only [go_sem, ↓reduceIte, Nat.reduceEqDiff, Nat.reduceAdd, e18]
        apply hK
        simp only [thenQ_normal]
        refine SW_seq ?_
        obtain ⟨x25, h26, hy14⟩ := bind_some hy14
        refine SW_reg fun K hK => ?_
        simp only [go_sem, ↓reduceIte, Nat.reduceEqDiff, Nat.reduceAdd, e18]
        refine SC.by_ (remontoireref10_P_take_ok n x20.1 ([44] : Str) _ h26 _ _ _ (by simp only [go_sem])) ?_
        simp only [go_sem, ↓reduceIte, Nat.reduceEqDiff, Nat.reduceAdd, e18]
        apply hK
        simp only [thenQ_normal]
        refine SW_seq ?_
        refine SW_reg fun K hK => ?_
        simp only [go_sem, ↓reduceIte, Nat.reduceAdd]
        apply hK
        simp only [thenQ_normal]
        refine SW_if (!x25.2) (by simp only [go_sem, ↓reduceIte]) (fun c27 => ?_) (fun c27 => ?_)
        · replace hy14 := ite_t c27 hy14
          refine SW_exit ?_
          try simp only [thenQ_exit, blockQ_exit, ↓reduceIte, Nat.reduceEqDiff, thenQ_normal]
          obtain rfl := some_eq hy14
          obtain rfl := some_eq hy9
          refine ⟨by decide, (16 :: i10 :: 19 :: q), 0, ?_⟩
          simp only [go_sem, ↓reduceIte, Nat.reduceEqDiff, back_set, back_tokset, c27, e18]
        · replace hy14 := ite_f c27 hy14
          refine SW_skip ?_
          try simp only [thenQ_normal, blockQ_normal]
          refine ⟨c15, Nat.lt_succ_self _, (v11 ++ x20.2), (IntKind.i64.wrap (v12 + (1 : Int))), x25.1, (16 :: i10 :: 19 :: q), 0, hy14, ?_⟩
          simp only [go_sem, ↓reduceIte, Nat.reduceEqDiff, back_set, back_tokset, c27, e18]
      · replace hy14 := ite_f c19 hy14
        refine SW_exit ?_
        try simp only [thenQ_exit, blockQ_exit, ↓reduceIte, thenQ_normal]
        obtain rfl := some_eq hy14
        obtain rfl := some_eq hy9
        refine ⟨by decide, o_v11, j_v11, ?_⟩
        simp only [go_sem, ↓reduceIte, Nat.reduceEqDiff, c19, e18]
    · rintro E28 m29 ⟨oy9_7, jy9_7, e30⟩ _
      simp only [thenQ_normal]
      refine SW_seq ?_
      obtain ⟨x31, h32, h⟩ := bind_some h
      refine SW_reg fun K hK => ?_
      simp only [go_sem, ↓reduceIte, Nat.reduceAdd, e30]
      refine SC.by_ (remontoireref10_P_need_ok n y9.2.2 ([41] : Str) _ h32 _ _ _ (by simp only [go_sem])) ?_
      simp only [go_sem, ↓reduceIte, Nat.reduceEqDiff, Nat.reduceAdd, e30]
      apply hK
      simp only [thenQ_normal]
      refine SW_ret ?_
      try simp only []
      obtain rfl := some_eq h
      refine ⟨by first | exact .inl rfl | exact .inl trivial | exact .inr rfl | exact .inr trivial, ?_⟩
      simp only [go_sem, ↓reduceIte, Nat.reduceEqDiff, Nat.reduceAdd, back_set, e30]

theorem remontoireref10_P_operand_b_ok {rec_remontoireref10_P_level : T_remontoireref10_P → Int → Int → Option (T_remontoireref10_P × (List T_remontoireref10_N))} (hrec_remontoireref10_P_level : remontoireref10_P_level_C rec_remontoireref10_P_level) {rec_remontoireref10_P_operand : T_remontoireref10_P → Int → Option (T_remontoireref10_P × (List T_remontoireref10_N))} (hrec_remontoireref10_P_operand : remontoireref10_P_operand_C rec_remontoireref10_P_operand) {rec_remontoireref10_P_args : T_remontoireref10_P → Int → Option (T_remontoireref10_P × (List T_remontoireref10_N) × Int)} (hrec_remontoireref10_P_args : remontoireref10_P_args_C rec_remontoireref10_P_args) (n : Nat) : remontoireref10_P_operand_C (remontoireref10_P_operand_b rec_remontoireref10_P_level rec_remontoireref10_P_operand rec_remontoireref10_P_args n) := by
  intro a0 a1 r h q m vs hv
  refine SC.weak ?_
  rw [hv]
  refine SC_of Tryd.func151 rfl (fun xs w => Tryd.call151 xs w) Tryd.ntmps151 (by kernel_rfl) (congrArg Array.toList Tryd.results151) V.weak (fun _ _ _ => V.weak_ok) ?_
  unfold remontoireref10_P_operand_b at h
  refine SW_seq ?_
  refine SW_reg fun K hK => ?_
  simp only [go_sem, Nat.reduceAdd]
  apply hK
  simp only [thenQ_normal]
  refine SW_seq ?_
  refine SW_seq ?_
  refine SW_reg fun K hK => ?_
  simp only [go_sem, ↓reduceIte, Nat.reduceEqDiff, Nat.reduceAdd]
  apply hK
  simp only [thenQ_normal]
  refine SW_if (decide ((64 : Int) < a1)) (by simp only [go_sem, ↓reduceIte]) (fun c3 => ?_) (fun c3 => ?_)
  · replace h := ite_t c3 h
    obtain ⟨x4, h5, h⟩ := bind_some h
    refine SW_reg fun K hK => ?_
    simp only [go_sem, ↓reduceIte, Nat.reduceEqDiff, Nat.reduceAdd, c3]
    refine SC.by_ (remontoireref10_P_fail_ok a0 (111 : Int) _ h5 _ _ _ (by simp only [go_sem])) ?_
    simp only [go_sem, ↓reduceIte, Nat.reduceEqDiff, Nat.reduceAdd]
    apply hK
    simp only [thenQ_normal]
    refine SW_seq ?_
    obtain ⟨x6, h8, h⟩ := bind_some h
    refine SW_reg fun K hK => ?_
    simp only [go_sem, ↓reduceIte, Nat.reduceEqDiff, Nat.reduceAdd]
    refine SC.by_ (remontoireref10_P_take_ok n x4 ([40] : Str) _ h8 _ _ _ (by simp only [go_sem])) ?_
    simp only [go_sem, ↓reduceIte, Nat.reduceEqDiff, Nat.reduceAdd]
    apply hK
    simp only [thenQ_normal]
    refine SW_seq ?_
    refine SW_seq ?_
    refine SW_reg fun K hK => ?_
    simp only [go_sem, ↓reduceIte, Nat.reduceAdd]
    apply hK
    simp only [thenQ_normal]
    refine SW_if x6.2 (by simp only [go_sem, ↓reduceIte]) (fun c9 => ?_) (fun c9 => ?_)
    · replace h := ite_t c9 h
      refine SW_seq ?_
      obtain ⟨x10, h12, h⟩ := bind_some h
      refine SW_reg fun K hK => ?_
      simp only [go_sem, ↓reduceIte, Nat.reduceEqDiff, Nat.reduceAdd, c9]
      refine SC.by_ (hrec_remontoireref10_P_level x6.1 (0 : Int) (IntKind.i64.wrap (a1 + (1 : Int))) _ h12 _ _ _ (by simp only [go_sem])) ?_
      simp only [go_sem, ↓reduceIte, Nat.reduceEqDiff, Nat.reduceAdd]
      apply hK
      simp only [thenQ_normal]
      refine SW_seq ?_
      obtain ⟨x13, h14, h⟩ := bind_some h
      refine SW_reg fun K hK => ?_
      simp only [go_sem, ↓reduceIte, Nat.reduceEqDiff, Nat.reduceAdd]
      refine SC.by_ (remontoireref10_P_need_ok n x10.1 ([41] : Str) _ h14 _ _ _ (by simp only [go_sem])) ?_
      simp only [go_sem, ↓reduceIte, Nat.reduceEqDiff, Nat.reduceAdd]
      apply hK
      simp only [thenQ_normal]
      refine SW_ret ?_
      try simp only [thenQ_ret]
      obtain rfl := some_eq h
      refine ⟨by first | exact .inl rfl | exact .inl trivial | exact .inr rfl | exact .inr trivial, ?_⟩
      simp only [go_sem, ↓reduceIte, Nat.reduceEqDiff, Nat.reduceAdd, back_set, back_self]
    · replace h := ite_f c9 h
      refine SW_skip ?_
      try simp only [thenQ_normal]
      refine SW_seq ?_
      obtain ⟨x15, h17, h⟩ := bind_some h
      refine SW_reg fun K hK => ?_
      simp only [go_sem, ↓reduceIte, Nat.reduceEqDiff, Nat.reduceAdd, reduceCtorEq, c9]
      refine SC.by_ (remontoireref10_P_node_ok x4 (15 : Int) _ h17 _ _ _ (by simp only [go_sem])) ?_
      simp only [go_sem, ↓reduceIte, Nat.reduceEqDiff, Nat.reduceAdd, reduceCtorEq]
      apply hK
      simp only [thenQ_normal]
      refine SW_seq ?_
      refine SW_seq ?_
      obtain ⟨y18, hy18, h⟩ := bind_some h
      refine SW_joinK 31 [] [] rfl (fun E' m' => E' 1 = .lit (.int .i64 a1) ∧ E' 2 = .ptr (0 :: q) 0 ∧ E' 4 = .ptr (1 :: q) 0 ∧ E' 6 = .ptr (13 :: q) 0 ∧ E' 10 = .ptr (22 :: q) 0 ∧ E' 47 = .lit (.bool y18) ∧ m'.blk (22 :: q) = some ((T_remontoireref10_N.C x15.2)) ∧ m'.blk (0 :: q) = some ((T_remontoireref10_P.C x15.1)) ∧ m'.blk (1 :: q) = some ([.list .self ([].map T_remontoireref09_T.C), .lit (.int .i64 (0 : Int)), .lit (.int .i64 (0 : Int)), .lit (.int .i64 (0 : Int)), .lit (.int .i64 (0 : Int))]) ∧ m'.blk (13 :: q) = some ((T_remontoireref10_P.C x6.1)) ∧ m'.gl = m.gl ∧ m.back q m' = m) ?_ ?_
      · obtain ⟨x19, h20, hy18⟩ := bind_some hy18
        rcases bool_or x19 with c21 | c21
        · replace hy18 := ite_t c21 hy18
          refine SW_reg fun K hK => ?_
          simp only [go_sem, ↓reduceIte, Nat.reduceEqDiff, Nat.reduceAdd, reduceCtorEq]
          refine SC.by_ (remontoireref10_P_is_ok n x15.1 ([126] : Str) _ h20 _ _ _ (by simp only [go_sem])) ?_
          simp only [go_sem, ↓reduceIte, Nat.reduceEqDiff, Nat.reduceAdd, c21]
          apply hK
          simp only [thenQ_normal]
          obtain rfl := some_eq hy18
          refine ⟨by decide, ?_⟩
          simp only [go_sem, ↓reduceIte, Nat.reduceEqDiff, reduceCtorEq, back_set, back_self]
        · replace hy18 := ite_f c21 hy18
          obtain ⟨x22, h23, hy18⟩ := bind_some hy18
          refine SW_reg fun K hK => ?_
          simp only [go_sem, ↓reduceIte, Nat.reduceEqDiff, Nat.reduceAdd, reduceCtorEq]
          refine SC.by_ (remontoireref10_P_is_ok n x15.1 ([126] : Str) _ h20 _ _ _ (by simp only [go_sem])) ?_
          simp only [go_sem, ↓reduceIte, Nat.reduceEqDiff, Nat.reduceAdd, reduceCtorEq, c21]
          refine SC.by_ (remontoireref10_P_is_ok n x15.1 ([45] : Str) _ h23 _ _ _ (by simp only [go_sem])) ?_
          simp only [go_sem, ↓reduceIte, Nat.reduceEqDiff, Nat.reduceAdd]
          apply hK
          simp only [thenQ_normal]
          obtain rfl := some_eq hy18
          refine ⟨by decide, ?_⟩
          simp only [go_sem, ↓reduceIte, Nat.reduceEqDiff, reduceCtorEq, back_set, back_self]
      · intro E24 m25 e26 _
        simp only [thenQ_normal]
        refine SW_if y18 (by simp only [go_sem, e26]) (fun c27 => ?_) (fun c27 => ?_)
        · replace h := ite_t c27 h
          refine SW_seq ?_
          refine SW_reg fun K hK => ?_
          simp only [go_sem, ↓reduceIte, Nat.reduceAdd, Nat.reduceLeDiff, e26]
          apply hK
          simp only [thenQ_normal]
          refine SW_seq ?_
          obtain ⟨x28, h32, h⟩ := bind_some h
          obtain ⟨f29, f30, f31⟩ := idxL_some h32
          refine SW_reg fun K hK => ?_
          simp only [go_sem, ↓reduceIte, Nat.reduceEqDiff, Nat.reduceAdd, Nat.reduceLeDiff, reduceCtorEq, f29, f30, f31, e26]
          apply hK
          simp only [thenQ_normal]
          refine SW_seq ?_
          refine SW_reg fun K hK => ?_
          simp only [go_sem, ↓reduceIte, Nat.reduceEqDiff, Nat.reduceAdd, e26]
          apply hK
          simp only [thenQ_normal]
          refine SW_seq ?_
          refine SW_reg fun K hK => ?_
          simp only [go_sem, ↓reduceIte, Nat.reduceEqDiff, Nat.reduceAdd, Nat.reduceLeDiff, reduceCtorEq, e26]
          apply hK
          simp only [thenQ_normal]
          refine SW_seq ?_
          obtain ⟨x33, h35, h⟩ := bind_some h
          refine SW_reg fun K hK => ?_
          simp only [go_sem, ↓reduceIte, Nat.reduceEqDiff, Nat.reduceAdd, e26]
          refine SC.by_ (hrec_remontoireref10_P_operand ({ x15.1 with At_ := (IntKind.i64.wrap (x15.1.At_ + (1 : Int))) } : T_remontoireref10_P) (IntKind.i64.wrap (a1 + (1 : Int))) _ h35 _ _ _ (by simp only [go_sem])) ?_
          simp only [go_sem, ↓reduceIte, Nat.reduceEqDiff, Nat.reduceAdd]
          apply hK
          simp only [thenQ_normal]
          refine SW_seq ?_
          obtain ⟨f36, h⟩ := need_some h
          have f37 : 1 + x33.2.length ≤ 1073741824 := by first | omega | (simp only [List.length_append, List.length_cons, List.length_nil] at f36 ⊢; omega)
          refine SW_drawK (tbl := [0, 0, 2, 0, 14, 31, 63]) (ord := [(1, 0), (2, 0), (3, 0), (4, 0), (0, 1), (5, 0), (6, 0)]) 66 rfl (by kernel_rfl) (by kernel_rfl) fun K hK => ?_
          simp only [go_sem, ↓reduceIte, Nat.reduceEqDiff, Nat.reduceAdd, Nat.reduceLT, Nat.reduceLeDiff, reduceCtorEq, f37, e26]
          apply hK
          simp only [thenQ_normal]
          refine SW_ret ?_
          try simp only [thenQ_ret]
          obtain rfl := some_eq h
          refine ⟨by first | exact .inl rfl | exact .inl trivial | exact .inr rfl | exact .inr trivial, ?_⟩
          simp only [go_sem, ↓reduceIte, Nat.reduceEqDiff, Nat.reduceAdd, back_set, back_tokset, e26]
        · replace h := ite_f c27 h
          refine SW_skip ?_
          try simp only [thenQ_normal]
          refine SW_seq ?_
          refine SW_seq ?_
          obtain ⟨y38, hy38, h⟩ := bind_some h
          refine SW_joinK 44 [] [] rfl (fun E' m' => E' 1 = .lit (.int .i64 a1) ∧ E' 2 = .ptr (0 :: q) 0 ∧ E' 4 = .ptr (1 :: q) 0 ∧ E' 6 = .ptr (13 :: q) 0 ∧ E' 10 = .ptr (22 :: q) 0 ∧ E' 86 = .lit (.bool y38) ∧ m'.blk (22 :: q) = some ((T_remontoireref10_N.C x15.2)) ∧ m'.blk (0 :: q) = some ((T_remontoireref10_P.C x15.1)) ∧ m'.blk (1 :: q) = some ([.list .self ([].map T_remontoireref09_T.C), .lit (.int .i64 (0 : Int)), .lit (.int .i64 (0 : Int)), .lit (.int .i64 (0 : Int)), .lit (.int .i64 (0 : Int))]) ∧ m'.blk (13 :: q) = some ((T_remontoireref10_P.C x6.1)) ∧ m'.gl = m.gl ∧ m.back q m' = m) ?_ ?_
          · rcases bool_or (x15.1.E_ == (0 : Int)) with c39 | c39
            · replace hy38 := ite_t c39 hy38
              obtain ⟨x40, h44, hy38⟩ := bind_some hy38
              obtain ⟨f41, f42, f43⟩ := idxL_some h44
              refine SW_reg fun K hK => ?_
              simp only [go_sem, ↓reduceIte, Nat.reduceEqDiff, Nat.reduceAdd, c39, f41, f42, f43, e26]
              apply hK
              simp only [thenQ_normal]
              obtain rfl := some_eq hy38
              refine ⟨by decide, ?_⟩
              simp only [go_sem, ↓reduceIte, Nat.reduceEqDiff, e26]
            · replace hy38 := ite_f c39 hy38
              refine SW_reg fun K hK => ?_
              simp only [go_sem, ↓reduceIte, Nat.reduceEqDiff, Nat.reduceAdd, c39, e26]
              apply hK
              simp only [thenQ_normal]
              obtain rfl := some_eq hy38
              refine ⟨by decide, ?_⟩
              simp only [go_sem, ↓reduceIte, Nat.reduceEqDiff, e26]
          · intro E45 m46 e47 _
            simp only [thenQ_normal]
            refine SW_if y38 (by simp only [go_sem, e47]) (fun c48 => ?_) (fun c48 => ?_)
            · replace h := ite_t c48 h
              refine SW_seq ?_
              refine SW_reg fun K hK => ?_
              simp only [go_sem, ↓reduceIte, Nat.reduceAdd, Nat.reduceLeDiff, e47]
              apply hK
              simp only [thenQ_normal]
              refine SW_seq ?_
              obtain ⟨x49, h50, h⟩ := bind_some h
              refine SW_reg fun K hK => ?_
              simp only [go_sem, ↓reduceIte, Nat.reduceEqDiff, Nat.reduceAdd, reduceCtorEq, e47]
              refine SC.by_ (remontoireref10_P_number_ok x15.1 _ h50 _ _ _ (by simp only [go_sem])) ?_
              simp only [go_sem, ↓reduceIte, Nat.reduceEqDiff, Nat.reduceAdd, Nat.reduceLeDiff, reduceCtorEq, e47]
              apply hK
              simp only [thenQ_normal]
              refine SW_seq ?_
              refine SW_drawK (tbl := [0, 0, 2, 1, 15]) (ord := [(0, 0), (3, 0), (1, 1), (2, 0), (4, 0)]) 59 rfl (by kernel_rfl) (by kernel_rfl) fun K hK => ?_
              simp only [go_sem, ↓reduceIte, Nat.reduceEqDiff, Nat.reduceAdd, Nat.reduceLT, Nat.reduceLeDiff, reduceCtorEq, e47]
              apply hK
              simp only [thenQ_normal]
              refine SW_ret ?_
              try simp only [thenQ_ret]
              obtain rfl := some_eq h
              refine ⟨by first | exact .inl rfl | exact .inl trivial | exact .inr rfl | exact .inr trivial, ?_⟩
              simp only [go_sem, ↓reduceIte, Nat.reduceEqDiff, Nat.reduceAdd, back_set, e47]
            · replace h := ite_f c48 h
              refine SW_skip ?_
              try simp only [thenQ_normal]
              refine SW_seq ?_
              obtain ⟨x51, h52, h⟩ := bind_some h
              refine SW_reg fun K hK => ?_
              simp only [go_sem, ↓reduceIte, Nat.reduceAdd, e47]
              refine SC.by_ (remontoireref10_P_name_ok n x15.1 _ h52 _ _ _ (by simp only [go_sem])) ?_
              simp only [go_sem, ↓reduceIte, Nat.reduceEqDiff, Nat.reduceAdd, Nat.reduceLeDiff, reduceCtorEq, e47]
              apply hK
              simp only [thenQ_normal]
              refine SW_seq ?_
              refine SW_seq ?_
              obtain ⟨x53, h54, h⟩ := bind_some h
              refine SW_reg fun K hK => ?_
              simp only [go_sem, ↓reduceIte, Nat.reduceEqDiff, Nat.reduceAdd, reduceCtorEq, e47]
              refine SC.by_ (remontoireref10_P_is_ok n x51.1 ([40] : Str) _ h54 _ _ _ (by simp only [go_sem])) ?_
              simp only [go_sem, Nat.reduceAdd]
              apply hK
              simp only [thenQ_normal]
              refine SW_if x53 (by simp only [go_sem, ↓reduceIte]) (fun c55 => ?_) (fun c55 => ?_)
              · replace h := ite_t c55 h
                refine SW_seq ?_
                refine SW_reg fun K hK => ?_
                simp only [go_sem, ↓reduceIte, Nat.reduceEqDiff, Nat.reduceAdd, Nat.reduceLeDiff, c55, e47]
                apply hK
                simp only [thenQ_normal]
                refine SW_seq ?_
                obtain ⟨x56, h58, h⟩ := bind_some h
                refine SW_reg fun K hK => ?_
                simp only [go_sem, ↓reduceIte, Nat.reduceEqDiff, Nat.reduceAdd, reduceCtorEq, e47]
                refine SC.by_ (hrec_remontoireref10_P_args x51.1 (IntKind.i64.wrap (a1 + (1 : Int))) _ h58 _ _ _ (by simp only [go_sem])) ?_
                simp only [go_sem, ↓reduceIte, Nat.reduceEqDiff, Nat.reduceAdd]
                apply hK
                simp only [thenQ_normal]
                refine SW_seq ?_
                refine SW_reg fun K hK => ?_
                simp only [go_sem, ↓reduceIte, Nat.reduceEqDiff, Nat.reduceAdd, e47]
                apply hK
                simp only [thenQ_normal]
                refine SW_seq ?_
                obtain ⟨f59, h⟩ := need_some h
                have f60 : 1 + x56.2.1.length ≤ 1073741824 := by first | omega | (simp only [List.length_append, List.length_cons, List.length_nil] at f59 ⊢; omega)
                refine SW_drawK (tbl := [0, 0, 2, 0, 14, 31, 63]) (ord := [(1, 0), (2, 0), (3, 0), (4, 0), (0, 1), (5, 0), (6, 0)]) 78 rfl (by kernel_rfl) (by kernel_rfl) fun K hK => ?_
                simp only [go_sem, ↓reduceIte, Nat.reduceEqDiff, Nat.reduceAdd, Nat.reduceLT, Nat.reduceLeDiff, f60, e47]
                apply hK
                simp only [thenQ_normal]
                refine SW_ret ?_
                try simp only [thenQ_ret]
                obtain rfl := some_eq h
                refine ⟨by first | exact .inl rfl | exact .inl trivial | exact .inr rfl | exact .inr trivial, ?_⟩
                simp only [go_sem, ↓reduceIte, Nat.reduceEqDiff, Nat.reduceAdd, back_set, back_tokset, e47]
              · replace h := ite_f c55 h
                refine SW_skip ?_
                try simp only [thenQ_normal]
                refine SW_seq ?_
                obtain ⟨x61, h62, h⟩ := bind_some h
                refine SW_reg fun K hK => ?_
                simp only [go_sem, ↓reduceIte, Nat.reduceEqDiff, Nat.reduceAdd, reduceCtorEq, c55, e47]
                refine SC.by_ (remontoireref10_P_take_ok n x51.1 ([91] : Str) _ h62 _ _ _ (by simp only [go_sem])) ?_
                simp only [go_sem, ↓reduceIte, Nat.reduceEqDiff, Nat.reduceAdd, reduceCtorEq, e47]
                apply hK
                simp only [thenQ_normal]
                refine SW_seq ?_
                refine SW_seq ?_
                refine SW_reg fun K hK => ?_
                simp only [go_sem, ↓reduceIte, Nat.reduceAdd]
                apply hK
                simp only [thenQ_normal]
                refine SW_if (!x61.2) (by simp only [go_sem, ↓reduceIte]) (fun c63 => ?_) (fun c63 => ?_)
                · replace h := ite_t c63 h
                  refine SW_seq ?_
                  refine SW_drawK (tbl := [0, 0, 2, 1, 15]) (ord := [(0, 0), (3, 0), (1, 1), (2, 0), (4, 0)]) 68 rfl (by kernel_rfl) (by kernel_rfl) fun K hK => ?_
                  simp only [go_sem, ↓reduceIte, Nat.reduceEqDiff, Nat.reduceAdd, Nat.reduceLT, Nat.reduceLeDiff, reduceCtorEq, c63, e47]
                  apply hK
                  simp only [thenQ_normal]
                  refine SW_ret ?_
                  try simp only [thenQ_ret]
                  obtain rfl := some_eq h
                  refine ⟨by first | exact .inl rfl | exact .inl trivial | exact .inr rfl | exact .inr trivial, ?_⟩
                  simp only [go_sem, ↓reduceIte, Nat.reduceEqDiff, Nat.reduceAdd, back_set, e47]
                · replace h := ite_f c63 h
                  refine SW_skip ?_
                  try simp only [thenQ_normal]
                  refine SW_seq ?_
                  refine SW_reg fun K hK => ?_
                  simp only [go_sem, ↓reduceIte, Nat.reduceEqDiff, Nat.reduceAdd, Nat.reduceLeDiff, c63, e47]
                  apply hK
                  simp only [thenQ_normal]
                  refine SW_seq ?_
                  refine SW_reg fun K hK => ?_
                  simp only [go_sem, ↓reduceIte, Nat.reduceEqDiff, Nat.reduceAdd, e47]
                  apply hK
                  simp only [thenQ_normal]
                  refine SW_seq ?_
                  obtain ⟨x64, h65, h⟩ := bind_some h
                  refine SW_reg fun K hK => ?_
                  simp only [go_sem, ↓reduceIte, Nat.reduceEqDiff, Nat.reduceAdd, e47]
                  refine SC.by_ (hrec_remontoireref10_P_level x61.1 (0 : Int) (IntKind.i64.wrap (a1 + (1 : Int))) _ h65 _ _ _ (by simp only [go_sem])) ?_
                  simp only [go_sem, ↓reduceIte, Nat.reduceEqDiff, Nat.reduceAdd, reduceCtorEq, e47]
                  apply hK
                  simp only [thenQ_normal]
                  refine SW_seq ?_
                  obtain ⟨x66, h67, h⟩ := bind_some h
                  obtain ⟨f68, h⟩ := need_some h
                  have f69 : 1 + x64.2.length ≤ 1073741824 := by first | omega | (simp only [List.length_append, List.length_cons, List.length_nil] at f68 ⊢; omega)
                  refine SW_drawK (tbl := [0, 1, 0, 4, 0, 31, 63, 127]) (ord := [(0, 0), (1, 0), (2, 1), (3, 0), (4, 0), (5, 0), (6, 0), (7, 0)]) 84 rfl (by kernel_rfl) (by kernel_rfl) fun K hK => ?_
                  simp only [go_sem, ↓reduceIte, Nat.reduceEqDiff, Nat.reduceAdd, e47]
                  refine dcall_of (remontoireref10_P_need_ok n x64.1 ([93] : Str) _ h67 _ _ _ (by simp only [go_sem])) rfl ?_
                  simp only [go_sem, ↓reduceIte, Nat.reduceEqDiff, Nat.reduceAdd, Nat.reduceLT, Nat.reduceLeDiff, reduceCtorEq, f69, e47]
                  apply hK
                  simp only [thenQ_normal]
                  refine SW_ret ?_
                  try simp only []
                  obtain rfl := some_eq h
                  refine ⟨by first | exact .inl rfl | exact .inl trivial | exact .inr rfl | exact .inr trivial, ?_⟩
                  simp only [go_sem, ↓reduceIte, Nat.reduceEqDiff, Nat.reduceAdd, back_set, back_tokset, e47]
  · replace h := ite_f c3 h
    refine SW_skip ?_
    try simp only [thenQ_normal]
    refine SW_seq ?_
    obtain ⟨x70, h72, h⟩ := bind_some h
    refine SW_reg fun K hK => ?_
    simp only [go_sem, ↓reduceIte, Nat.reduceEqDiff, Nat.reduceAdd, c3]
    refine SC.by_ (remontoireref10_P_take_ok n a0 ([40] : Str) _ h72 _ _ _ (by simp only [go_sem])) ?_
    simp only [go_sem, ↓reduceIte, Nat.reduceEqDiff, Nat.reduceAdd]
    apply hK
    simp only [thenQ_normal]
    refine SW_seq ?_
    refine SW_seq ?_
    refine SW_reg fun K hK => ?_
    simp only [go_sem, ↓reduceIte, Nat.reduceAdd]
    apply hK
    simp only [thenQ_normal]
    refine SW_if x70.2 (by simp only [go_sem, ↓reduceIte]) (fun c73 => ?_) (fun c73 => ?_)
    · replace h := ite_t c73 h
      refine SW_seq ?_
      obtain ⟨x74, h76, h⟩ := bind_some h
      refine SW_reg fun K hK => ?_
      simp only [go_sem, ↓reduceIte, Nat.reduceEqDiff, Nat.reduceAdd, c73]
      refine SC.by_ (hrec_remontoireref10_P_level x70.1 (0 : Int) (IntKind.i64.wrap (a1 + (1 : Int))) _ h76 _ _ _ (by simp only [go_sem])) ?_
      simp only [go_sem, ↓reduceIte, Nat.reduceEqDiff, Nat.reduceAdd]
      apply hK
      simp only [thenQ_normal]
      refine SW_seq ?_
      obtain ⟨x77, h78, h⟩ := bind_some h
      refine SW_reg fun K hK => ?_
      simp only [go_sem, ↓reduceIte, Nat.reduceEqDiff, Nat.reduceAdd]
      refine SC.by_ (remontoireref10_P_need_ok n x74.1 ([41] : Str) _ h78 _ _ _ (by simp only [go_sem])) ?_
      simp only [go_sem, ↓reduceIte, Nat.reduceEqDiff, Nat.reduceAdd]
      apply hK
      simp only [thenQ_normal]
      refine SW_ret ?_
      try simp only [thenQ_ret]
      obtain rfl := some_eq h
      refine ⟨by first | exact .inl rfl | exact .inl trivial | exact .inr rfl | exact .inr trivial, ?_⟩
      simp only [go_sem, ↓reduceIte, Nat.reduceEqDiff, Nat.reduceAdd, back_set, back_self]
    · replace h := ite_f c73 h
      refine SW_skip ?_
      try simp only [thenQ_normal]
      refine SW_seq ?_
      obtain ⟨x79, h81, h⟩ := bind_some h
      refine SW_reg fun K hK => ?_
      simp only [go_sem, ↓reduceIte, Nat.reduceEqDiff, Nat.reduceAdd, reduceCtorEq, c73]
      refine SC.by_ (remontoireref10_P_node_ok a0 (15 : Int) _ h81 _ _ _ (by simp only [go_sem])) ?_
      simp only [go_sem, ↓reduceIte, Nat.reduceEqDiff, Nat.reduceAdd, reduceCtorEq]
      apply hK
      simp only [thenQ_normal]
      refine SW_seq ?_
      refine SW_seq ?_
      obtain ⟨y82, hy82, h⟩ := bind_some h
      refine SW_joinK 28 [] [] rfl (fun E' m' => E' 1 = .lit (.int .i64 a1) ∧ E' 2 = .ptr (0 :: q) 0 ∧ E' 4 = .ptr (1 :: q) 0 ∧ E' 6 = .ptr (10 :: q) 0 ∧ E' 10 = .ptr (19 :: q) 0 ∧ E' 47 = .lit (.bool y82) ∧ m'.blk (0 :: q) = some ((T_remontoireref10_P.C x79.1)) ∧ m'.blk (1 :: q) = some ([.list .self ([].map T_remontoireref09_T.C), .lit (.int .i64 (0 : Int)), .lit (.int .i64 (0 : Int)), .lit (.int .i64 (0 : Int)), .lit (.int .i64 (0 : Int))]) ∧ m'.blk (10 :: q) = some ((T_remontoireref10_P.C x70.1)) ∧ m'.blk (19 :: q) = some ((T_remontoireref10_N.C x79.2)) ∧ m'.gl = m.gl ∧ m.back q m' = m) ?_ ?_
      · obtain ⟨x83, h84, hy82⟩ := bind_some hy82
        rcases bool_or x83 with c85 | c85
        · replace hy82 := ite_t c85 hy82
          refine SW_reg fun K hK => ?_
          simp only [go_sem, ↓reduceIte, Nat.reduceEqDiff, Nat.reduceAdd, reduceCtorEq]
          refine SC.by_ (remontoireref10_P_is_ok n x79.1 ([126] : Str) _ h84 _ _ _ (by simp only [go_sem])) ?_
          simp only [go_sem, ↓reduceIte, Nat.reduceEqDiff, Nat.reduceAdd, c85]
          apply hK
          simp only [thenQ_normal]
          obtain rfl := some_eq hy82
          refine ⟨by decide, ?_⟩
          simp only [go_sem, ↓reduceIte, Nat.reduceEqDiff, reduceCtorEq, back_set, back_self]
        · replace hy82 := ite_f c85 hy82
          obtain ⟨x86, h87, hy82⟩ := bind_some hy82
          refine SW_reg fun K hK => ?_
          simp only [go_sem, ↓reduceIte, Nat.reduceEqDiff, Nat.reduceAdd, reduceCtorEq]
          refine SC.by_ (remontoireref10_P_is_ok n x79.1 ([126] : Str) _ h84 _ _ _ (by simp only [go_sem])) ?_
          simp only [go_sem, ↓reduceIte, Nat.reduceEqDiff, Nat.reduceAdd, reduceCtorEq, c85]
          refine SC.by_ (remontoireref10_P_is_ok n x79.1 ([45] : Str) _ h87 _ _ _ (by simp only [go_sem])) ?_
          simp only [go_sem, ↓reduceIte, Nat.reduceEqDiff, Nat.reduceAdd]
          apply hK
          simp only [thenQ_normal]
          obtain rfl := some_eq hy82
          refine ⟨by decide, ?_⟩
          simp only [go_sem, ↓reduceIte, Nat.reduceEqDiff, reduceCtorEq, back_set, back_self]
      · intro E88 m89 e90 _
        simp only [thenQ_normal]
        refine SW_if y82 (by simp only [go_sem, e90]) (fun c91 => ?_) (fun c91 => ?_)
        · replace h := ite_t c91 h
          refine SW_seq ?_
          refine SW_reg fun K hK => ?_
          simp only [go_sem, ↓reduceIte, Nat.reduceAdd, Nat.reduceLeDiff, e90]
          apply hK
          simp only [thenQ_normal]
          refine SW_seq ?_
          obtain ⟨x92, h96, h⟩ := bind_some h
          obtain ⟨f93, f94, f95⟩ := idxL_some h96
          refine SW_reg fun K hK => ?_
          simp only [go_sem, ↓reduceIte, Nat.reduceEqDiff, Nat.reduceAdd, Nat.reduceLeDiff, reduceCtorEq, f93, f94, f95, e90]
          apply hK
          simp only [thenQ_normal]
          refine SW_seq ?_
          refine SW_reg fun K hK => ?_
          simp only [go_sem, ↓reduceIte, Nat.reduceEqDiff, Nat.reduceAdd, e90]
          apply hK
          simp only [thenQ_normal]
          refine SW_seq ?_
          refine SW_reg fun K hK => ?_
          simp only [go_sem, ↓reduceIte, Nat.reduceEqDiff, Nat.reduceAdd, Nat.reduceLeDiff, reduceCtorEq, e90]
          apply hK
          simp only [thenQ_normal]
          refine SW_seq ?_
          obtain ⟨x97, h99, h⟩ := bind_some h
          refine SW_reg fun K hK => ?_
          simp only [go_sem, ↓reduceIte, Nat.reduceEqDiff, Nat.reduceAdd, e90]
          refine SC.by_ (hrec_remontoireref10_P_operand ({ x79.1 with At_ := (IntKind.i64.wrap (x79.1.At_ + (1 : Int))) } : T_remontoireref10_P) (IntKind.i64.wrap (a1 + (1 : Int))) _ h99 _ _ _ (by simp only [go_sem])) ?_
          simp only [go_sem, ↓reduceIte, Nat.reduceEqDiff, Nat.reduceAdd]
          apply hK
          simp only [thenQ_normal]
          refine SW_seq ?_
          obtain ⟨f100, h⟩ := need_some h
          have f101 : 1 + x97.2.length ≤ 1073741824 := by first | omega | (simp only [List.length_append, List.length_cons, List.length_nil] at f100 ⊢; omega)
          refine SW_drawK (tbl := [0, 0, 2, 0, 14, 31, 63]) (ord := [(1, 0), (2, 0), (3, 0), (4, 0), (0, 1), (5, 0), (6, 0)]) 63 rfl (by kernel_rfl) (by kernel_rfl) fun K hK => ?_
          simp only [go_sem, ↓reduceIte, Nat.reduceEqDiff, Nat.reduceAdd, Nat.reduceLT, Nat.reduceLeDiff, reduceCtorEq, f101, e90]
          apply hK
          simp only [thenQ_normal]
          refine SW_ret ?_
          try simp only [thenQ_ret]
          obtain rfl := some_eq h
          refine ⟨by first | exact .inl rfl | exact .inl trivial | exact .inr rfl | exact .inr trivial, ?_⟩
          simp only [go_sem, ↓reduceIte, Nat.reduceEqDiff, Nat.reduceAdd, back_set, back_tokset, e90]
        · replace h := ite_f c91 h
          refine SW_skip ?_
          try simp only [thenQ_normal]
          refine SW_seq ?_
          refine SW_seq ?_
          obtain ⟨y102, hy102, h⟩ := bind_some h
          refine SW_joinK 41 [] [] rfl (fun E' m' => E' 1 = .lit (.int .i64 a1) ∧ E' 2 = .ptr (0 :: q) 0 ∧ E' 4 = .ptr (1 :: q) 0 ∧ E' 6 = .ptr (10 :: q) 0 ∧ E' 10 = .ptr (19 :: q) 0 ∧ E' 86 = .lit (.bool y102) ∧ m'.blk (0 :: q) = some ((T_remontoireref10_P.C x79.1)) ∧ m'.blk (1 :: q) = some ([.list .self ([].map T_remontoireref09_T.C), .lit (.int .i64 (0 : Int)), .lit (.int .i64 (0 : Int)), .lit (.int .i64 (0 : Int)), .lit (.int .i64 (0 : Int))]) ∧ m'.blk (10 :: q) = some ((T_remontoireref10_P.C x70.1)) ∧ m'.blk (19 :: q) = some ((T_remontoireref10_N.C x79.2)) ∧ m'.gl = m.gl ∧ m.back q m' = m) ?_ ?_
          · rcases bool_or (x79.1.E_ == (0 : Int)) with c103 | c103
            · replace hy102 := ite_t c103 hy102
              obtain ⟨x104, h108, hy102⟩ := bind_some hy102
              obtain ⟨f105, f106, f107⟩ := idxL_some h108
              refine SW_reg fun K hK => ?_
              simp only [go_sem, ↓reduceIte, Nat.reduceEqDiff, Nat.reduceAdd, c103, f105, f106, f107, e90]
              apply hK
              simp only [thenQ_normal]
              obtain rfl := some_eq hy102
              refine ⟨by decide, ?_⟩
              simp only [go_sem, ↓reduceIte, Nat.reduceEqDiff, e90]
            · replace hy102 := ite_f c103 hy102
              refine SW_reg fun K hK => ?_
              simp only [go_sem, ↓reduceIte, Nat.reduceEqDiff, Nat.reduceAdd, c103, e90]
              apply hK
              simp only [thenQ_normal]
              obtain rfl := some_eq hy102
              refine ⟨by decide, ?_⟩
              simp only [go_sem, ↓reduceIte, Nat.reduceEqDiff, e90]
          · intro E109 m110 e111 _
            simp only [thenQ_normal]
            refine SW_if y102 (by simp only [go_sem, e111]) (fun c112 => ?_) (fun c112 => ?_)
            · replace h := ite_t c112 h
              refine SW_seq ?_
              refine SW_reg fun K hK => ?_
              simp only [go_sem, ↓reduceIte, Nat.reduceAdd, Nat.reduceLeDiff, e111]
              apply hK
              simp only [thenQ_normal]
              refine SW_seq ?_
              obtain ⟨x113, h114, h⟩ := bind_some h
              refine SW_reg fun K hK => ?_
              simp only [go_sem, ↓reduceIte, Nat.reduceEqDiff, Nat.reduceAdd, reduceCtorEq, e111]
              refine SC.by_ (remontoireref10_P_number_ok x79.1 _ h114 _ _ _ (by simp only [go_sem])) ?_
              simp only [go_sem, ↓reduceIte, Nat.reduceEqDiff, Nat.reduceAdd, Nat.reduceLeDiff, reduceCtorEq, e111]
              apply hK
              simp only [thenQ_normal]
              refine SW_seq ?_
              refine SW_drawK (tbl := [0, 0, 2, 1, 15]) (ord := [(0, 0), (3, 0), (1, 1), (2, 0), (4, 0)]) 56 rfl (by kernel_rfl) (by kernel_rfl) fun K hK => ?_
              simp only [go_sem, ↓reduceIte, Nat.reduceEqDiff, Nat.reduceAdd, Nat.reduceLT, Nat.reduceLeDiff, reduceCtorEq, e111]
              apply hK
              simp only [thenQ_normal]
              refine SW_ret ?_
              try simp only [thenQ_ret]
              obtain rfl := some_eq h
              refine ⟨by first | exact .inl rfl | exact .inl trivial | exact .inr rfl | exact .inr trivial, ?_⟩
              simp only [go_sem, ↓reduceIte, Nat.reduceEqDiff, Nat.reduceAdd, back_set, e111]
            · replace h := ite_f c112 h
              refine SW_skip ?_
              try simp only [thenQ_normal]
              refine SW_seq ?_
              obtain ⟨x115, h116, h⟩ := bind_some h
              refine SW_reg fun K hK => ?_
              simp only [go_sem, ↓reduceIte, Nat.reduceAdd, e111]
              refine SC.by_ (remontoireref10_P_name_ok n x79.1 _ h116 _ _ _ (by simp only [go_sem])) ?_
              simp only [go_sem, ↓reduceIte, Nat.reduceEqDiff, Nat.reduceAdd, Nat.reduceLeDiff, reduceCtorEq, e111]
              apply hK
              simp only [thenQ_normal]
              refine SW_seq ?_
              refine SW_seq ?_
              obtain ⟨x117, h118, h⟩ := bind_some h
              refine SW_reg fun K hK => ?_
              simp only [go_sem, ↓reduceIte, Nat.reduceEqDiff, Nat.reduceAdd, reduceCtorEq, e111]
              refine SC.by_ (remontoireref10_P_is_ok n x115.1 ([40] : Str) _ h118 _ _ _ (by simp only [go_sem])) ?_
              simp only [go_sem, Nat.reduceAdd]
              apply hK
              simp only [thenQ_normal]
              refine SW_if x117 (by simp only [go_sem, ↓reduceIte]) (fun c119 => ?_) (fun c119 => ?_)
              · replace h := ite_t c119 h
                refine SW_seq ?_
                refine SW_reg fun K hK => ?_
                simp only [go_sem, ↓reduceIte, Nat.reduceEqDiff, Nat.reduceAdd, Nat.reduceLeDiff, c119, e111]
                apply hK
                simp only [thenQ_normal]
                refine SW_seq ?_
                obtain ⟨x120, h122, h⟩ := bind_some h
                refine SW_reg fun K hK => ?_
                simp only [go_sem, ↓reduceIte, Nat.reduceEqDiff, Nat.reduceAdd, reduceCtorEq, e111]
                refine SC.by_ (hrec_remontoireref10_P_args x115.1 (IntKind.i64.wrap (a1 + (1 : Int))) _ h122 _ _ _ (by simp only [go_sem])) ?_
                simp only [go_sem, ↓reduceIte, Nat.reduceEqDiff, Nat.reduceAdd]
                apply hK
                simp only [thenQ_normal]
                refine SW_seq ?_
                refine SW_reg fun K hK => ?_
                simp only [go_sem, ↓reduceIte, Nat.reduceEqDiff, Nat.reduceAdd, e111]
                apply hK
                simp only [thenQ_normal]
                refine SW_seq ?_
                obtain ⟨f123, h⟩ := need_some h
                have f124 : 1 + x120.2.1.length ≤ 1073741824 := by first | omega | (simp only [List.length_append, List.length_cons, List.length_nil] at f123 ⊢; omega)
                refine SW_drawK (tbl := [0, 0, 2, 0, 14, 31, 63]) (ord := [(1, 0), (2, 0), (3, 0), (4, 0), (0, 1), (5, 0), (6, 0)]) 75 rfl (by kernel_rfl) (by kernel_rfl) fun K hK => ?_
                simp only [go_sem, ↓reduceIte, Nat.reduceEqDiff, Nat.reduceAdd, Nat.reduceLT, Nat.reduceLeDiff, f124, e111]
                apply hK
                simp only [thenQ_normal]
                refine SW_ret ?_
                try simp only [thenQ_ret]
                obtain rfl := some_eq h
                refine ⟨by first | exact .inl rfl | exact .inl trivial | exact .inr rfl | exact .inr trivial, ?_⟩
                simp only [go_sem, ↓reduceIte, Nat.reduceEqDiff, Nat.reduceAdd, back_set, back_tokset, e111]
              · replace h := ite_f c119 h
                refine SW_skip ?_
                try simp only [thenQ_normal]
                refine SW_seq ?_
                obtain ⟨x125, h126, h⟩ := bind_some h
                refine SW_reg fun K hK => ?_
                simp only [go_sem, ↓reduceIte, Nat.reduceEqDiff, Nat.reduceAdd, reduceCtorEq, c119, e111]
                refine SC.by_ (remontoireref10_P_take_ok n x115.1 ([91] : Str) _ h126 _ _ _ (by simp only [go_sem])) ?_
                simp only [go_sem, ↓reduceIte, Nat.reduceEqDiff, Nat.reduceAdd, reduceCtorEq, e111]
                apply hK
                simp only [thenQ_normal]
                refine SW_seq ?_
                refine SW_seq ?_
                refine SW_reg fun K hK => ?_
                simp only [go_sem, ↓reduceIte, Nat.reduceAdd]
                apply hK
                simp only [thenQ_normal]
                refine SW_if (!x125.2) (by simp only [go_sem, ↓reduceIte]) (fun c127 => ?_) (fun c127 => ?_)
                · replace h := ite_t c127 h
                  refine SW_seq ?_
                  refine SW_drawK (tbl := [0, 0, 2, 1, 15]) (ord := [(0, 0), (3, 0), (1, 1), (2, 0), (4, 0)]) 65 rfl (by kernel_rfl) (by kernel_rfl) fun K hK => ?_
                  simp only [go_sem, ↓reduceIte, Nat.reduceEqDiff, Nat.reduceAdd, Nat.reduceLT, Nat.reduceLeDiff, reduceCtorEq, c127, e111]
                  apply hK
                  simp only [thenQ_normal]
                  refine SW_ret ?_
                  try simp only [thenQ_ret]
                  obtain rfl := some_eq h
                  refine ⟨by first | exact .inl rfl | exact .inl trivial | exact .inr rfl | exact .inr trivial, ?_⟩
                  simp only [go_sem, ↓reduceIte, Nat.reduceEqDiff, Nat.reduceAdd, back_set, e111]
                · replace h := ite_f c127 h
                  refine SW_skip ?_
                  try simp only [thenQ_normal]
                  refine SW_seq ?_
                  refine SW_reg fun K hK => ?_
                  simp only [go_sem, ↓reduceIte, Nat.reduceEqDiff, Nat.reduceAdd, Nat.reduceLeDiff, c127, e111]
                  apply hK
                  simp only [thenQ_normal]
                  refine SW_seq ?_
                  refine SW_reg fun K hK => ?_
                  simp only [go_sem, ↓reduceIte, Nat.reduceEqDiff, Nat.reduceAdd, e111]
                  apply hK
                  simp only [thenQ_normal]
                  refine SW_seq ?_
                  obtain ⟨x128, h129, h⟩ := bind_some h
                  refine SW_reg fun K hK => ?_
                  simp only [go_sem, ↓reduceIte, Nat.reduceEqDiff, Nat.reduceAdd, e111]
                  refine SC.by_ (hrec_remontoireref10_P_level x125.1 (0 : Int) (IntKind.i64.wrap (a1 + (1 : Int))) _ h129 _ _ _ (by simp only [go_sem])) ?_
                  simp only [go_sem, ↓reduceIte, Nat.reduceEqDiff, Nat.reduceAdd, reduceCtorEq, e111]
                  apply hK
                  simp only [thenQ_normal]
                  refine SW_seq ?_
                  obtain ⟨x130, h131, h⟩ := bind_some h
                  obtain ⟨f132, h⟩ := need_some h
                  have f133 : 1 + x128.2.length ≤ 1073741824 := by first | omega | (simp only [List.length_append, List.length_cons, List.length_nil] at f132 ⊢; omega)
                  refine SW_drawK (tbl := [0, 1, 0, 4, 0, 31, 63, 127]) (ord := [(0, 0), (1, 0), (2, 1), (3, 0), (4, 0), (5, 0), (6, 0), (7, 0)]) 81 rfl (by kernel_rfl) (by kernel_rfl) fun K hK => ?_
                  simp only [go_sem, ↓reduceIte, Nat.reduceEqDiff, Nat.reduceAdd, e111]
                  refine dcall_of (remontoireref10_P_need_ok n x128.1 ([93] : Str) _ h131 _ _ _ (by simp only [go_sem])) rfl ?_
                  simp only [go_sem, ↓reduceIte, Nat.reduceEqDiff, Nat.reduceAdd, Nat.reduceLT, Nat.reduceLeDiff, reduceCtorEq, f133, e111]
                  apply hK
                  simp only [thenQ_normal]
                  refine SW_ret ?_
                  try simp only []
                  obtain rfl := some_eq h
                  refine ⟨by first | exact .inl rfl | exact .inl trivial | exact .inr rfl | exact .inr trivial, ?_⟩
                  simp only [go_sem, ↓reduceIte, Nat.reduceEqDiff, Nat.reduceAdd, back_set, back_tokset, e111]

theorem remontoireref10_P_level_grp_ok : ∀ n, remontoireref10_P_level_C (remontoireref10_P_level n) ∧ remontoireref10_P_args_C (remontoireref10_P_args n) ∧ remontoireref10_P_operand_C (remontoireref10_P_operand n)
  | 0 => ⟨fun _ _ _ _ h => none_some_ h, fun _ _ _ h => none_some_ h, fun _ _ _ h => none_some_ h⟩
  | n + 1 =>
    have ih := remontoireref10_P_level_grp_ok n
    ⟨remontoireref10_P_level_b_ok ih.2.2 ih.1 n, remontoireref10_P_args_b_ok ih.1 n, remontoireref10_P_operand_b_ok ih.1 ih.2.2 ih.2.1 n⟩
theorem remontoireref10_P_level_ok (n : Nat) : remontoireref10_P_level_C (remontoireref10_P_level n) := (remontoireref10_P_level_grp_ok n).1
theorem remontoireref10_P_args_ok (n : Nat) : remontoireref10_P_args_C (remontoireref10_P_args n) := (remontoireref10_P_level_grp_ok n).2.1
def remontoireref10_P_one_C (f : T_remontoireref10_P → T_remontoireref10_N → Int → Option (T_remontoireref10_P × (List T_remontoireref10_N))) : Prop := ∀ (a0 : T_remontoireref10_P) (a1 : T_remontoireref10_N) (a2 : Int) (r : (T_remontoireref10_P × (List T_remontoireref10_N))), f a0 a1 a2 = some r → ∀ (q : Pa) (m : M) (vs : List V), vs.map V.weak1 = [.agg ((T_remontoireref10_P.C a0)), .agg ((T_remontoireref10_N.C a1)), .lit (.int .i64 a2)] → SC Tryd.prog 111 vs q m (fun v m' => v = .tup [.agg ((T_remontoireref10_P.C r.1)), .list .none (r.2.map T_remontoireref10_N.C)] ∧ m' = m)

theorem remontoireref10_P_one_ok (n : Nat) : remontoireref10_P_one_C (remontoireref10_P_one n) := by
  intro a0 a1 a2 r h q m vs hv
  refine SC.weak ?_
  rw [hv]
  refine SC_of Tryd.func111 rfl (fun xs w => Tryd.call111 xs w) Tryd.ntmps111 (by kernel_rfl) (congrArg Array.toList Tryd.results111) V.weak (fun _ _ _ => V.weak_ok) ?_
  unfold remontoireref10_P_one at h
  refine SW_seq ?_
  refine SW_reg fun K hK => ?_
  simp only [go_sem, ↓reduceIte, Nat.reduceEqDiff, Nat.reduceAdd]
  apply hK
  simp only [thenQ_normal]
  refine SW_seq ?_
  obtain ⟨x4, h5, h⟩ := bind_some h
  refine SW_reg fun K hK => ?_
  simp only [go_sem, ↓reduceIte, Nat.reduceEqDiff, Nat.reduceAdd, reduceCtorEq]
  refine SC.by_ (remontoireref10_P_level_ok n a0 (0 : Int) a2 _ h5 _ _ _ (by simp only [go_sem])) ?_
  simp only [go_sem, ↓reduceIte, Nat.reduceEqDiff, Nat.reduceAdd, reduceCtorEq]
  apply hK
  simp only [thenQ_normal]
  refine SW_seq ?_
  refine SW_reg fun K hK => ?_
  simp only [go_sem, ↓reduceIte, Nat.reduceEqDiff, Nat.reduceAdd]
  apply hK
  simp only [thenQ_normal]
  refine SW_seq ?_
  obtain ⟨x6, h7, h⟩ := bind_some h
  obtain ⟨f8, h⟩ := need_some h
  have f9 : 1 + x4.2.length ≤ 1073741824 := by first | omega | (simp only [List.length_append, List.length_cons, List.length_nil] at f8 ⊢; omega)
  refine SW_drawK (tbl := [0, 1, 0, 4, 0, 31, 63, 127]) (ord := [(0, 0), (1, 0), (2, 1), (3, 0), (4, 0), (5, 0), (6, 0), (7, 0)]) 22 rfl (by kernel_rfl) (by kernel_rfl) fun K hK => ?_
  simp only [go_sem, ↓reduceIte, Nat.reduceEqDiff, Nat.reduceAdd]
  refine dcall_of (remontoireref10_P_need_ok n x4.1 ([59] : Str) _ h7 _ _ _ (by simp only [go_sem])) rfl ?_
  simp only [go_sem, ↓reduceIte, Nat.reduceEqDiff, Nat.reduceAdd, Nat.reduceLT, Nat.reduceLeDiff, reduceCtorEq, f9]
  apply hK
  simp only [thenQ_normal]
  refine SW_ret ?_
  try simp only []
  obtain rfl := some_eq h
  refine ⟨by first | exact .inl rfl | exact .inl trivial | exact .inr rfl | exact .inr trivial, ?_⟩
  simp only [go_sem, ↓reduceIte, Nat.reduceEqDiff, Nat.reduceAdd, back_set, back_tokset, back_self]

def remontoireref10_P_plain_C (f : T_remontoireref10_P → T_remontoireref10_N → Int → Option (T_remontoireref10_P × (List T_remontoireref10_N))) : Prop := ∀ (a0 : T_remontoireref10_P) (a1 : T_remontoireref10_N) (a2 : Int) (r : (T_remontoireref10_P × (List T_remontoireref10_N))), f a0 a1 a2 = some r → ∀ (q : Pa) (m : M) (vs : List V), vs.map V.weak1 = [.agg ((T_remontoireref10_P.C a0)), .agg ((T_remontoireref10_N.C a1)), .lit (.int .i64 a2)] → SC Tryd.prog 113 vs q m (fun v m' => v = .tup [.agg ((T_remontoireref10_P.C r.1)), .list .none (r.2.map T_remontoireref10_N.C)] ∧ m' = m)

theorem remontoireref10_P_plain_ok (n : Nat) : remontoireref10_P_plain_C (remontoireref10_P_plain n) := by
  intro a0 a1 a2 r h q m vs hv
  refine SC.weak ?_
  rw [hv]
  refine SC_of Tryd.func113 rfl (fun xs w => Tryd.call113 xs w) Tryd.ntmps113 (by kernel_rfl) (congrArg Array.toList Tryd.results113) V.weak (fun _ _ _ => V.weak_ok) ?_
  unfold remontoireref10_P_plain at h
  refine SW_seq ?_
  refine SW_reg fun K hK => ?_
  simp only [go_sem, ↓reduceIte, Nat.reduceEqDiff, Nat.reduceAdd]
  apply hK
  simp only [thenQ_normal]
  refine SW_seq ?_
  obtain ⟨x4, h5, h⟩ := bind_some h
  refine SW_reg fun K hK => ?_
  simp only [go_sem, ↓reduceIte, Nat.reduceEqDiff, Nat.reduceAdd, reduceCtorEq]
  refine SC.by_ (remontoireref10_P_name_ok n a0 _ h5 _ _ _ (by simp only [go_sem])) ?_
  simp only [go_sem, ↓reduceIte, Nat.reduceEqDiff, Nat.reduceAdd, Nat.reduceLeDiff, reduceCtorEq]
  apply hK
  simp only [thenQ_normal]
  refine SW_seq ?_
  refine SW_reg fun K hK => ?_
  simp only [go_sem, ↓reduceIte, Nat.reduceEqDiff, Nat.reduceAdd, Nat.reduceLeDiff]
  apply hK
  simp only [thenQ_normal]
  refine SW_seq ?_
  refine SW_seq ?_
  obtain ⟨x6, h7, h⟩ := bind_some h
  refine SW_reg fun K hK => ?_
  simp only [go_sem, ↓reduceIte, Nat.reduceEqDiff, Nat.reduceAdd]
  refine SC.by_ (remontoireref10_P_is_ok n x4.1 ([40] : Str) _ h7 _ _ _ (by simp only [go_sem])) ?_
  simp only [go_sem, Nat.reduceAdd]
  apply hK
  simp only [thenQ_normal]
  refine SW_if x6 (by simp only [go_sem, ↓reduceIte]) (fun c8 => ?_) (fun c8 => ?_)
  · replace h := ite_t c8 h
    refine SW_seq ?_
    refine SW_reg fun K hK => ?_
    simp only [go_sem, ↓reduceIte, Nat.reduceEqDiff, Nat.reduceAdd, Nat.reduceLeDiff, c8]
    apply hK
    simp only [thenQ_normal]
    refine SW_seq ?_
    obtain ⟨x9, h11, h⟩ := bind_some h
    refine SW_reg fun K hK => ?_
    simp only [go_sem, ↓reduceIte, Nat.reduceEqDiff, Nat.reduceAdd]
    refine SC.by_ (remontoireref10_P_args_ok n x4.1 (IntKind.i64.wrap (a2 + (2 : Int))) _ h11 _ _ _ (by simp only [go_sem])) ?_
    simp only [go_sem, ↓reduceIte, Nat.reduceEqDiff, Nat.reduceAdd]
    apply hK
    simp only [thenQ_normal]
    refine SW_seq ?_
    refine SW_reg fun K hK => ?_
    simp only [go_sem, ↓reduceIte, Nat.reduceEqDiff, Nat.reduceAdd]
    apply hK
    simp only [thenQ_normal]
    refine SW_seq ?_
    obtain ⟨x12, h13, h⟩ := bind_some h
    obtain ⟨f14, h⟩ := need_some h
    have f15 : 1 + x9.2.1.length ≤ 1073741824 := by first | omega | (simp only [List.length_append, List.length_cons, List.length_nil] at f14 ⊢; omega)
    refine SW_drawK (tbl := [0, 1, 0, 4, 0, 31, 63, 127]) (ord := [(0, 0), (1, 0), (2, 1), (3, 0), (4, 0), (5, 0), (6, 0), (7, 0)]) 41 rfl (by kernel_rfl) (by kernel_rfl) fun K hK => ?_
    simp only [go_sem, ↓reduceIte, Nat.reduceEqDiff, Nat.reduceAdd]
    refine dcall_of (remontoireref10_P_need_ok n x9.1 ([59] : Str) _ h13 _ _ _ (by simp only [go_sem])) rfl ?_
    simp only [go_sem, ↓reduceIte, Nat.reduceEqDiff, Nat.reduceAdd, Nat.reduceLT, Nat.reduceLeDiff, reduceCtorEq, f15]
    apply hK
    simp only [thenQ_normal]
    refine SW_ret ?_
    try simp only [thenQ_ret]
    obtain rfl := some_eq h
    refine ⟨by first | exact .inl rfl | exact .inl trivial | exact .inr rfl | exact .inr trivial, ?_⟩
    simp only [go_sem, ↓reduceIte, Nat.reduceEqDiff, Nat.reduceAdd, back_set, back_tokset, back_self]
  · replace h := ite_f c8 h
    refine SW_skip ?_
    try simp only [thenQ_normal]
    refine SW_seq ?_
    obtain ⟨x16, h17, h⟩ := bind_some h
    refine SW_reg fun K hK => ?_
    simp only [go_sem, ↓reduceIte, Nat.reduceEqDiff, Nat.reduceAdd, c8]
    refine SC.by_ (remontoireref10_P_take_ok n x4.1 ([91] : Str) _ h17 _ _ _ (by simp only [go_sem])) ?_
    simp only [go_sem, ↓reduceIte, Nat.reduceEqDiff, Nat.reduceAdd]
    apply hK
    simp only [thenQ_normal]
    refine SW_seq ?_
    refine SW_seq ?_
    refine SW_reg fun K hK => ?_
    simp only [go_sem, ↓reduceIte, Nat.reduceAdd]
    apply hK
    simp only [thenQ_normal]
    refine SW_if (!x16.2) (by simp only [go_sem, ↓reduceIte]) (fun c18 => ?_) (fun c18 => ?_)
    · replace h := ite_t c18 h
      refine SW_seq ?_
      obtain ⟨x19, h21, h⟩ := bind_some h
      obtain ⟨x20, h22, h⟩ := bind_some h
      refine SW_drawK (tbl := [0, 1, 0, 0, 8, 31, 63, 63, 255, 511]) (ord := [(0, 0), (1, 0), (2, 1), (3, 0), (4, 0), (5, 0), (6, 0), (7, 0), (8, 0), (9, 0)]) 35 rfl (by kernel_rfl) (by kernel_rfl) fun K hK => ?_
      simp only [go_sem, ↓reduceIte, Nat.reduceEqDiff, Nat.reduceAdd, c18]
      refine dcall_of (remontoireref10_P_need_ok n x16.1 ([61] : Str) _ h21 _ _ _ (by simp only [go_sem])) rfl ?_
      simp only [go_sem, ↓reduceIte, Nat.reduceEqDiff, Nat.reduceAdd]
      refine dcall_of (remontoireref10_P_one_ok n x19 ({ a1 with Kind_ := (8 : Int), Text_ := x4.2 } : T_remontoireref10_N) (IntKind.i64.wrap (a2 + (1 : Int))) _ h22 _ _ _ (by simp only [go_sem])) rfl ?_
      simp only [go_sem, ↓reduceIte, Nat.reduceEqDiff, Nat.reduceAdd, reduceCtorEq]
      apply hK
      simp only [thenQ_normal]
      refine SW_ret ?_
      try simp only [thenQ_ret]
      obtain rfl := some_eq h
      refine ⟨by first | exact .inl rfl | exact .inl trivial | exact .inr rfl | exact .inr trivial, ?_⟩
      simp only [go_sem, ↓reduceIte, Nat.reduceEqDiff, Nat.reduceAdd, back_set, back_self]
    · replace h := ite_f c18 h
      refine SW_skip ?_
      try simp only [thenQ_normal]
      refine SW_seq ?_
      refine SW_reg fun K hK => ?_
      simp only [go_sem, ↓reduceIte, Nat.reduceEqDiff, Nat.reduceAdd, Nat.reduceLeDiff, c18]
      apply hK
      simp only [thenQ_normal]
      refine SW_seq ?_
      refine SW_reg fun K hK => ?_
      simp only [go_sem, ↓reduceIte, Nat.reduceEqDiff, Nat.reduceAdd]
      apply hK
      simp only [thenQ_normal]
      refine SW_seq ?_
      obtain ⟨x23, h24, h⟩ := bind_some h
      refine SW_reg fun K hK => ?_
      simp only [go_sem, ↓reduceIte, Nat.reduceEqDiff, Nat.reduceAdd]
      refine SC.by_ (remontoireref10_P_level_ok n x16.1 (0 : Int) (IntKind.i64.wrap (a2 + (2 : Int))) _ h24 _ _ _ (by simp only [go_sem])) ?_
      simp only [go_sem, ↓reduceIte, Nat.reduceEqDiff, Nat.reduceAdd]
      apply hK
      simp only [thenQ_normal]
      refine SW_seq ?_
      obtain ⟨x25, h28, h⟩ := bind_some h
      obtain ⟨x26, h29, h⟩ := bind_some h
      obtain ⟨x27, h30, h⟩ := bind_some h
      refine SW_reg fun K hK => ?_
      simp only [go_sem, ↓reduceIte, Nat.reduceEqDiff, Nat.reduceAdd]
      refine SC.by_ (remontoireref10_P_need_ok n x23.1 ([93] : Str) _ h28 _ _ _ (by simp only [go_sem])) ?_
      simp only [go_sem, ↓reduceIte, Nat.reduceAdd]
      refine SC.by_ (remontoireref10_P_need_ok n x25 ([61] : Str) _ h29 _ _ _ (by simp only [go_sem])) ?_
      simp only [go_sem, ↓reduceIte, Nat.reduceEqDiff, Nat.reduceAdd]
      refine SC.by_ (remontoireref10_P_level_ok n x26 (0 : Int) (IntKind.i64.wrap (a2 + (1 : Int))) _ h30 _ _ _ (by simp only [go_sem])) ?_
      simp only [go_sem, ↓reduceIte, Nat.reduceEqDiff, Nat.reduceAdd]
      apply hK
      simp only [thenQ_normal]
      refine SW_seq ?_
      obtain ⟨x31, h32, h⟩ := bind_some h
      obtain ⟨f33, h⟩ := need_some h
      have f34 : 1 + x23.2.length ≤ 1073741824 := by first | omega | (simp only [List.length_append, List.length_cons, List.length_nil] at f33 ⊢; omega)
      obtain ⟨f35, h⟩ := need_some h
      have f36 : x23.2.length + 1 + x27.2.length ≤ 1073741824 := by first | omega | (simp only [List.length_append, List.length_cons, List.length_nil] at f35 ⊢; omega)
      refine SW_drawK (tbl := [0, 1, 0, 4, 0, 31, 0, 127, 255, 511]) (ord := [(0, 0), (1, 0), (2, 1), (3, 0), (4, 0), (5, 0), (6, 0), (7, 0), (8, 0), (9, 0)]) 59 rfl (by kernel_rfl) (by kernel_rfl) fun K hK => ?_
      simp only [go_sem, ↓reduceIte, Nat.reduceEqDiff, Nat.reduceAdd]
      refine dcall_of (remontoireref10_P_need_ok n x27.1 ([59] : Str) _ h32 _ _ _ (by simp only [go_sem])) rfl ?_
      simp only [go_sem, ↓reduceIte, Nat.reduceEqDiff, Nat.reduceAdd, Nat.reduceLT, Nat.reduceLeDiff, reduceCtorEq, f34, f36]
      apply hK
      simp only [thenQ_normal]
      refine SW_ret ?_
      try simp only []
      obtain rfl := some_eq h
      refine ⟨by first | exact .inl rfl | exact .inl trivial | exact .inr rfl | exact .inr trivial, ?_⟩
      simp only [go_sem, ↓reduceIte, Nat.reduceEqDiff, Nat.reduceAdd, back_set, back_tokset, back_self]

end Go.Proofs.YtolhahlnccekcaaDoor.Abs
