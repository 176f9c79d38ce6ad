/-
  Walks: each function does what its model says. Written by a program of mine (gen.py) for this claim.
-/
import Derived.Test.YtolhahlnccekcaaDoorGPw1
import Derived.Test.YtolhahlnccekcaaDoorGPm
import Derived.Test.YtolhahlnccekcaaDoorFacts
namespace Go.Proofs.YtolhahlnccekcaaDoor.Abs
open Go.RowKit

set_option linter.unusedVariables false
set_option maxRecDepth 10000
def p_parse_parser_list__plain_1_C (f : T_parse_parser → Int → Option ((List T_parse_Node) × T_parse_parser)) : Prop := ∀ (a0 : T_parse_parser) (a1 : Int) (r : ((List T_parse_Node) × T_parse_parser)), f a0 a1 = some r → ∀ (q : Pa) (m : M) (vs : List V) (P0 : Pa) (P1 : Pa) (P2 : Pa), vs.map V.weak1 = [.ptr P0 0, .fn (.func 128) [] [.ptr P1 0, .ptr P2 0]] ∧ m.blk P0 = some ((T_parse_parser.C a0)) ∧ m.blk P1 = some ([.ptr P0 0]) ∧ m.blk P2 = some ([.lit (.int .i64 a1)]) ∧ (P0 = P1) = False ∧ (P0 = P2) = False ∧ (P1 = P0) = False ∧ (P1 = P2) = False ∧ (P2 = P0) = False ∧ (P2 = P1) = False ∧ m.gl 0 = .eptr [(cA cS g_parse_words)] 0 0 ∧ m.gl 6 = .eptr [(cA (cA cS) g_parse_levels)] 0 0 → SC Tryd.prog 50 vs q m (fun v m' => v = .list .none (r.1.map T_parse_Node.C) ∧ m' = (m.set P0 ((T_parse_parser.C r.2))))

theorem p_parse_parser_list__plain_1_ok (n : Nat) : p_parse_parser_list__plain_1_C (p_parse_parser_list__plain_1 n) := by
  rintro a0 a1 r h q m vs P0 P1 P2 ⟨hv, hmP0, hmP1, hmP2, hn0_1, hn0_2, hn1_0, hn1_2, hn2_0, hn2_1, hg0, hg6⟩
  refine SC.weak ?_
  rw [hv]
  refine SC.apart hmP0 fun hpP0 => ?_
  refine SC.apart hmP1 fun hpP1 => ?_
  refine SC.apart hmP2 fun hpP2 => ?_
  have hmsP0 := set_same hmP0
  try simp only [go_sem] at hmP0 hmsP0
  skip
  try simp only [go_sem, ↓reduceIte, Nat.reduceEqDiff, Nat.reduceAdd, Nat.reduceMul, Nat.reduceLT, Nat.reduceLeDiff, reduceCtorEq, Int.reduceLE, Int.reduceLT, Int.reduceToNat, UInt8.reduceToNat] at hmP2
  refine SC_of Tryd.func50 rfl (fun xs w => Tryd.call50 xs w) Tryd.ntmps50 (by kernel_rfl) (congrArg Array.toList Tryd.results50) V.weak (fun _ _ _ => V.weak_ok) ?_
  unfold p_parse_parser_list__plain_1 at h
  refine SW_seq ?_
  refine SW_reg fun K hK => ?_
  simp only [go_sem]
  apply hK
  simp only [thenQ_normal]
  refine SW_seq ?_
  refine SW_reg fun K hK => ?_
  simp only [go_sem, Nat.reduceAdd]
  apply hK
  simp only [thenQ_normal]
  refine SW_seq ?_
  obtain ⟨x1, h2, h⟩ := bind_some h
  refine SW_reg fun K hK => ?_
  simp only [go_sem, ↓reduceIte, Nat.reduceAdd, reduceCtorEq]
  refine SC.by_ (p_parse_parser_need_ok n a0 ([40] : Str) _ h2 _ _ _ P0 (by simp only [go_sem, hmP0, hg0])) ?_
  simp only [go_sem, Nat.reduceAdd]
  apply hK
  simp only [thenQ_normal]
  refine SW_seq ?_
  refine SW_seq ?_
  obtain ⟨x3, h4, h⟩ := bind_some h
  refine SW_reg fun K hK => ?_
  simp only [go_sem, ↓reduceIte, Nat.reduceAdd, reduceCtorEq]
  refine SC.by_ (p_parse_parser_take_ok n x1 ([41] : Str) _ h4 _ _ _ P0 (by simp only [go_sem, ↓reduceIte, hg0])) ?_
  simp only [go_sem, Nat.reduceAdd]
  apply hK
  simp only [thenQ_normal]
  refine SW_if x3.1 (by simp only [go_sem, ↓reduceIte]) (fun c5 => ?_) (fun c5 => ?_)
  · replace h := ite_t c5 h
    refine SW_seq ?_
    refine SW_reg fun K hK => ?_
    simp only [go_sem, Nat.reduceAdd, c5]
    apply hK
    simp only [thenQ_normal]
    refine SW_ret ?_
    try simp only [thenQ_ret]
    obtain rfl := some_eq h
    refine ⟨by first | exact .inl rfl | exact .inl trivial | exact .inr rfl | exact .inr trivial, ?_⟩
    simp only [go_sem, ↓reduceIte, back_self, back_out hpP0]
  · replace h := ite_f c5 h
    refine SW_skip ?_
    try simp only [thenQ_normal]
    refine SW_seq ?_
    obtain ⟨y6, hy6, h⟩ := bind_some h
    refine SW_joinK 8 [] [] rfl (fun E' m' => ∃ (oy6_5 : Pa) (jy6_5 : Nat), E' 0 = .ptr P0 0 ∧ E' 5 = .list (.st (.anon oy6_5 jy6_5)) (y6.1.map T_parse_Node.C) ∧ m'.tok oy6_5 jy6_5 = true ∧ q <:+ oy6_5 ∧ m'.blk P0 = some ((T_parse_parser.C y6.2)) ∧ m'.blk P1 = some ([.ptr P0 0]) ∧ m'.blk P2 = some ([.lit (.int .i64 a1)]) ∧ m'.gl = m.gl ∧ m.back q m' = (m.set P0 ((T_parse_parser.C y6.2)))) ?_ ?_
    · refine SW_block ?_
      obtain ⟨y10, hy10, hy6⟩ := bind_some hy6
      refine SW_stamp 5 ([].map T_parse_Node.C) rfl (by simp only [go_sem, ↓reduceIte, Nat.reduceEqDiff, c5]) ?_
      refine SW_countW [] [] rfl (fun c E' m' => ∃ (v8 : (List T_parse_Node)), ∃ (v9 : T_parse_parser), ∃ (o_v8 : Pa) (j_v8 : Nat), p_parse_parser_list__plain_1_l1 n a1 c v8 v9 = some y10 ∧ E' 0 = .ptr P0 0 ∧ E' 1 = .fn (.func 128) [] [.ptr P1 0, .ptr P2 0] ∧ E' 5 = .list (.st (.anon o_v8 j_v8)) (v8.map T_parse_Node.C) ∧ m'.tok o_v8 j_v8 = true ∧ q <:+ o_v8 ∧ m'.blk P0 = some ((T_parse_parser.C v9)) ∧ m'.blk P1 = some ([.ptr P0 0]) ∧ m'.blk P2 = some ([.lit (.int .i64 a1)]) ∧ m'.gl = m.gl ∧ m.back q m' = (m.set P0 ((T_parse_parser.C v9)))) n ⟨[], x3.2, (6 :: q), 0, hy10, ?_⟩ ?_
      · simp only [go_sem, ↓reduceIte, Nat.reduceEqDiff, reduceCtorEq, back_tokset, back_self, back_out hpP0, hn1_0, hn2_0, c5, hmP1, hmP2]
      rintro i7 c11 E12 m13 ⟨v8, v9, o_v8, j_v8, hy10, e14⟩ _
      rcases c11 with _ | c11
      · exact absurd hy10 (by rw [p_parse_parser_list__plain_1_l1]; exact fun e => nomatch e)
      rw [p_parse_parser_list__plain_1_l1] at hy10
      refine SW_seq ?_
      refine SW_seq ?_
      refine SW_reg fun K hK => ?_
      simp only [go_sem, ↓reduceIte, Nat.reduceAdd, e14]
      apply hK
      simp only [thenQ_normal]
      refine SW_if (v9.e_ == (0 : Int)) (by simp only [go_sem, ↓reduceIte]) (fun c15 => ?_) (fun c15 => ?_)
      · replace hy10 := ite_t c15 hy10
        refine SW_skip ?_
        try simp only [thenQ_normal]
        refine SW_block ?_
        refine SW_seq ?_
        obtain ⟨x16, h17, hy10⟩ := bind_some hy10
        obtain ⟨f18, hy10⟩ := need_some hy10
        have f19 : v8.length + 1 ≤ 1073741824 := by first | omega | (simp only [List.length_append, List.length_cons, List.length_nil] at f18 ⊢; omega)
        have f20 : v8.length ≤ 1073741823 := by first | omega | (simp only [List.length_append, List.length_cons, List.length_nil] at f18 ⊢; omega)
        refine SW_reg fun K hK => ?_
        simp only [go_sem, ↓reduceIte, Nat.reduceEqDiff, Nat.reduceAdd, c15, e14]
        refine SC.by_ (p_parse_parser_plain_1_ok n v9 a1 _ h17 _ _ _ P0 P1 P2 (by simp only [go_sem, hn0_1, hn0_2, hn1_0, hn1_2, hn2_0, hn2_1, e14, hg0, hg6])) ?_
        simp only [go_sem, ↓reduceIte, Nat.reduceEqDiff, Nat.reduceAdd, Nat.reduceLT, Nat.reduceLeDiff, f19, e14]
        apply hK
        simp only [thenQ_normal]
        refine SW_seq ?_
        obtain ⟨x21, h22, hy10⟩ := bind_some hy10
        refine SW_reg fun K hK => ?_
        simp only [go_sem, ↓reduceIte, Nat.reduceAdd, reduceCtorEq, e14]
        refine SC.by_ (p_parse_parser_take_ok n x16.2 ([44] : Str) _ h22 _ _ _ P0 (by simp only [go_sem, ↓reduceIte, e14, hg0])) ?_
        simp only [go_sem, ↓reduceIte, Nat.reduceAdd]
        apply hK
        simp only [thenQ_normal]
        refine SW_if (!x21.1) (by simp only [go_sem, ↓reduceIte]) (fun c23 => ?_) (fun c23 => ?_)
        · replace hy10 := ite_t c23 hy10
          refine SW_exit ?_
          try simp only [thenQ_exit, blockQ_exit, ↓reduceIte, Nat.reduceEqDiff, thenQ_normal]
          obtain rfl := some_eq hy10
          obtain rfl := some_eq hy6
          refine ⟨by decide, (9 :: i7 :: 7 :: q), 0, ?_⟩
          simp only [go_sem, ↓reduceIte, Nat.reduceEqDiff, reduceCtorEq, back_tokset, back_out hpP0, hn1_0, hn2_0, c23, e14]
        · replace hy10 := ite_f c23 hy10
          refine SW_skip ?_
          try simp only [thenQ_normal, blockQ_normal]
          refine ⟨c11, Nat.lt_succ_self _, (v8 ++ [x16.1]), x21.2, (9 :: i7 :: 7 :: q), 0, hy10, ?_⟩
          simp only [go_sem, ↓reduceIte, Nat.reduceEqDiff, reduceCtorEq, back_tokset, back_out hpP0, hn1_0, hn2_0, c23, e14]
      · replace hy10 := ite_f c15 hy10
        refine SW_exit ?_
        try simp only [thenQ_exit, blockQ_exit, ↓reduceIte, thenQ_normal]
        obtain rfl := some_eq hy10
        obtain rfl := some_eq hy6
        refine ⟨by decide, o_v8, j_v8, ?_⟩
        simp only [go_sem, ↓reduceIte, Nat.reduceEqDiff, reduceCtorEq, c15, e14]
    · rintro E24 m25 ⟨oy6_5, jy6_5, e26⟩ _
      simp only [thenQ_normal]
      refine SW_seq ?_
      obtain ⟨x27, h28, h⟩ := bind_some h
      refine SW_reg fun K hK => ?_
      simp only [go_sem, ↓reduceIte, Nat.reduceAdd, e26]
      refine SC.by_ (p_parse_parser_need_ok n y6.2 ([41] : Str) _ h28 _ _ _ P0 (by simp only [go_sem, e26, hg0])) ?_
      simp only [go_sem, Nat.reduceAdd]
      apply hK
      simp only [thenQ_normal]
      refine SW_seq ?_
      refine SW_reg fun K hK => ?_
      simp only [go_sem, ↓reduceIte, Nat.reduceEqDiff, Nat.reduceAdd, e26]
      apply hK
      simp only [thenQ_normal]
      refine SW_ret ?_
      try simp only []
      obtain rfl := some_eq h
      refine ⟨by first | exact .inl rfl | exact .inl trivial | exact .inr rfl | exact .inr trivial, ?_⟩
      simp only [go_sem, ↓reduceIte, back_out hpP0, e26]

def p_parse_parser_plain_C (f : T_parse_parser → T_parse_Node → Int → Option (T_parse_Node × T_parse_parser)) : Prop := ∀ (a0 : T_parse_parser) (a1 : T_parse_Node) (a2 : Int) (r : (T_parse_Node × T_parse_parser)), f a0 a1 a2 = some r → ∀ (q : Pa) (m : M) (vs : List V) (P0 : Pa), vs.map V.weak1 = [.ptr P0 0, .agg ((T_parse_Node.C a1)), .lit (.int .i64 a2)] ∧ m.blk P0 = some ((T_parse_parser.C a0)) ∧ m.gl 0 = .eptr [(cA cS g_parse_words)] 0 0 ∧ m.gl 6 = .eptr [(cA (cA cS) g_parse_levels)] 0 0 → SC Tryd.prog 109 vs q m (fun v m' => v = .agg ((T_parse_Node.C r.1)) ∧ m' = (m.set P0 ((T_parse_parser.C r.2))))

theorem p_parse_parser_plain_ok (n : Nat) : p_parse_parser_plain_C (p_parse_parser_plain n) := by
  rintro a0 a1 a2 r h q m vs P0 ⟨hv, hmP0, hg0, hg6⟩
  refine SC.weak ?_
  rw [hv]
  refine SC.apart hmP0 fun hpP0 => ?_
  have hmsP0 := set_same hmP0
  try simp only [go_sem] at hmP0 hmsP0
  refine SC_of Tryd.func109 rfl (fun xs w => Tryd.call109 xs w) Tryd.ntmps109 (by kernel_rfl) (congrArg Array.toList Tryd.results109) V.weak (fun _ _ _ => V.weak_ok) ?_
  unfold p_parse_parser_plain at h
  refine SW_seq ?_
  refine SW_reg fun K hK => ?_
  simp only [go_sem, ↓reduceIte, Nat.reduceEqDiff, Nat.reduceAdd]
  apply hK
  simp only [thenQ_normal]
  refine SW_seq ?_
  obtain ⟨x5, h6, h⟩ := bind_some h
  refine SW_reg fun K hK => ?_
  simp only [go_sem, ↓reduceIte, Nat.reduceEqDiff, Nat.reduceAdd, reduceCtorEq]
  refine SC.by_ (p_parse_parser_name_ok n a0 _ h6 _ _ _ P0 (by simp only [go_sem, ↓reduceIte, pz1 hpP0, hmP0, hg0])) ?_
  simp only [go_sem, ↓reduceIte, Nat.reduceEqDiff, Nat.reduceAdd, Nat.reduceLeDiff, pz1 hpP0]
  apply hK
  simp only [thenQ_normal]
  refine SW_seq ?_
  obtain ⟨y7, hy7, h⟩ := bind_some h
  refine SW_joinK 37 [] [((1 :: q), 4)] rfl (fun E' m' => E' 3 = .ptr (0 :: q) 0 ∧ E' 4 = .ptr (1 :: q) 0 ∧ E' 6 = .ptr (3 :: q) 0 ∧ m'.blk P0 = some ((T_parse_parser.C y7.1)) ∧ m'.blk (0 :: q) = some ([.ptr P0 0]) ∧ m'.blk (1 :: q) = some ((T_parse_Node.C y7.2)) ∧ m'.blk (3 :: q) = some ([.lit (.int .i64 (0 : Int)), .lit (.int .i64 (0 : Int)), .lit (.string (bs [])), .lit (.int .u32 (0 : Int)), .list .self ([].map T_parse_Node.C)]) ∧ m'.gl = m.gl ∧ m.back q m' = (m.set P0 ((T_parse_parser.C y7.1)))) ?_ ?_
  · refine SW_block ?_
    refine SW_seq ?_
    obtain ⟨x8, h9, hy7⟩ := bind_some hy7
    refine SW_reg fun K hK => ?_
    simp only [go_sem, ↓reduceIte, Nat.reduceEqDiff, Nat.reduceAdd, reduceCtorEq, pz1 hpP0]
    refine SC.by_ (p_parse_parser_is_ok n x5.2 ([40] : Str) _ h9 _ _ _ P0 (by simp only [go_sem, ↓reduceIte, pz1 hpP0, hg0])) ?_
    simp only [go_sem, ↓reduceIte, Nat.reduceAdd]
    apply hK
    simp only [thenQ_normal]
    refine SW_if x8 (by simp only [go_sem, ↓reduceIte]) (fun c10 => ?_) (fun c10 => ?_)
    · replace hy7 := ite_t c10 hy7
      obtain ⟨x11, h12, hy7⟩ := bind_some hy7
      refine SW_reg fun K hK => ?_
      simp only [go_sem, ↓reduceIte, Nat.reduceEqDiff, Nat.reduceAdd, reduceCtorEq, pz1 hpP0, c10]
      refine SC.by_ (p_parse_parser_list__plain_1_ok n x5.2 a2 _ h12 _ _ _ P0 (0 :: q) (2 :: q) (by simp only [go_sem, ↓reduceIte, Nat.reduceEqDiff, reduceCtorEq, pz1 hpP0, hg0, hg6])) ?_
      simp only [go_sem, ↓reduceIte, Nat.reduceEqDiff, Nat.reduceAdd, Nat.reduceLeDiff, pz1 hpP0]
      apply hK
      simp only [thenQ_normal, blockQ_normal]
      obtain rfl := some_eq hy7
      refine ⟨by decide, ?_⟩
      simp only [go_sem, ↓reduceIte, Nat.reduceEqDiff, reduceCtorEq, back_set, back_self, back_out hpP0, pz1 hpP0]
    · replace hy7 := ite_f c10 hy7
      refine SW_seq ?_
      obtain ⟨x13, h14, hy7⟩ := bind_some hy7
      refine SW_reg fun K hK => ?_
      simp only [go_sem, ↓reduceIte, Nat.reduceEqDiff, Nat.reduceAdd, reduceCtorEq, pz1 hpP0, c10]
      refine SC.by_ (p_parse_parser_take_ok n x5.2 ([91] : Str) _ h14 _ _ _ P0 (by simp only [go_sem, ↓reduceIte, pz1 hpP0, hg0])) ?_
      simp only [go_sem, ↓reduceIte, Nat.reduceAdd]
      apply hK
      simp only [thenQ_normal]
      refine SW_if x13.1 (by simp only [go_sem, ↓reduceIte]) (fun c15 => ?_) (fun c15 => ?_)
      · replace hy7 := ite_t c15 hy7
        refine SW_seq ?_
        obtain ⟨x16, h17, hy7⟩ := bind_some hy7
        refine SW_reg fun K hK => ?_
        simp only [go_sem, ↓reduceIte, Nat.reduceEqDiff, Nat.reduceAdd, reduceCtorEq, pz1 hpP0, c15]
        refine SC.by_ (p_parse_parser_expr_ok n x13.2 (IntKind.i64.wrap (a2 + (2 : Int))) _ h17 _ _ _ P0 (by simp only [go_sem, ↓reduceIte, hg0, hg6])) ?_
        simp only [go_sem, ↓reduceIte, Nat.reduceEqDiff, Nat.reduceAdd, Nat.reduceLT, Nat.reduceLeDiff, pz1 hpP0]
        apply hK
        simp only [thenQ_normal]
        refine SW_seq ?_
        obtain ⟨x18, h19, hy7⟩ := bind_some hy7
        refine SW_reg fun K hK => ?_
        simp only [go_sem, ↓reduceIte, Nat.reduceEqDiff, Nat.reduceAdd, reduceCtorEq, pz1 hpP0]
        refine SC.by_ (p_parse_parser_need_ok n x16.2 ([93] : Str) _ h19 _ _ _ P0 (by simp only [go_sem, ↓reduceIte, pz1 hpP0, hg0])) ?_
        simp only [go_sem, Nat.reduceAdd]
        apply hK
        simp only [thenQ_normal]
        refine SW_seq ?_
        obtain ⟨x20, h21, hy7⟩ := bind_some hy7
        refine SW_reg fun K hK => ?_
        simp only [go_sem, ↓reduceIte, Nat.reduceEqDiff, Nat.reduceAdd, reduceCtorEq, pz1 hpP0]
        refine SC.by_ (p_parse_parser_need_ok n x18 ([61] : Str) _ h21 _ _ _ P0 (by simp only [go_sem, ↓reduceIte, hg0])) ?_
        simp only [go_sem, Nat.reduceAdd]
        apply hK
        simp only [thenQ_normal]
        obtain ⟨x22, h23, hy7⟩ := bind_some hy7
        obtain ⟨f24, hy7⟩ := need_some hy7
        refine SW_drawK (tbl := [0, 1, 0, 0, 8, 28, 60, 127, 255, 511]) (ord := [(2, 0), (3, 0), (4, 0), (5, 0), (0, 0), (1, 1), (6, 0), (7, 0), (8, 0), (9, 0)]) 37 rfl (by kernel_rfl) (by kernel_rfl) fun K hK => ?_
        simp only [go_sem, ↓reduceIte, Nat.reduceEqDiff, Nat.reduceAdd, reduceCtorEq, pz1 hpP0]
        refine dcall_of (p_parse_parser_expr_ok n x20 (IntKind.i64.wrap (a2 + (1 : Int))) _ h23 _ _ _ P0 (by simp only [go_sem, ↓reduceIte, hg0, hg6])) rfl ?_
        simp only [go_sem, ↓reduceIte, Nat.reduceEqDiff, Nat.reduceAdd, Nat.reduceLT, Nat.reduceLeDiff, pz1 hpP0]
        apply hK
        simp only [thenQ_normal, blockQ_normal]
        obtain rfl := some_eq hy7
        refine ⟨by decide, ?_⟩
        simp only [go_sem, ↓reduceIte, Nat.reduceEqDiff, reduceCtorEq, back_set, back_bump, back_tokset, back_self, back_out hpP0, pz1 hpP0]
      · replace hy7 := ite_f c15 hy7
        refine SW_seq ?_
        obtain ⟨x25, h26, hy7⟩ := bind_some hy7
        refine SW_reg fun K hK => ?_
        simp only [go_sem, ↓reduceIte, Nat.reduceEqDiff, Nat.reduceAdd, reduceCtorEq, pz1 hpP0, c15]
        refine SC.by_ (p_parse_parser_need_ok n x13.2 ([61] : Str) _ h26 _ _ _ P0 (by simp only [go_sem, ↓reduceIte, hg0])) ?_
        simp only [go_sem, Nat.reduceAdd]
        apply hK
        simp only [thenQ_normal]
        obtain ⟨x27, h28, hy7⟩ := bind_some hy7
        refine SW_reg fun K hK => ?_
        simp only [go_sem, ↓reduceIte, Nat.reduceEqDiff, Nat.reduceAdd, reduceCtorEq, pz1 hpP0]
        refine SC.by_ (p_parse_parser_expr_ok n x25 (IntKind.i64.wrap (a2 + (1 : Int))) _ h28 _ _ _ P0 (by simp only [go_sem, ↓reduceIte, hg0, hg6])) ?_
        simp only [go_sem, ↓reduceIte, Nat.reduceEqDiff, Nat.reduceAdd, Nat.reduceLT, Nat.reduceLeDiff, pz1 hpP0]
        apply hK
        simp only [thenQ_normal, blockQ_normal]
        obtain rfl := some_eq hy7
        refine ⟨by decide, ?_⟩
        simp only [go_sem, ↓reduceIte, Nat.reduceEqDiff, reduceCtorEq, back_set, back_bump, back_self, back_out hpP0, pz1 hpP0]
  · intro E29 m30 e31 _
    simp only [thenQ_normal]
    refine SW_seq ?_
    obtain ⟨x32, h33, h⟩ := bind_some h
    refine SW_reg fun K hK => ?_
    simp only [go_sem, ↓reduceIte, Nat.reduceAdd, e31]
    refine SC.by_ (p_parse_parser_need_ok n y7.1 ([59] : Str) _ h33 _ _ _ P0 (by simp only [go_sem, e31, hg0])) ?_
    simp only [go_sem, Nat.reduceAdd]
    apply hK
    simp only [thenQ_normal]
    refine SW_seq ?_
    refine SW_reg fun K hK => ?_
    simp only [go_sem, ↓reduceIte, Nat.reduceEqDiff, Nat.reduceAdd, pz1 hpP0, e31]
    apply hK
    simp only [thenQ_normal]
    refine SW_ret ?_
    try simp only []
    obtain rfl := some_eq h
    refine ⟨by first | exact .inl rfl | exact .inl trivial | exact .inr rfl | exact .inr trivial, ?_⟩
    simp only [go_sem, ↓reduceIte, Nat.reduceEqDiff, Nat.reduceAdd, back_set, back_out hpP0, e31]

def p_parse_parser_block_C (f : T_parse_parser → Int → Option (T_parse_Node × T_parse_parser)) : Prop := ∀ (a0 : T_parse_parser) (a1 : Int) (r : (T_parse_Node × T_parse_parser)), f a0 a1 = some r → ∀ (q : Pa) (m : M) (vs : List V) (P0 : Pa), vs.map V.weak1 = [.ptr P0 0, .lit (.int .i64 a1)] ∧ m.blk P0 = some ((T_parse_parser.C a0)) ∧ m.gl 0 = .eptr [(cA cS g_parse_words)] 0 0 ∧ m.gl 6 = .eptr [(cA (cA cS) g_parse_levels)] 0 0 → SC Tryd.prog 52 vs q m (fun v m' => v = .agg ((T_parse_Node.C r.1)) ∧ m' = (m.set P0 ((T_parse_parser.C r.2))))

def p_parse_parser_statement_C (f : T_parse_parser → Int → Option (T_parse_Node × T_parse_parser)) : Prop := ∀ (a0 : T_parse_parser) (a1 : Int) (r : (T_parse_Node × T_parse_parser)), f a0 a1 = some r → ∀ (q : Pa) (m : M) (vs : List V) (P0 : Pa), vs.map V.weak1 = [.ptr P0 0, .lit (.int .i64 a1)] ∧ m.blk P0 = some ((T_parse_parser.C a0)) ∧ m.gl 0 = .eptr [(cA cS g_parse_words)] 0 0 ∧ m.gl 6 = .eptr [(cA (cA cS) g_parse_levels)] 0 0 → SC Tryd.prog 89 vs q m (fun v m' => v = .agg ((T_parse_Node.C r.1)) ∧ m' = (m.set P0 ((T_parse_parser.C r.2))))

def p_parse_parser_choice_C (f : T_parse_parser → T_parse_Node → Int → Option (T_parse_Node × T_parse_parser)) : Prop := ∀ (a0 : T_parse_parser) (a1 : T_parse_Node) (a2 : Int) (r : (T_parse_Node × T_parse_parser)), f a0 a1 a2 = some r → ∀ (q : Pa) (m : M) (vs : List V) (P0 : Pa), vs.map V.weak1 = [.ptr P0 0, .agg ((T_parse_Node.C a1)), .lit (.int .i64 a2)] ∧ m.blk P0 = some ((T_parse_parser.C a0)) ∧ m.gl 0 = .eptr [(cA cS g_parse_words)] 0 0 ∧ m.gl 6 = .eptr [(cA (cA cS) g_parse_levels)] 0 0 → SC Tryd.prog 107 vs q m (fun v m' => v = .agg ((T_parse_Node.C r.1)) ∧ m' = (m.set P0 ((T_parse_parser.C r.2))))

def p_parse_parser_loop_C (f : T_parse_parser → T_parse_Node → Int → Option (T_parse_Node × T_parse_parser)) : Prop := ∀ (a0 : T_parse_parser) (a1 : T_parse_Node) (a2 : Int) (r : (T_parse_Node × T_parse_parser)), f a0 a1 a2 = some r → ∀ (q : Pa) (m : M) (vs : List V) (P0 : Pa), vs.map V.weak1 = [.ptr P0 0, .agg ((T_parse_Node.C a1)), .lit (.int .i64 a2)] ∧ m.blk P0 = some ((T_parse_parser.C a0)) ∧ m.gl 0 = .eptr [(cA cS g_parse_words)] 0 0 ∧ m.gl 6 = .eptr [(cA (cA cS) g_parse_levels)] 0 0 → SC Tryd.prog 108 vs q m (fun v m' => v = .agg ((T_parse_Node.C r.1)) ∧ m' = (m.set P0 ((T_parse_parser.C r.2))))

theorem p_parse_parser_block_b_ok {rec_p_parse_parser_statement : T_parse_parser → Int → Option (T_parse_Node × T_parse_parser)} (hrec_p_parse_parser_statement : p_parse_parser_statement_C rec_p_parse_parser_statement) (n : Nat) : p_parse_parser_block_C (p_parse_parser_block_b rec_p_parse_parser_statement n) := by
  rintro a0 a1 r h q m vs P0 ⟨hv, hmP0, hg0, hg6⟩
  refine SC.weak ?_
  rw [hv]
  refine SC.apart hmP0 fun hpP0 => ?_
  have hmsP0 := set_same hmP0
  try simp only [go_sem] at hmP0 hmsP0
  refine SC_of Tryd.func52 rfl (fun xs w => Tryd.call52 xs w) Tryd.ntmps52 (by kernel_rfl) (congrArg Array.toList Tryd.results52) V.weak (fun _ _ _ => V.weak_ok) ?_
  unfold p_parse_parser_block_b at h
  refine SW_seq ?_
  refine SW_reg fun K hK => ?_
  simp only [go_sem]
  apply hK
  simp only [thenQ_normal]
  refine SW_seq ?_
  obtain ⟨x2, h3, h⟩ := bind_some h
  refine SW_reg fun K hK => ?_
  simp only [go_sem, ↓reduceIte, Nat.reduceEqDiff, Nat.reduceAdd, reduceCtorEq]
  refine SC.by_ (p_parse_parser_deep_ok a0 a1 _ h3 _ _ _ P0 (by simp only [go_sem, ↓reduceIte, pz2 hpP0, hmP0])) ?_
  simp only [go_sem, Nat.reduceAdd]
  apply hK
  simp only [thenQ_normal]
  refine SW_seq ?_
  obtain ⟨x4, h6, h⟩ := bind_some h
  refine SW_reg fun K hK => ?_
  simp only [go_sem, ↓reduceIte, Nat.reduceAdd, reduceCtorEq]
  refine SC.mono (p_parse_parser_node_ok x2 (4 : Int) _ h6 _ _ _ P0 (by simp only [go_sem, ↓reduceIte])) ?_
  rintro _ _ ⟨o_x4, j_x4, s_x4, rfl, rfl⟩
  replace s_x4 : q <:+ o_x4 := List.IsSuffix.trans (by simp only [go_sem]) s_x4
  simp only [go_sem, ↓reduceIte, Nat.reduceEqDiff, Nat.reduceAdd]
  apply hK
  simp only [thenQ_normal]
  refine SW_seq ?_
  obtain ⟨x7, h8, h⟩ := bind_some h
  refine SW_reg fun K hK => ?_
  simp only [go_sem, ↓reduceIte, Nat.reduceAdd, reduceCtorEq]
  refine SC.by_ (p_parse_parser_need_ok n x4.2 ([123] : Str) _ h8 _ _ _ P0 (by simp only [go_sem, ↓reduceIte, pz2 hpP0, hg0])) ?_
  simp only [go_sem, Nat.reduceAdd]
  apply hK
  simp only [thenQ_normal]
  refine SW_seq ?_
  refine SW_block ?_
  obtain ⟨y12, hy12, h⟩ := bind_some h
  refine SW_countW [] [] rfl (fun c E' m' => ∃ (v10 : T_parse_parser), ∃ (v11 : T_parse_Node), p_parse_parser_block_l1 rec_p_parse_parser_statement n a1 c v10 v11 = some y12 ∧ E' 0 = .ptr P0 0 ∧ E' 1 = .lit (.int .i64 a1) ∧ E' 4 = .ptr (0 :: q) 0 ∧ E' 5 = .ptr (6 :: q) 0 ∧ m'.blk P0 = some ((T_parse_parser.C v10)) ∧ m'.blk (0 :: q) = some ([.lit (.int .i64 (0 : Int)), .lit (.int .i64 (0 : Int)), .lit (.string (bs [])), .lit (.int .u32 (0 : Int)), .list .self ([].map T_parse_Node.C)]) ∧ m'.blk (6 :: q) = some ([.lit (.int .i64 v11.Kind_), .lit (.int .i64 v11.At_), .lit (.string (bs v11.Text_)), .lit (.int .u32 v11.Num_), .list .self (v11.List_.map T_parse_Node.C)]) ∧ m'.gl = m.gl ∧ m.back q m' = (m.set P0 ((T_parse_parser.C v10)))) n ⟨x7, x4.1, hy12, ?_⟩ ?_
  · simp only [go_sem, ↓reduceIte, Nat.reduceEqDiff, reduceCtorEq, back_set, back_bump, back_tokset, back_self, back_out hpP0, pz2 hpP0, s_x4]
  rintro i9 c13 E14 m15 ⟨v10, v11, hy12, e16⟩ _
  rcases c13 with _ | c13
  · exact absurd hy12 (by rw [p_parse_parser_block_l1]; exact fun e => nomatch e)
  rw [p_parse_parser_block_l1] at hy12
  refine SW_seq ?_
  refine SW_seq ?_
  obtain ⟨y17, hy17, hy12⟩ := bind_some hy12
  refine SW_joinK 10 [] [] rfl (fun E' m' => E' 0 = .ptr P0 0 ∧ E' 1 = .lit (.int .i64 a1) ∧ E' 4 = .ptr (0 :: q) 0 ∧ E' 5 = .ptr (6 :: q) 0 ∧ E' 22 = .lit (.bool y17) ∧ m'.blk P0 = some ((T_parse_parser.C v10)) ∧ m'.blk (0 :: q) = some ([.lit (.int .i64 (0 : Int)), .lit (.int .i64 (0 : Int)), .lit (.string (bs [])), .lit (.int .u32 (0 : Int)), .list .self ([].map T_parse_Node.C)]) ∧ m'.blk (6 :: q) = some ([.lit (.int .i64 v11.Kind_), .lit (.int .i64 v11.At_), .lit (.string (bs v11.Text_)), .lit (.int .u32 v11.Num_), .list .self (v11.List_.map T_parse_Node.C)]) ∧ m'.gl = m.gl ∧ m.back q m' = (m.set P0 ((T_parse_parser.C v10)))) ?_ ?_
  · rcases bool_or (v10.e_ == (0 : Int)) with c18 | c18
    · replace hy17 := ite_t c18 hy17
      obtain ⟨x19, h20, hy17⟩ := bind_some hy17
      refine SW_reg fun K hK => ?_
      simp only [go_sem, ↓reduceIte, Nat.reduceEqDiff, Nat.reduceAdd, reduceCtorEq, c18, e16]
      refine SC.by_ (p_parse_parser_is_ok n v10 ([125] : Str) _ h20 _ _ _ P0 (by simp only [go_sem, e16, hg0])) ?_
      simp only [go_sem, ↓reduceIte, Nat.reduceEqDiff, Nat.reduceAdd]
      apply hK
      simp only [thenQ_normal]
      obtain rfl := some_eq hy17
      refine ⟨by decide, ?_⟩
      simp only [go_sem, ↓reduceIte, Nat.reduceEqDiff, reduceCtorEq, e16]
    · replace hy17 := ite_f c18 hy17
      refine SW_reg fun K hK => ?_
      simp only [go_sem, ↓reduceIte, Nat.reduceEqDiff, Nat.reduceAdd, c18, e16]
      apply hK
      simp only [thenQ_normal]
      obtain rfl := some_eq hy17
      refine ⟨by decide, ?_⟩
      simp only [go_sem, ↓reduceIte, Nat.reduceEqDiff, reduceCtorEq, e16]
  · intro E21 m22 e23 _
    simp only [thenQ_normal]
    refine SW_if y17 (by simp only [go_sem, e23]) (fun c24 => ?_) (fun c24 => ?_)
    · replace hy12 := ite_t c24 hy12
      refine SW_skip ?_
      try simp only [thenQ_normal]
      refine SW_block ?_
      obtain ⟨x25, h26, hy12⟩ := bind_some hy12
      obtain ⟨f27, hy12⟩ := need_some hy12
      have f28 : v11.List_.length + 1 ≤ 1073741824 := by first | omega | (simp only [List.length_append, List.length_cons, List.length_nil] at f27 ⊢; omega)
      have f29 : v11.List_.length ≤ 1073741823 := by first | omega | (simp only [List.length_append, List.length_cons, List.length_nil] at f27 ⊢; omega)
      refine SW_drawK (tbl := [0, 1, 0, 0, 12, 28, 63, 127, 255]) (ord := [(2, 0), (3, 0), (4, 0), (0, 0), (1, 1), (5, 0), (6, 0), (7, 0), (8, 0)]) 19 rfl (by kernel_rfl) (by kernel_rfl) fun K hK => ?_
      simp only [go_sem, ↓reduceIte, Nat.reduceEqDiff, Nat.reduceAdd, e23]
      refine dcall_of (hrec_p_parse_parser_statement v10 a1 _ h26 _ _ _ P0 (by simp only [go_sem, e23, hg0, hg6])) rfl ?_
      simp only [go_sem, ↓reduceIte, Nat.reduceEqDiff, Nat.reduceAdd, Nat.reduceLT, Nat.reduceLeDiff, pz2 hpP0, f28, e23]
      apply hK
      simp only [thenQ_normal, blockQ_normal]
      refine ⟨c13, Nat.lt_succ_self _, x25.2, ({ v11 with List_ := (v11.List_ ++ [x25.1]) } : T_parse_Node), hy12, ?_⟩
      simp only [go_sem, ↓reduceIte, Nat.reduceEqDiff, reduceCtorEq, back_set, back_bump, back_tokset, back_out hpP0, pz2 hpP0, e23]
    · replace hy12 := ite_f c24 hy12
      refine SW_exit ?_
      try simp only [thenQ_exit, blockQ_exit, ↓reduceIte, thenQ_normal]
      obtain rfl := some_eq hy12
      refine SW_seq ?_
      obtain ⟨x30, h31, h⟩ := bind_some h
      refine SW_reg fun K hK => ?_
      simp only [go_sem, ↓reduceIte, Nat.reduceAdd, e23]
      refine SC.by_ (p_parse_parser_need_ok n v10 ([125] : Str) _ h31 _ _ _ P0 (by simp only [go_sem, e23, hg0])) ?_
      simp only [go_sem, Nat.reduceAdd]
      apply hK
      simp only [thenQ_normal]
      refine SW_seq ?_
      refine SW_reg fun K hK => ?_
      simp only [go_sem, ↓reduceIte, Nat.reduceEqDiff, Nat.reduceAdd, pz2 hpP0, e23]
      apply hK
      simp only [thenQ_normal]
      refine SW_ret ?_
      try simp only []
      obtain rfl := some_eq h
      refine ⟨by first | exact .inl rfl | exact .inl trivial | exact .inr rfl | exact .inr trivial, ?_⟩
      simp only [go_sem, ↓reduceIte, Nat.reduceEqDiff, Nat.reduceAdd, back_set, back_out hpP0, e23]

theorem p_parse_parser_statement_b_ok {rec_p_parse_parser_choice : T_parse_parser → T_parse_Node → Int → Option (T_parse_Node × T_parse_parser)} (hrec_p_parse_parser_choice : p_parse_parser_choice_C rec_p_parse_parser_choice) {rec_p_parse_parser_loop : T_parse_parser → T_parse_Node → Int → Option (T_parse_Node × T_parse_parser)} (hrec_p_parse_parser_loop : p_parse_parser_loop_C rec_p_parse_parser_loop) (n : Nat) : p_parse_parser_statement_C (p_parse_parser_statement_b rec_p_parse_parser_choice rec_p_parse_parser_loop n) := by
  rintro a0 a1 r h q m vs P0 ⟨hv, hmP0, hg0, hg6⟩
  refine SC.weak ?_
  rw [hv]
  refine SC.apart hmP0 fun hpP0 => ?_
  have hmsP0 := set_same hmP0
  try simp only [go_sem] at hmP0 hmsP0
  refine SC_of Tryd.func89 rfl (fun xs w => Tryd.call89 xs w) Tryd.ntmps89 (by kernel_rfl) (congrArg Array.toList Tryd.results89) V.weak (fun _ _ _ => V.weak_ok) ?_
  unfold p_parse_parser_statement_b at h
  refine SW_seq ?_
  refine SW_reg fun K hK => ?_
  simp only [go_sem]
  apply hK
  simp only [thenQ_normal]
  refine SW_seq ?_
  obtain ⟨x2, h4, h⟩ := bind_some h
  refine SW_reg fun K hK => ?_
  simp only [go_sem, ↓reduceIte, Nat.reduceAdd, reduceCtorEq]
  refine SC.mono (p_parse_parser_node_ok a0 (8 : Int) _ h4 _ _ _ P0 (by simp only [go_sem, ↓reduceIte, pz1 hpP0, hmP0])) ?_
  rintro _ _ ⟨o_x2, j_x2, s_x2, rfl, rfl⟩
  replace s_x2 : q <:+ o_x2 := List.IsSuffix.trans (by simp only [go_sem]) s_x2
  simp only [go_sem, ↓reduceIte, Nat.reduceEqDiff, Nat.reduceAdd]
  apply hK
  simp only [thenQ_normal]
  refine SW_seq ?_
  obtain ⟨y5, hy5, h⟩ := bind_some h
  refine SW_joinK 26 [] [] rfl (fun E' m' => ∃ (y5a : (T_parse_parser × T_parse_Node)), y5 = .inl y5a ∧ E' 0 = .ptr P0 0 ∧ E' 4 = .ptr (0 :: q) 0 ∧ E' 5 = .ptr (3 :: q) 0 ∧ m'.blk P0 = some ((T_parse_parser.C y5a.1)) ∧ m'.blk (0 :: q) = some ([.lit (.int .i64 (0 : Int)), .lit (.int .i64 (0 : Int)), .lit (.string (bs [])), .lit (.int .u32 (0 : Int)), .list .self ([].map T_parse_Node.C)]) ∧ m'.blk (3 :: q) = some ([.lit (.int .i64 y5a.2.Kind_), .lit (.int .i64 y5a.2.At_), .lit (.string (bs y5a.2.Text_)), .lit (.int .u32 y5a.2.Num_), .list .self (y5a.2.List_.map T_parse_Node.C)]) ∧ m'.gl = m.gl ∧ m.back q m' = (m.set P0 ((T_parse_parser.C y5a.1)))) ?_ ?_
  · refine SW_block ?_
    refine SW_seq ?_
    obtain ⟨x6, h7, hy5⟩ := bind_some hy5
    refine SW_reg fun K hK => ?_
    simp only [go_sem, ↓reduceIte, Nat.reduceAdd, reduceCtorEq]
    refine SC.by_ (p_parse_parser_take_ok n x2.2 ([108, 101, 116] : Str) _ h7 _ _ _ P0 (by simp only [go_sem, ↓reduceIte, pz1 hpP0, hg0])) ?_
    simp only [go_sem, ↓reduceIte, Nat.reduceAdd]
    apply hK
    simp only [thenQ_normal]
    refine SW_if x6.1 (by simp only [go_sem, ↓reduceIte]) (fun c8 => ?_) (fun c8 => ?_)
    · replace hy5 := ite_t c8 hy5
      refine SW_seq ?_
      refine SW_reg fun K hK => ?_
      simp only [go_sem, ↓reduceIte, Nat.reduceEqDiff, Nat.reduceAdd, Nat.reduceLeDiff, pz1 hpP0, c8]
      apply hK
      simp only [thenQ_normal]
      refine SW_seq ?_
      obtain ⟨x9, h10, hy5⟩ := bind_some hy5
      refine SW_reg fun K hK => ?_
      simp only [go_sem, ↓reduceIte, Nat.reduceEqDiff, Nat.reduceAdd, reduceCtorEq]
      refine SC.by_ (p_parse_parser_named_ok n x6.2 ({ x2.1 with Kind_ := (5 : Int) } : T_parse_Node) (IntKind.i64.wrap (a1 + (1 : Int))) _ h10 _ _ _ P0 (by simp only [go_sem, ↓reduceIte, pz1 hpP0, hg0, hg6])) ?_
      simp only [go_sem, ↓reduceIte, Nat.reduceEqDiff, Nat.reduceAdd, reduceCtorEq, pz1 hpP0]
      apply hK
      simp only [thenQ_normal]
      refine SW_ret ?_
      try simp only [thenQ_ret, blockQ_ret]
      obtain rfl := some_eq hy5
      simp only [Sum.elim_inr] at h
      obtain rfl := some_eq h
      refine ⟨by first | exact .inl rfl | exact .inl trivial | exact .inr rfl | exact .inr trivial, ?_⟩
      simp only [go_sem, ↓reduceIte, Nat.reduceEqDiff, Nat.reduceAdd, back_set, back_bump, back_tokset, back_self, back_out hpP0, s_x2]
    · replace hy5 := ite_f c8 hy5
      refine SW_seq ?_
      obtain ⟨x11, h12, hy5⟩ := bind_some hy5
      refine SW_reg fun K hK => ?_
      simp only [go_sem, ↓reduceIte, Nat.reduceAdd, reduceCtorEq, c8]
      refine SC.by_ (p_parse_parser_take_ok n x6.2 ([118, 97, 114] : Str) _ h12 _ _ _ P0 (by simp only [go_sem, ↓reduceIte, hg0])) ?_
      simp only [go_sem, ↓reduceIte, Nat.reduceAdd]
      apply hK
      simp only [thenQ_normal]
      refine SW_if x11.1 (by simp only [go_sem, ↓reduceIte]) (fun c13 => ?_) (fun c13 => ?_)
      · replace hy5 := ite_t c13 hy5
        refine SW_seq ?_
        refine SW_reg fun K hK => ?_
        simp only [go_sem, ↓reduceIte, Nat.reduceEqDiff, Nat.reduceAdd, Nat.reduceLeDiff, pz1 hpP0, c13]
        apply hK
        simp only [thenQ_normal]
        refine SW_seq ?_
        obtain ⟨x14, h15, hy5⟩ := bind_some hy5
        refine SW_reg fun K hK => ?_
        simp only [go_sem, ↓reduceIte, Nat.reduceEqDiff, Nat.reduceAdd, reduceCtorEq]
        refine SC.by_ (p_parse_parser_named_ok n x11.2 ({ x2.1 with Kind_ := (6 : Int) } : T_parse_Node) (IntKind.i64.wrap (a1 + (1 : Int))) _ h15 _ _ _ P0 (by simp only [go_sem, ↓reduceIte, pz1 hpP0, hg0, hg6])) ?_
        simp only [go_sem, ↓reduceIte, Nat.reduceEqDiff, Nat.reduceAdd, reduceCtorEq, pz1 hpP0]
        apply hK
        simp only [thenQ_normal]
        refine SW_ret ?_
        try simp only [thenQ_ret, blockQ_ret]
        obtain rfl := some_eq hy5
        simp only [Sum.elim_inr] at h
        obtain rfl := some_eq h
        refine ⟨by first | exact .inl rfl | exact .inl trivial | exact .inr rfl | exact .inr trivial, ?_⟩
        simp only [go_sem, ↓reduceIte, Nat.reduceEqDiff, Nat.reduceAdd, back_set, back_bump, back_tokset, back_self, back_out hpP0, s_x2]
      · replace hy5 := ite_f c13 hy5
        refine SW_seq ?_
        obtain ⟨x16, h17, hy5⟩ := bind_some hy5
        refine SW_reg fun K hK => ?_
        simp only [go_sem, ↓reduceIte, Nat.reduceAdd, reduceCtorEq, c13]
        refine SC.by_ (p_parse_parser_take_ok n x11.2 ([97, 114, 114] : Str) _ h17 _ _ _ P0 (by simp only [go_sem, ↓reduceIte, hg0])) ?_
        simp only [go_sem, ↓reduceIte, Nat.reduceAdd]
        apply hK
        simp only [thenQ_normal]
        refine SW_if x16.1 (by simp only [go_sem, ↓reduceIte]) (fun c18 => ?_) (fun c18 => ?_)
        · replace hy5 := ite_t c18 hy5
          refine SW_seq ?_
          obtain ⟨x19, h20, hy5⟩ := bind_some hy5
          refine SW_reg fun K hK => ?_
          simp only [go_sem, ↓reduceIte, Nat.reduceAdd, reduceCtorEq, c18]
          refine SC.by_ (p_parse_parser_name_ok n x16.2 _ h20 _ _ _ P0 (by simp only [go_sem, ↓reduceIte, hg0])) ?_
          simp only [go_sem, ↓reduceIte, Nat.reduceEqDiff, Nat.reduceAdd, Nat.reduceLeDiff, pz1 hpP0]
          apply hK
          simp only [thenQ_normal]
          obtain ⟨x21, h22, hy5⟩ := bind_some hy5
          refine SW_reg fun K hK => ?_
          simp only [go_sem, ↓reduceIte, Nat.reduceAdd, reduceCtorEq]
          refine SC.by_ (p_parse_parser_size_ok n x19.2 _ h22 _ _ _ P0 (by simp only [go_sem, ↓reduceIte, pz1 hpP0, hg0])) ?_
          simp only [go_sem, ↓reduceIte, Nat.reduceEqDiff, Nat.reduceAdd, Nat.reduceLeDiff, pz1 hpP0]
          apply hK
          simp only [thenQ_normal, blockQ_normal]
          obtain rfl := some_eq hy5
          refine ⟨by decide, (x21.2, ({ x2.1 with Kind_ := (7 : Int), Text_ := x19.1, Num_ := x21.1 } : T_parse_Node)), rfl, ?_⟩
          simp only [go_sem, ↓reduceIte, Nat.reduceEqDiff, reduceCtorEq, back_set, back_bump, back_tokset, back_self, back_out hpP0, pz1 hpP0, s_x2]
        · replace hy5 := ite_f c18 hy5
          refine SW_seq ?_
          obtain ⟨x23, h24, hy5⟩ := bind_some hy5
          refine SW_reg fun K hK => ?_
          simp only [go_sem, ↓reduceIte, Nat.reduceAdd, reduceCtorEq, c18]
          refine SC.by_ (p_parse_parser_take_ok n x16.2 ([114, 101, 116, 117, 114, 110] : Str) _ h24 _ _ _ P0 (by simp only [go_sem, ↓reduceIte, hg0])) ?_
          simp only [go_sem, ↓reduceIte, Nat.reduceAdd]
          apply hK
          simp only [thenQ_normal]
          refine SW_if x23.1 (by simp only [go_sem, ↓reduceIte]) (fun c25 => ?_) (fun c25 => ?_)
          · replace hy5 := ite_t c25 hy5
            obtain ⟨x26, h27, hy5⟩ := bind_some hy5
            refine SW_reg fun K hK => ?_
            simp only [go_sem, ↓reduceIte, Nat.reduceEqDiff, Nat.reduceAdd, reduceCtorEq, c25]
            refine SC.by_ (p_parse_parser_expr_ok n x23.2 (IntKind.i64.wrap (a1 + (1 : Int))) _ h27 _ _ _ P0 (by simp only [go_sem, ↓reduceIte, hg0, hg6])) ?_
            simp only [go_sem, ↓reduceIte, Nat.reduceEqDiff, Nat.reduceAdd, Nat.reduceLT, Nat.reduceLeDiff, pz1 hpP0]
            apply hK
            simp only [thenQ_normal, blockQ_normal]
            obtain rfl := some_eq hy5
            refine ⟨by decide, (x26.2, ({ x2.1 with Kind_ := (13 : Int), List_ := [x26.1] } : T_parse_Node)), rfl, ?_⟩
            simp only [go_sem, ↓reduceIte, Nat.reduceEqDiff, reduceCtorEq, back_set, back_bump, back_tokset, back_self, back_out hpP0, pz1 hpP0, s_x2]
          · replace hy5 := ite_f c25 hy5
            refine SW_seq ?_
            obtain ⟨x28, h29, hy5⟩ := bind_some hy5
            refine SW_reg fun K hK => ?_
            simp only [go_sem, ↓reduceIte, Nat.reduceAdd, reduceCtorEq, c25]
            refine SC.by_ (p_parse_parser_take_ok n x23.2 ([105, 102] : Str) _ h29 _ _ _ P0 (by simp only [go_sem, ↓reduceIte, hg0])) ?_
            simp only [go_sem, ↓reduceIte, Nat.reduceAdd]
            apply hK
            simp only [thenQ_normal]
            refine SW_if x28.1 (by simp only [go_sem, ↓reduceIte]) (fun c30 => ?_) (fun c30 => ?_)
            · replace hy5 := ite_t c30 hy5
              refine SW_seq ?_
              obtain ⟨x31, h32, hy5⟩ := bind_some hy5
              refine SW_reg fun K hK => ?_
              simp only [go_sem, ↓reduceIte, Nat.reduceEqDiff, Nat.reduceAdd, reduceCtorEq, pz1 hpP0, c30]
              refine SC.by_ (hrec_p_parse_parser_choice x28.2 x2.1 a1 _ h32 _ _ _ P0 (by simp only [go_sem, ↓reduceIte, hg0, hg6])) ?_
              simp only [go_sem, ↓reduceIte, Nat.reduceEqDiff, Nat.reduceAdd, reduceCtorEq, pz1 hpP0]
              apply hK
              simp only [thenQ_normal]
              refine SW_ret ?_
              try simp only [thenQ_ret, blockQ_ret]
              obtain rfl := some_eq hy5
              simp only [Sum.elim_inr] at h
              obtain rfl := some_eq h
              refine ⟨by first | exact .inl rfl | exact .inl trivial | exact .inr rfl | exact .inr trivial, ?_⟩
              simp only [go_sem, ↓reduceIte, Nat.reduceEqDiff, Nat.reduceAdd, back_set, back_bump, back_tokset, back_self, back_out hpP0, s_x2]
            · replace hy5 := ite_f c30 hy5
              refine SW_seq ?_
              obtain ⟨x33, h34, hy5⟩ := bind_some hy5
              refine SW_reg fun K hK => ?_
              simp only [go_sem, ↓reduceIte, Nat.reduceAdd, reduceCtorEq, c30]
              refine SC.by_ (p_parse_parser_take_ok n x28.2 ([102, 111, 114] : Str) _ h34 _ _ _ P0 (by simp only [go_sem, ↓reduceIte, hg0])) ?_
              simp only [go_sem, ↓reduceIte, Nat.reduceAdd]
              apply hK
              simp only [thenQ_normal]
              refine SW_if x33.1 (by simp only [go_sem, ↓reduceIte]) (fun c35 => ?_) (fun c35 => ?_)
              · replace hy5 := ite_t c35 hy5
                refine SW_seq ?_
                obtain ⟨x36, h37, hy5⟩ := bind_some hy5
                refine SW_reg fun K hK => ?_
                simp only [go_sem, ↓reduceIte, Nat.reduceEqDiff, Nat.reduceAdd, reduceCtorEq, pz1 hpP0, c35]
                refine SC.by_ (hrec_p_parse_parser_loop x33.2 x2.1 a1 _ h37 _ _ _ P0 (by simp only [go_sem, ↓reduceIte, hg0, hg6])) ?_
                simp only [go_sem, ↓reduceIte, Nat.reduceEqDiff, Nat.reduceAdd, reduceCtorEq, pz1 hpP0]
                apply hK
                simp only [thenQ_normal]
                refine SW_ret ?_
                try simp only [thenQ_ret, blockQ_ret]
                obtain rfl := some_eq hy5
                simp only [Sum.elim_inr] at h
                obtain rfl := some_eq h
                refine ⟨by first | exact .inl rfl | exact .inl trivial | exact .inr rfl | exact .inr trivial, ?_⟩
                simp only [go_sem, ↓reduceIte, Nat.reduceEqDiff, Nat.reduceAdd, back_set, back_bump, back_tokset, back_self, back_out hpP0, s_x2]
              · replace hy5 := ite_f c35 hy5
                refine SW_seq ?_
                obtain ⟨x38, h39, hy5⟩ := bind_some hy5
                refine SW_reg fun K hK => ?_
                simp only [go_sem, ↓reduceIte, Nat.reduceEqDiff, Nat.reduceAdd, reduceCtorEq, pz1 hpP0, c35]
                refine SC.by_ (p_parse_parser_plain_ok n x33.2 x2.1 a1 _ h39 _ _ _ P0 (by simp only [go_sem, ↓reduceIte, hg0, hg6])) ?_
                simp only [go_sem, ↓reduceIte, Nat.reduceEqDiff, Nat.reduceAdd, reduceCtorEq, pz1 hpP0]
                apply hK
                simp only [thenQ_normal]
                refine SW_ret ?_
                try simp only [thenQ_ret, blockQ_ret]
                obtain rfl := some_eq hy5
                simp only [Sum.elim_inr] at h
                obtain rfl := some_eq h
                refine ⟨by first | exact .inl rfl | exact .inl trivial | exact .inr rfl | exact .inr trivial, ?_⟩
                simp only [go_sem, ↓reduceIte, Nat.reduceEqDiff, Nat.reduceAdd, back_set, back_bump, back_tokset, back_self, back_out hpP0, s_x2]
  · rintro E40 m41 ⟨y5a, rfl, e42⟩ _
    simp only [Sum.elim_inl] at h
    simp only [thenQ_normal]
    refine SW_seq ?_
    obtain ⟨x43, h44, h⟩ := bind_some h
    refine SW_reg fun K hK => ?_
    simp only [go_sem, ↓reduceIte, Nat.reduceAdd, e42]
    refine SC.by_ (p_parse_parser_need_ok n y5a.1 ([59] : Str) _ h44 _ _ _ P0 (by simp only [go_sem, e42, hg0])) ?_
    simp only [go_sem, Nat.reduceAdd]
    apply hK
    simp only [thenQ_normal]
    refine SW_seq ?_
    refine SW_reg fun K hK => ?_
    simp only [go_sem, ↓reduceIte, Nat.reduceEqDiff, Nat.reduceAdd, pz1 hpP0, e42]
    apply hK
    simp only [thenQ_normal]
    refine SW_ret ?_
    try simp only []
    obtain rfl := some_eq h
    refine ⟨by first | exact .inl rfl | exact .inl trivial | exact .inr rfl | exact .inr trivial, ?_⟩
    simp only [go_sem, ↓reduceIte, Nat.reduceEqDiff, Nat.reduceAdd, back_set, back_out hpP0, e42]

theorem p_parse_parser_choice_b_ok {rec_p_parse_parser_block : T_parse_parser → Int → Option (T_parse_Node × T_parse_parser)} (hrec_p_parse_parser_block : p_parse_parser_block_C rec_p_parse_parser_block) (n : Nat) : p_parse_parser_choice_C (p_parse_parser_choice_b rec_p_parse_parser_block n) := by
  rintro a0 a1 a2 r h q m vs P0 ⟨hv, hmP0, hg0, hg6⟩
  refine SC.weak ?_
  rw [hv]
  refine SC.apart hmP0 fun hpP0 => ?_
  have hmsP0 := set_same hmP0
  try simp only [go_sem] at hmP0 hmsP0
  refine SC_of Tryd.func107 rfl (fun xs w => Tryd.call107 xs w) Tryd.ntmps107 (by kernel_rfl) (congrArg Array.toList Tryd.results107) V.weak (fun _ _ _ => V.weak_ok) ?_
  unfold p_parse_parser_choice_b at h
  refine SW_seq ?_
  refine SW_reg fun K hK => ?_
  simp only [go_sem, Nat.reduceAdd]
  apply hK
  simp only [thenQ_normal]
  refine SW_seq ?_
  obtain ⟨x3, h4, h⟩ := bind_some h
  refine SW_reg fun K hK => ?_
  simp only [go_sem, ↓reduceIte, Nat.reduceEqDiff, Nat.reduceAdd, reduceCtorEq]
  refine SC.by_ (p_parse_parser_expr_ok n a0 (IntKind.i64.wrap (a2 + (1 : Int))) _ h4 _ _ _ P0 (by simp only [go_sem, ↓reduceIte, pz1 hpP0, hmP0, hg0, hg6])) ?_
  simp only [go_sem, ↓reduceIte, Nat.reduceEqDiff, Nat.reduceAdd, Nat.reduceLT, Nat.reduceLeDiff, pz1 hpP0]
  apply hK
  simp only [thenQ_normal]
  refine SW_seq ?_
  obtain ⟨x5, h6, h⟩ := bind_some h
  obtain ⟨f7, h⟩ := need_some h
  refine SW_drawK (tbl := [0, 1, 0, 0, 8, 28, 60, 127, 255, 511]) (ord := [(2, 0), (3, 0), (4, 0), (5, 0), (0, 0), (1, 1), (6, 0), (7, 0), (8, 0), (9, 0)]) 21 rfl (by kernel_rfl) (by kernel_rfl) fun K hK => ?_
  simp only [go_sem, ↓reduceIte, Nat.reduceEqDiff, Nat.reduceAdd, reduceCtorEq]
  refine dcall_of (hrec_p_parse_parser_block x3.2 (IntKind.i64.wrap (a2 + (1 : Int))) _ h6 _ _ _ P0 (by simp only [go_sem, ↓reduceIte, pz1 hpP0, hg0, hg6])) rfl ?_
  simp only [go_sem, ↓reduceIte, Nat.reduceEqDiff, Nat.reduceAdd, Nat.reduceLT, Nat.reduceLeDiff, pz1 hpP0]
  apply hK
  simp only [thenQ_normal]
  refine SW_seq ?_
  refine SW_seq ?_
  obtain ⟨x8, h9, h⟩ := bind_some h
  refine SW_reg fun K hK => ?_
  simp only [go_sem, ↓reduceIte, Nat.reduceAdd, reduceCtorEq]
  refine SC.by_ (p_parse_parser_take_ok n x5.2 ([101, 108, 115, 101] : Str) _ h9 _ _ _ P0 (by simp only [go_sem, ↓reduceIte, pz1 hpP0, hg0])) ?_
  simp only [go_sem, Nat.reduceAdd]
  apply hK
  simp only [thenQ_normal]
  refine SW_if x8.1 (by simp only [go_sem, ↓reduceIte]) (fun c10 => ?_) (fun c10 => ?_)
  · replace h := ite_t c10 h
    obtain ⟨x11, h12, h⟩ := bind_some h
    obtain ⟨f13, h⟩ := need_some h
    have f14 : 1 + 1 + 1 ≤ 1073741824 := by first | omega | (simp only [List.length_append, List.length_cons, List.length_nil] at f13 ⊢; omega)
    refine SW_drawK (tbl := [0, 1, 0, 0, 8, 28, 60, 127, 255, 511]) (ord := [(2, 0), (3, 0), (4, 0), (5, 0), (0, 0), (1, 1), (6, 0), (7, 0), (8, 0), (9, 0)]) 33 rfl (by kernel_rfl) (by kernel_rfl) fun K hK => ?_
    simp only [go_sem, ↓reduceIte, Nat.reduceEqDiff, Nat.reduceAdd, reduceCtorEq, c10]
    refine dcall_of (hrec_p_parse_parser_block x8.2 (IntKind.i64.wrap (a2 + (1 : Int))) _ h12 _ _ _ P0 (by simp only [go_sem, ↓reduceIte, hg0, hg6])) rfl ?_
    simp only [go_sem, ↓reduceIte, Nat.reduceEqDiff, Nat.reduceAdd, Nat.reduceLT, Nat.reduceLeDiff, pz1 hpP0, f14]
    apply hK
    simp only [thenQ_normal]
    refine SW_seq ?_
    refine SW_reg fun K hK => ?_
    simp only [go_sem, ↓reduceIte, Nat.reduceEqDiff, Nat.reduceAdd, pz1 hpP0]
    apply hK
    simp only [thenQ_normal]
    refine SW_ret ?_
    try simp only []
    obtain rfl := some_eq h
    refine ⟨by first | exact .inl rfl | exact .inl trivial | exact .inr rfl | exact .inr trivial, ?_⟩
    simp only [go_sem, ↓reduceIte, Nat.reduceEqDiff, Nat.reduceAdd, back_set, back_bump, back_tokset, back_self, back_out hpP0]
  · replace h := ite_f c10 h
    refine SW_skip ?_
    try simp only [thenQ_normal]
    refine SW_seq ?_
    refine SW_reg fun K hK => ?_
    simp only [go_sem, ↓reduceIte, Nat.reduceEqDiff, Nat.reduceAdd, pz1 hpP0, c10]
    apply hK
    simp only [thenQ_normal]
    refine SW_ret ?_
    try simp only []
    obtain rfl := some_eq h
    refine ⟨by first | exact .inl rfl | exact .inl trivial | exact .inr rfl | exact .inr trivial, ?_⟩
    simp only [go_sem, ↓reduceIte, Nat.reduceEqDiff, Nat.reduceAdd, back_set, back_bump, back_tokset, back_self, back_out hpP0]

theorem p_parse_parser_loop_b_ok {rec_p_parse_parser_block : T_parse_parser → Int → Option (T_parse_Node × T_parse_parser)} (hrec_p_parse_parser_block : p_parse_parser_block_C rec_p_parse_parser_block) (n : Nat) : p_parse_parser_loop_C (p_parse_parser_loop_b rec_p_parse_parser_block n) := by
  rintro a0 a1 a2 r h q m vs P0 ⟨hv, hmP0, hg0, hg6⟩
  refine SC.weak ?_
  rw [hv]
  refine SC.apart hmP0 fun hpP0 => ?_
  have hmsP0 := set_same hmP0
  try simp only [go_sem] at hmP0 hmsP0
  refine SC_of Tryd.func108 rfl (fun xs w => Tryd.call108 xs w) Tryd.ntmps108 (by kernel_rfl) (congrArg Array.toList Tryd.results108) V.weak (fun _ _ _ => V.weak_ok) ?_
  unfold p_parse_parser_loop_b at h
  refine SW_seq ?_
  refine SW_reg fun K hK => ?_
  simp only [go_sem, Nat.reduceAdd]
  apply hK
  simp only [thenQ_normal]
  refine SW_seq ?_
  obtain ⟨x3, h4, h⟩ := bind_some h
  refine SW_reg fun K hK => ?_
  simp only [go_sem, ↓reduceIte, Nat.reduceAdd, reduceCtorEq]
  refine SC.by_ (p_parse_parser_name_ok n a0 _ h4 _ _ _ P0 (by simp only [go_sem, ↓reduceIte, pz1 hpP0, hmP0, hg0])) ?_
  simp only [go_sem, ↓reduceIte, Nat.reduceEqDiff, Nat.reduceAdd, Nat.reduceLeDiff, pz1 hpP0]
  apply hK
  simp only [thenQ_normal]
  refine SW_seq ?_
  obtain ⟨x5, h6, h⟩ := bind_some h
  refine SW_reg fun K hK => ?_
  simp only [go_sem, ↓reduceIte, Nat.reduceAdd, reduceCtorEq]
  refine SC.by_ (p_parse_parser_need_ok n x3.2 ([105, 110] : Str) _ h6 _ _ _ P0 (by simp only [go_sem, ↓reduceIte, pz1 hpP0, hg0])) ?_
  simp only [go_sem, Nat.reduceAdd]
  apply hK
  simp only [thenQ_normal]
  refine SW_seq ?_
  obtain ⟨x7, h8, h⟩ := bind_some h
  refine SW_reg fun K hK => ?_
  simp only [go_sem, ↓reduceIte, Nat.reduceEqDiff, Nat.reduceAdd, reduceCtorEq]
  refine SC.by_ (p_parse_parser_expr_ok n x5 (IntKind.i64.wrap (a2 + (1 : Int))) _ h8 _ _ _ P0 (by simp only [go_sem, ↓reduceIte, hg0, hg6])) ?_
  simp only [go_sem, ↓reduceIte, Nat.reduceEqDiff, Nat.reduceAdd, Nat.reduceLT, Nat.reduceLeDiff, pz1 hpP0]
  apply hK
  simp only [thenQ_normal]
  refine SW_seq ?_
  obtain ⟨x9, h10, h⟩ := bind_some h
  refine SW_reg fun K hK => ?_
  simp only [go_sem, ↓reduceIte, Nat.reduceAdd, reduceCtorEq]
  refine SC.by_ (p_parse_parser_need_ok n x7.2 ([46, 46] : Str) _ h10 _ _ _ P0 (by simp only [go_sem, ↓reduceIte, pz1 hpP0, hg0])) ?_
  simp only [go_sem, Nat.reduceAdd]
  apply hK
  simp only [thenQ_normal]
  refine SW_seq ?_
  obtain ⟨x11, h12, h⟩ := bind_some h
  obtain ⟨f13, h⟩ := need_some h
  refine SW_drawK (tbl := [0, 1, 0, 0, 8, 28, 60, 127, 255, 511]) (ord := [(2, 0), (3, 0), (4, 0), (5, 0), (0, 0), (1, 1), (6, 0), (7, 0), (8, 0), (9, 0)]) 29 rfl (by kernel_rfl) (by kernel_rfl) fun K hK => ?_
  simp only [go_sem, ↓reduceIte, Nat.reduceEqDiff, Nat.reduceAdd, reduceCtorEq]
  refine dcall_of (p_parse_parser_expr_ok n x9 (IntKind.i64.wrap (a2 + (1 : Int))) _ h12 _ _ _ P0 (by simp only [go_sem, ↓reduceIte, hg0, hg6])) rfl ?_
  simp only [go_sem, ↓reduceIte, Nat.reduceEqDiff, Nat.reduceAdd, Nat.reduceLT, Nat.reduceLeDiff, pz1 hpP0]
  apply hK
  simp only [thenQ_normal]
  refine SW_seq ?_
  obtain ⟨x14, h15, h⟩ := bind_some h
  obtain ⟨f16, h⟩ := need_some h
  have f17 : 1 + 1 + 1 ≤ 1073741824 := by first | omega | (simp only [List.length_append, List.length_cons, List.length_nil] at f16 ⊢; omega)
  refine SW_drawK (tbl := [0, 1, 0, 0, 8, 28, 60, 127, 255, 511]) (ord := [(2, 0), (3, 0), (4, 0), (5, 0), (0, 0), (1, 1), (6, 0), (7, 0), (8, 0), (9, 0)]) 39 rfl (by kernel_rfl) (by kernel_rfl) fun K hK => ?_
  simp only [go_sem, ↓reduceIte, Nat.reduceEqDiff, Nat.reduceAdd, reduceCtorEq]
  refine dcall_of (hrec_p_parse_parser_block x11.2 (IntKind.i64.wrap (a2 + (1 : Int))) _ h15 _ _ _ P0 (by simp only [go_sem, ↓reduceIte, pz1 hpP0, hg0, hg6])) rfl ?_
  simp only [go_sem, ↓reduceIte, Nat.reduceEqDiff, Nat.reduceAdd, Nat.reduceLT, Nat.reduceLeDiff, pz1 hpP0, f17]
  apply hK
  simp only [thenQ_normal]
  refine SW_seq ?_
  refine SW_reg fun K hK => ?_
  simp only [go_sem, ↓reduceIte, Nat.reduceEqDiff, Nat.reduceAdd, pz1 hpP0]
  apply hK
  simp only [thenQ_normal]
  refine SW_ret ?_
  try simp only []
  obtain rfl := some_eq h
  refine ⟨by first | exact .inl rfl | exact .inl trivial | exact .inr rfl | exact .inr trivial, ?_⟩
  simp only [go_sem, ↓reduceIte, Nat.reduceEqDiff, Nat.reduceAdd, back_set, back_bump, back_tokset, back_self, back_out hpP0]

theorem p_parse_parser_block_grp_ok : ∀ n, p_parse_parser_block_C (p_parse_parser_block n) ∧ p_parse_parser_statement_C (p_parse_parser_statement n) ∧ p_parse_parser_choice_C (p_parse_parser_choice n) ∧ p_parse_parser_loop_C (p_parse_parser_loop n)
  | 0 => ⟨fun _ _ _ h => none_some_ h, fun _ _ _ h => none_some_ h, fun _ _ _ _ h => none_some_ h, fun _ _ _ _ h => none_some_ h⟩
  | n + 1 =>
    have ih := p_parse_parser_block_grp_ok n
    ⟨p_parse_parser_block_b_ok ih.2.1 n, p_parse_parser_statement_b_ok ih.2.2.1 ih.2.2.2 n, p_parse_parser_choice_b_ok ih.1 n, p_parse_parser_loop_b_ok ih.1 n⟩
theorem p_parse_parser_block_ok (n : Nat) : p_parse_parser_block_C (p_parse_parser_block n) := (p_parse_parser_block_grp_ok n).1
theorem p_parse_parser_statement_ok (n : Nat) : p_parse_parser_statement_C (p_parse_parser_statement n) := (p_parse_parser_block_grp_ok n).2.1
theorem p_parse_parser_choice_ok (n : Nat) : p_parse_parser_choice_C (p_parse_parser_choice n) := (p_parse_parser_block_grp_ok n).2.2.1
theorem p_parse_parser_loop_ok (n : Nat) : p_parse_parser_loop_C (p_parse_parser_loop n) := (p_parse_parser_block_grp_ok n).2.2.2

def p_parse_parser_function_C (f : T_parse_parser → Option (T_parse_Node × T_parse_parser)) : Prop := ∀ (a0 : T_parse_parser) (r : (T_parse_Node × T_parse_parser)), f a0 = some r → ∀ (q : Pa) (m : M) (vs : List V) (P0 : Pa), vs.map V.weak1 = [.ptr P0 0] ∧ m.blk P0 = some ((T_parse_parser.C a0)) ∧ m.gl 0 = .eptr [(cA cS g_parse_words)] 0 0 ∧ m.gl 6 = .eptr [(cA (cA cS) g_parse_levels)] 0 0 → SC Tryd.prog 30 vs q m (fun v m' => v = .agg ((T_parse_Node.C r.1)) ∧ m' = (m.set P0 ((T_parse_parser.C r.2))))

theorem p_parse_parser_function_ok (n : Nat) : p_parse_parser_function_C (p_parse_parser_function n) := by
  rintro a0 r h q m vs P0 ⟨hv, hmP0, hg0, hg6⟩
  refine SC.weak ?_
  rw [hv]
  refine SC.apart hmP0 fun hpP0 => ?_
  have hmsP0 := set_same hmP0
  try simp only [go_sem] at hmP0 hmsP0
  refine SC_of Tryd.func30 rfl (fun xs w => Tryd.call30 xs w) Tryd.ntmps30 (by kernel_rfl) (congrArg Array.toList Tryd.results30) V.weak (fun _ _ _ => V.weak_ok) ?_
  unfold p_parse_parser_function at h
  refine SW_seq ?_
  refine SW_reg fun K hK => ?_
  simp only [go_sem]
  apply hK
  simp only [thenQ_normal]
  refine SW_seq ?_
  obtain ⟨x2, h4, h⟩ := bind_some h
  refine SW_reg fun K hK => ?_
  simp only [go_sem, ↓reduceIte, Nat.reduceAdd, reduceCtorEq]
  refine SC.mono (p_parse_parser_node_ok a0 (2 : Int) _ h4 _ _ _ P0 (by simp only [go_sem, ↓reduceIte, pz1 hpP0, hmP0])) ?_
  rintro _ _ ⟨o_x2, j_x2, s_x2, rfl, rfl⟩
  replace s_x2 : q <:+ o_x2 := List.IsSuffix.trans (by simp only [go_sem]) s_x2
  simp only [go_sem, ↓reduceIte, Nat.reduceEqDiff, Nat.reduceAdd]
  apply hK
  simp only [thenQ_normal]
  refine SW_seq ?_
  refine SW_seq ?_
  obtain ⟨x5, h6, h⟩ := bind_some h
  refine SW_reg fun K hK => ?_
  simp only [go_sem, ↓reduceIte, Nat.reduceAdd, reduceCtorEq]
  refine SC.by_ (p_parse_parser_take_ok n x2.2 ([101, 120, 112, 111, 114, 116] : Str) _ h6 _ _ _ P0 (by simp only [go_sem, ↓reduceIte, pz1 hpP0, hg0])) ?_
  simp only [go_sem, Nat.reduceAdd]
  apply hK
  simp only [thenQ_normal]
  refine SW_if x5.1 (by simp only [go_sem, ↓reduceIte]) (fun c7 => ?_) (fun c7 => ?_)
  · replace h := ite_t c7 h
    refine SW_reg fun K hK => ?_
    simp only [go_sem, ↓reduceIte, Nat.reduceEqDiff, Nat.reduceAdd, Nat.reduceLeDiff, pz1 hpP0, c7]
    apply hK
    simp only [thenQ_normal]
    refine SW_seq ?_
    obtain ⟨x8, h9, h⟩ := bind_some h
    refine SW_reg fun K hK => ?_
    simp only [go_sem, ↓reduceIte, Nat.reduceAdd, reduceCtorEq]
    refine SC.by_ (p_parse_parser_need_ok n x5.2 ([102, 110] : Str) _ h9 _ _ _ P0 (by simp only [go_sem, ↓reduceIte, pz1 hpP0, hg0])) ?_
    simp only [go_sem, Nat.reduceAdd]
    apply hK
    simp only [thenQ_normal]
    refine SW_seq ?_
    obtain ⟨x10, h11, h⟩ := bind_some h
    refine SW_reg fun K hK => ?_
    simp only [go_sem, ↓reduceIte, Nat.reduceAdd, reduceCtorEq]
    refine SC.by_ (p_parse_parser_name_ok n x8 _ h11 _ _ _ P0 (by simp only [go_sem, ↓reduceIte, hg0])) ?_
    simp only [go_sem, ↓reduceIte, Nat.reduceEqDiff, Nat.reduceAdd, Nat.reduceLeDiff, pz1 hpP0]
    apply hK
    simp only [thenQ_normal]
    refine SW_seq ?_
    obtain ⟨x12, h13, h⟩ := bind_some h
    refine SW_reg fun K hK => ?_
    simp only [go_sem, ↓reduceIte, Nat.reduceEqDiff, Nat.reduceAdd, reduceCtorEq]
    refine SC.mono (p_parse_parser_list__param_ok n x10.2 _ h13 _ _ _ P0 (by simp only [go_sem, ↓reduceIte, pz1 hpP0, hg0])) ?_
    rintro _ _ ⟨o_x12, j_x12, s_x12, rfl, rfl⟩
    replace s_x12 : q <:+ o_x12 := List.IsSuffix.trans (by simp only [go_sem]) s_x12
    simp only [go_sem, ↓reduceIte, Nat.reduceEqDiff, Nat.reduceAdd, pz1 hpP0]
    apply hK
    simp only [thenQ_normal]
    refine SW_seq ?_
    refine SW_seq ?_
    obtain ⟨x14, h15, h⟩ := bind_some h
    refine SW_reg fun K hK => ?_
    simp only [go_sem, ↓reduceIte, Nat.reduceAdd, reduceCtorEq]
    refine SC.by_ (p_parse_parser_take_ok n x12.2 ([45, 62] : Str) _ h15 _ _ _ P0 (by simp only [go_sem, ↓reduceIte, pz1 hpP0, hg0])) ?_
    simp only [go_sem, Nat.reduceAdd]
    apply hK
    simp only [thenQ_normal]
    refine SW_if x14.1 (by simp only [go_sem, ↓reduceIte]) (fun c16 => ?_) (fun c16 => ?_)
    · replace h := ite_t c16 h
      refine SW_block ?_
      refine SW_seq ?_
      obtain ⟨x17, h18, h⟩ := bind_some h
      refine SW_reg fun K hK => ?_
      simp only [go_sem, ↓reduceIte, Nat.reduceAdd, reduceCtorEq, c16]
      refine SC.by_ (p_parse_parser_take_ok n x14.2 ([117, 51, 50] : Str) _ h18 _ _ _ P0 (by simp only [go_sem, ↓reduceIte, hg0])) ?_
      simp only [go_sem, ↓reduceIte, Nat.reduceAdd]
      apply hK
      simp only [thenQ_normal]
      refine SW_if x17.1 (by simp only [go_sem, ↓reduceIte]) (fun c19 => ?_) (fun c19 => ?_)
      · replace h := ite_t c19 h
        refine SW_reg fun K hK => ?_
        simp only [go_sem, ↓reduceIte, Nat.reduceEqDiff, Nat.reduceAdd, Nat.reduceLeDiff, pz1 hpP0, c19]
        apply hK
        simp only [thenQ_normal, blockQ_normal]
        refine SW_seq ?_
        obtain ⟨x20, h21, h⟩ := bind_some h
        obtain ⟨f22, h⟩ := need_some h
        have f23 : x12.1.length + 1 ≤ 1073741824 := by first | omega | (simp only [List.length_append, List.length_cons, List.length_nil] at f22 ⊢; omega)
        have f24 : x12.1.length ≤ 1073741823 := by first | omega | (simp only [List.length_append, List.length_cons, List.length_nil] at f22 ⊢; omega)
        refine SW_drawK (tbl := [0, 1, 0, 4, 12, 31, 63, 127]) (ord := [(2, 0), (3, 0), (0, 0), (1, 1), (4, 0), (5, 0), (6, 0), (7, 0)]) 39 rfl (by kernel_rfl) (by kernel_rfl) fun K hK => ?_
        simp only [go_sem, ↓reduceIte, Nat.reduceAdd, reduceCtorEq]
        refine dcall_of (p_parse_parser_block_ok n x17.2 (1 : Int) _ h21 _ _ _ P0 (by simp only [go_sem, ↓reduceIte, pz1 hpP0, hg0, hg6])) rfl ?_
        simp only [go_sem, ↓reduceIte, Nat.reduceEqDiff, Nat.reduceAdd, Nat.reduceLT, Nat.reduceLeDiff, pz1 hpP0, f23]
        apply hK
        simp only [thenQ_normal]
        refine SW_seq ?_
        refine SW_reg fun K hK => ?_
        simp only [go_sem, ↓reduceIte, Nat.reduceEqDiff, Nat.reduceAdd, reduceCtorEq, pz1 hpP0]
        apply hK
        simp only [thenQ_normal]
        refine SW_ret ?_
        try simp only []
        obtain rfl := some_eq h
        refine ⟨by first | exact .inl rfl | exact .inl trivial | exact .inr rfl | exact .inr trivial, ?_⟩
        simp only [go_sem, ↓reduceIte, Nat.reduceEqDiff, Nat.reduceAdd, back_set, back_bump, back_tokset, back_self, back_out hpP0, s_x2, s_x12]
      · replace h := ite_f c19 h
        refine SW_seq ?_
        obtain ⟨x25, h26, h⟩ := bind_some h
        refine SW_reg fun K hK => ?_
        simp only [go_sem, ↓reduceIte, Nat.reduceAdd, reduceCtorEq, c19]
        refine SC.by_ (p_parse_parser_need_ok n x17.2 ([117, 54, 52] : Str) _ h26 _ _ _ P0 (by simp only [go_sem, ↓reduceIte, hg0])) ?_
        simp only [go_sem, Nat.reduceAdd]
        apply hK
        simp only [thenQ_normal]
        refine SW_reg fun K hK => ?_
        simp only [go_sem, ↓reduceIte, Nat.reduceEqDiff, Nat.reduceAdd, Nat.reduceLeDiff, pz1 hpP0]
        apply hK
        simp only [thenQ_normal, blockQ_normal]
        refine SW_seq ?_
        obtain ⟨x27, h28, h⟩ := bind_some h
        obtain ⟨f29, h⟩ := need_some h
        have f30 : x12.1.length + 1 ≤ 1073741824 := by first | omega | (simp only [List.length_append, List.length_cons, List.length_nil] at f29 ⊢; omega)
        have f31 : x12.1.length ≤ 1073741823 := by first | omega | (simp only [List.length_append, List.length_cons, List.length_nil] at f29 ⊢; omega)
        refine SW_drawK (tbl := [0, 1, 0, 4, 12, 31, 63, 127]) (ord := [(2, 0), (3, 0), (0, 0), (1, 1), (4, 0), (5, 0), (6, 0), (7, 0)]) 41 rfl (by kernel_rfl) (by kernel_rfl) fun K hK => ?_
        simp only [go_sem, ↓reduceIte, Nat.reduceAdd, reduceCtorEq]
        refine dcall_of (p_parse_parser_block_ok n x25 (1 : Int) _ h28 _ _ _ P0 (by simp only [go_sem, ↓reduceIte, pz1 hpP0, hg0, hg6])) rfl ?_
        simp only [go_sem, ↓reduceIte, Nat.reduceEqDiff, Nat.reduceAdd, Nat.reduceLT, Nat.reduceLeDiff, pz1 hpP0, f30]
        apply hK
        simp only [thenQ_normal]
        refine SW_seq ?_
        refine SW_reg fun K hK => ?_
        simp only [go_sem, ↓reduceIte, Nat.reduceEqDiff, Nat.reduceAdd, reduceCtorEq, pz1 hpP0]
        apply hK
        simp only [thenQ_normal]
        refine SW_ret ?_
        try simp only []
        obtain rfl := some_eq h
        refine ⟨by first | exact .inl rfl | exact .inl trivial | exact .inr rfl | exact .inr trivial, ?_⟩
        simp only [go_sem, ↓reduceIte, Nat.reduceEqDiff, Nat.reduceAdd, back_set, back_bump, back_tokset, back_self, back_out hpP0, s_x2, s_x12]
    · replace h := ite_f c16 h
      refine SW_skip ?_
      try simp only [thenQ_normal]
      refine SW_seq ?_
      obtain ⟨x32, h33, h⟩ := bind_some h
      obtain ⟨f34, h⟩ := need_some h
      have f35 : x12.1.length + 1 ≤ 1073741824 := by first | omega | (simp only [List.length_append, List.length_cons, List.length_nil] at f34 ⊢; omega)
      have f36 : x12.1.length ≤ 1073741823 := by first | omega | (simp only [List.length_append, List.length_cons, List.length_nil] at f34 ⊢; omega)
      refine SW_drawK (tbl := [0, 1, 0, 4, 12, 31, 63, 127]) (ord := [(2, 0), (3, 0), (0, 0), (1, 1), (4, 0), (5, 0), (6, 0), (7, 0)]) 31 rfl (by kernel_rfl) (by kernel_rfl) fun K hK => ?_
      simp only [go_sem, ↓reduceIte, Nat.reduceAdd, reduceCtorEq, c16]
      refine dcall_of (p_parse_parser_block_ok n x14.2 (1 : Int) _ h33 _ _ _ P0 (by simp only [go_sem, ↓reduceIte, hg0, hg6])) rfl ?_
      simp only [go_sem, ↓reduceIte, Nat.reduceEqDiff, Nat.reduceAdd, Nat.reduceLT, Nat.reduceLeDiff, pz1 hpP0, f35]
      apply hK
      simp only [thenQ_normal]
      refine SW_seq ?_
      refine SW_reg fun K hK => ?_
      simp only [go_sem, ↓reduceIte, Nat.reduceEqDiff, Nat.reduceAdd, reduceCtorEq, pz1 hpP0]
      apply hK
      simp only [thenQ_normal]
      refine SW_ret ?_
      try simp only []
      obtain rfl := some_eq h
      refine ⟨by first | exact .inl rfl | exact .inl trivial | exact .inr rfl | exact .inr trivial, ?_⟩
      simp only [go_sem, ↓reduceIte, Nat.reduceEqDiff, Nat.reduceAdd, back_set, back_bump, back_tokset, back_self, back_out hpP0, s_x2, s_x12]
  · replace h := ite_f c7 h
    refine SW_skip ?_
    try simp only [thenQ_normal]
    refine SW_seq ?_
    obtain ⟨x37, h38, h⟩ := bind_some h
    refine SW_reg fun K hK => ?_
    simp only [go_sem, ↓reduceIte, Nat.reduceAdd, reduceCtorEq, c7]
    refine SC.by_ (p_parse_parser_need_ok n x5.2 ([102, 110] : Str) _ h38 _ _ _ P0 (by simp only [go_sem, ↓reduceIte, hg0])) ?_
    simp only [go_sem, Nat.reduceAdd]
    apply hK
    simp only [thenQ_normal]
    refine SW_seq ?_
    obtain ⟨x39, h40, h⟩ := bind_some h
    refine SW_reg fun K hK => ?_
    simp only [go_sem, ↓reduceIte, Nat.reduceAdd, reduceCtorEq]
    refine SC.by_ (p_parse_parser_name_ok n x37 _ h40 _ _ _ P0 (by simp only [go_sem, ↓reduceIte, hg0])) ?_
    simp only [go_sem, ↓reduceIte, Nat.reduceEqDiff, Nat.reduceAdd, Nat.reduceLeDiff, pz1 hpP0]
    apply hK
    simp only [thenQ_normal]
    refine SW_seq ?_
    obtain ⟨x41, h42, h⟩ := bind_some h
    refine SW_reg fun K hK => ?_
    simp only [go_sem, ↓reduceIte, Nat.reduceEqDiff, Nat.reduceAdd, reduceCtorEq]
    refine SC.mono (p_parse_parser_list__param_ok n x39.2 _ h42 _ _ _ P0 (by simp only [go_sem, ↓reduceIte, pz1 hpP0, hg0])) ?_
    rintro _ _ ⟨o_x41, j_x41, s_x41, rfl, rfl⟩
    replace s_x41 : q <:+ o_x41 := List.IsSuffix.trans (by simp only [go_sem]) s_x41
    simp only [go_sem, ↓reduceIte, Nat.reduceEqDiff, Nat.reduceAdd, pz1 hpP0]
    apply hK
    simp only [thenQ_normal]
    refine SW_seq ?_
    refine SW_seq ?_
    obtain ⟨x43, h44, h⟩ := bind_some h
    refine SW_reg fun K hK => ?_
    simp only [go_sem, ↓reduceIte, Nat.reduceAdd, reduceCtorEq]
    refine SC.by_ (p_parse_parser_take_ok n x41.2 ([45, 62] : Str) _ h44 _ _ _ P0 (by simp only [go_sem, ↓reduceIte, pz1 hpP0, hg0])) ?_
    simp only [go_sem, Nat.reduceAdd]
    apply hK
    simp only [thenQ_normal]
    refine SW_if x43.1 (by simp only [go_sem, ↓reduceIte]) (fun c45 => ?_) (fun c45 => ?_)
    · replace h := ite_t c45 h
      refine SW_block ?_
      refine SW_seq ?_
      obtain ⟨x46, h47, h⟩ := bind_some h
      refine SW_reg fun K hK => ?_
      simp only [go_sem, ↓reduceIte, Nat.reduceAdd, reduceCtorEq, c45]
      refine SC.by_ (p_parse_parser_take_ok n x43.2 ([117, 51, 50] : Str) _ h47 _ _ _ P0 (by simp only [go_sem, ↓reduceIte, hg0])) ?_
      simp only [go_sem, ↓reduceIte, Nat.reduceAdd]
      apply hK
      simp only [thenQ_normal]
      refine SW_if x46.1 (by simp only [go_sem, ↓reduceIte]) (fun c48 => ?_) (fun c48 => ?_)
      · replace h := ite_t c48 h
        refine SW_reg fun K hK => ?_
        simp only [go_sem, ↓reduceIte, Nat.reduceEqDiff, Nat.reduceAdd, Nat.reduceLeDiff, pz1 hpP0, c48]
        apply hK
        simp only [thenQ_normal, blockQ_normal]
        refine SW_seq ?_
        obtain ⟨x49, h50, h⟩ := bind_some h
        obtain ⟨f51, h⟩ := need_some h
        have f52 : x41.1.length + 1 ≤ 1073741824 := by first | omega | (simp only [List.length_append, List.length_cons, List.length_nil] at f51 ⊢; omega)
        have f53 : x41.1.length ≤ 1073741823 := by first | omega | (simp only [List.length_append, List.length_cons, List.length_nil] at f51 ⊢; omega)
        refine SW_drawK (tbl := [0, 1, 0, 4, 12, 31, 63, 127]) (ord := [(2, 0), (3, 0), (0, 0), (1, 1), (4, 0), (5, 0), (6, 0), (7, 0)]) 37 rfl (by kernel_rfl) (by kernel_rfl) fun K hK => ?_
        simp only [go_sem, ↓reduceIte, Nat.reduceAdd, reduceCtorEq]
        refine dcall_of (p_parse_parser_block_ok n x46.2 (1 : Int) _ h50 _ _ _ P0 (by simp only [go_sem, ↓reduceIte, pz1 hpP0, hg0, hg6])) rfl ?_
        simp only [go_sem, ↓reduceIte, Nat.reduceEqDiff, Nat.reduceAdd, Nat.reduceLT, Nat.reduceLeDiff, pz1 hpP0, f52]
        apply hK
        simp only [thenQ_normal]
        refine SW_seq ?_
        refine SW_reg fun K hK => ?_
        simp only [go_sem, ↓reduceIte, Nat.reduceEqDiff, Nat.reduceAdd, reduceCtorEq, pz1 hpP0]
        apply hK
        simp only [thenQ_normal]
        refine SW_ret ?_
        try simp only []
        obtain rfl := some_eq h
        refine ⟨by first | exact .inl rfl | exact .inl trivial | exact .inr rfl | exact .inr trivial, ?_⟩
        simp only [go_sem, ↓reduceIte, Nat.reduceEqDiff, Nat.reduceAdd, back_set, back_bump, back_tokset, back_self, back_out hpP0, s_x2, s_x41]
      · replace h := ite_f c48 h
        refine SW_seq ?_
        obtain ⟨x54, h55, h⟩ := bind_some h
        refine SW_reg fun K hK => ?_
        simp only [go_sem, ↓reduceIte, Nat.reduceAdd, reduceCtorEq, c48]
        refine SC.by_ (p_parse_parser_need_ok n x46.2 ([117, 54, 52] : Str) _ h55 _ _ _ P0 (by simp only [go_sem, ↓reduceIte, hg0])) ?_
        simp only [go_sem, Nat.reduceAdd]
        apply hK
        simp only [thenQ_normal]
        refine SW_reg fun K hK => ?_
        simp only [go_sem, ↓reduceIte, Nat.reduceEqDiff, Nat.reduceAdd, Nat.reduceLeDiff, pz1 hpP0]
        apply hK
        simp only [thenQ_normal, blockQ_normal]
        refine SW_seq ?_
        obtain ⟨x56, h57, h⟩ := bind_some h
        obtain ⟨f58, h⟩ := need_some h
        have f59 : x41.1.length + 1 ≤ 1073741824 := by first | omega | (simp only [List.length_append, List.length_cons, List.length_nil] at f58 ⊢; omega)
        have f60 : x41.1.length ≤ 1073741823 := by first | omega | (simp only [List.length_append, List.length_cons, List.length_nil] at f58 ⊢; omega)
        refine SW_drawK (tbl := [0, 1, 0, 4, 12, 31, 63, 127]) (ord := [(2, 0), (3, 0), (0, 0), (1, 1), (4, 0), (5, 0), (6, 0), (7, 0)]) 39 rfl (by kernel_rfl) (by kernel_rfl) fun K hK => ?_
        simp only [go_sem, ↓reduceIte, Nat.reduceAdd, reduceCtorEq]
        refine dcall_of (p_parse_parser_block_ok n x54 (1 : Int) _ h57 _ _ _ P0 (by simp only [go_sem, ↓reduceIte, pz1 hpP0, hg0, hg6])) rfl ?_
        simp only [go_sem, ↓reduceIte, Nat.reduceEqDiff, Nat.reduceAdd, Nat.reduceLT, Nat.reduceLeDiff, pz1 hpP0, f59]
        apply hK
        simp only [thenQ_normal]
        refine SW_seq ?_
        refine SW_reg fun K hK => ?_
        simp only [go_sem, ↓reduceIte, Nat.reduceEqDiff, Nat.reduceAdd, reduceCtorEq, pz1 hpP0]
        apply hK
        simp only [thenQ_normal]
        refine SW_ret ?_
        try simp only []
        obtain rfl := some_eq h
        refine ⟨by first | exact .inl rfl | exact .inl trivial | exact .inr rfl | exact .inr trivial, ?_⟩
        simp only [go_sem, ↓reduceIte, Nat.reduceEqDiff, Nat.reduceAdd, back_set, back_bump, back_tokset, back_self, back_out hpP0, s_x2, s_x41]
    · replace h := ite_f c45 h
      refine SW_skip ?_
      try simp only [thenQ_normal]
      refine SW_seq ?_
      obtain ⟨x61, h62, h⟩ := bind_some h
      obtain ⟨f63, h⟩ := need_some h
      have f64 : x41.1.length + 1 ≤ 1073741824 := by first | omega | (simp only [List.length_append, List.length_cons, List.length_nil] at f63 ⊢; omega)
      have f65 : x41.1.length ≤ 1073741823 := by first | omega | (simp only [List.length_append, List.length_cons, List.length_nil] at f63 ⊢; omega)
      refine SW_drawK (tbl := [0, 1, 0, 4, 12, 31, 63, 127]) (ord := [(2, 0), (3, 0), (0, 0), (1, 1), (4, 0), (5, 0), (6, 0), (7, 0)]) 29 rfl (by kernel_rfl) (by kernel_rfl) fun K hK => ?_
      simp only [go_sem, ↓reduceIte, Nat.reduceAdd, reduceCtorEq, c45]
      refine dcall_of (p_parse_parser_block_ok n x43.2 (1 : Int) _ h62 _ _ _ P0 (by simp only [go_sem, ↓reduceIte, hg0, hg6])) rfl ?_
      simp only [go_sem, ↓reduceIte, Nat.reduceEqDiff, Nat.reduceAdd, Nat.reduceLT, Nat.reduceLeDiff, pz1 hpP0, f64]
      apply hK
      simp only [thenQ_normal]
      refine SW_seq ?_
      refine SW_reg fun K hK => ?_
      simp only [go_sem, ↓reduceIte, Nat.reduceEqDiff, Nat.reduceAdd, reduceCtorEq, pz1 hpP0]
      apply hK
      simp only [thenQ_normal]
      refine SW_ret ?_
      try simp only []
      obtain rfl := some_eq h
      refine ⟨by first | exact .inl rfl | exact .inl trivial | exact .inr rfl | exact .inr trivial, ?_⟩
      simp only [go_sem, ↓reduceIte, Nat.reduceEqDiff, Nat.reduceAdd, back_set, back_bump, back_tokset, back_self, back_out hpP0, s_x2, s_x41]

def parse_Parse_C (f : Str → Option (T_parse_Node × Int × Int)) : Prop := ∀ (a0 : Str) (r : (T_parse_Node × Int × Int)), f a0 = some r → ∀ (q : Pa) (m : M) (vs : List V), vs.map V.weak1 = [.list .none (byteRows a0)] ∧ m.gl 0 = .eptr [(cA cS g_parse_words)] 0 0 ∧ m.gl 3 = .eptr [(cA cS g_lex_signs)] 0 0 ∧ m.gl 6 = .eptr [(cA (cA cS) g_parse_levels)] 0 0 → SC Tryd.prog 14 vs q m (fun v m' => v = .tup [.agg ((T_parse_Node.C r.1)), .lit (.int .i64 r.2.1), .lit (.int .i64 r.2.2)] ∧ m' = m)

theorem parse_Parse_ok (n : Nat) : parse_Parse_C (parse_Parse n) := by
  rintro a0 r h q m vs ⟨hv, hg0, hg3, hg6⟩
  refine SC.weak ?_
  rw [hv]
  refine SC_of Tryd.func14 rfl (fun xs w => Tryd.call14 xs w) Tryd.ntmps14 (by kernel_rfl) (congrArg Array.toList Tryd.results14) V.weak (fun _ _ _ => V.weak_ok) ?_
  unfold parse_Parse at h
  refine SW_seq ?_
  refine SW_reg fun K hK => ?_
  simp only [go_sem, Nat.reduceAdd]
  apply hK
  simp only [thenQ_normal]
  refine SW_seq ?_
  obtain ⟨x2, h3, h⟩ := bind_some h
  refine SW_reg fun K hK => ?_
  simp only [go_sem, ↓reduceIte, Nat.reduceAdd, reduceCtorEq]
  refine SC.by_ (lex_Tokens_ok n a0 _ h3 _ _ _ (by simp only [go_sem, hg3])) ?_
  simp only [go_sem, ↓reduceIte, Nat.reduceEqDiff, Nat.reduceAdd]
  apply hK
  simp only [thenQ_normal]
  refine SW_seq ?_
  refine SW_seq ?_
  refine SW_reg fun K hK => ?_
  simp only [go_sem, ↓reduceIte, Nat.reduceEqDiff, Nat.reduceAdd]
  apply hK
  simp only [thenQ_normal]
  refine SW_if (x2.2.1 != (0 : Int)) (by simp only [go_sem, ↓reduceIte]) (fun c4 => ?_) (fun c4 => ?_)
  · replace h := ite_t c4 h
    refine SW_seq ?_
    refine SW_reg fun K hK => ?_
    simp only [go_sem, ↓reduceIte, Nat.reduceEqDiff, Nat.reduceAdd, c4]
    apply hK
    simp only [thenQ_normal]
    refine SW_ret ?_
    try simp only [thenQ_ret]
    obtain rfl := some_eq h
    refine ⟨by first | exact .inl rfl | exact .inl trivial | exact .inr rfl | exact .inr trivial, ?_⟩
    simp only [go_sem, ↓reduceIte, Nat.reduceEqDiff, Nat.reduceAdd, back_set, back_bump, back_self]
  · replace h := ite_f c4 h
    refine SW_skip ?_
    try simp only [thenQ_normal]
    refine SW_seq ?_
    refine SW_reg fun K hK => ?_
    simp only [go_sem, ↓reduceIte, Nat.reduceEqDiff, Nat.reduceAdd, Nat.reduceLeDiff, c4]
    apply hK
    simp only [thenQ_normal]
    refine SW_seq ?_
    obtain ⟨x6, h8, h⟩ := bind_some h
    refine SW_reg fun K hK => ?_
    simp only [go_sem, ↓reduceIte, Nat.reduceAdd]
    refine SC.mono (p_parse_parser_node_ok (T_parse_parser.mk x2.1 (0 : Int) (0 : Int) (0 : Int) (0 : Int)) (1 : Int) _ h8 _ _ _ (16 :: q) (by simp only [go_sem, ↓reduceIte])) ?_
    rintro _ _ ⟨o_x6, j_x6, s_x6, rfl, rfl⟩
    replace s_x6 : q <:+ o_x6 := List.IsSuffix.trans (by simp only [go_sem]) s_x6
    simp only [go_sem, ↓reduceIte, Nat.reduceEqDiff, Nat.reduceAdd]
    apply hK
    simp only [thenQ_normal]
    refine SW_seq ?_
    refine SW_block ?_
    obtain ⟨y12, hy12, h⟩ := bind_some h
    refine SW_countW [] [] rfl (fun c E' m' => ∃ (v10 : T_parse_parser), ∃ (v11 : T_parse_Node), parse_Parse_l1 n c v10 v11 = some y12 ∧ E' 2 = .ptr (0 :: q) 0 ∧ E' 8 = .ptr (16 :: q) 0 ∧ E' 9 = .ptr (20 :: q) 0 ∧ m'.blk (0 :: q) = some ([.lit (.int .i64 (0 : Int)), .lit (.int .i64 (0 : Int)), .lit (.string (bs [])), .lit (.int .u32 (0 : Int)), .list .self ([].map T_parse_Node.C)]) ∧ m'.blk (16 :: q) = some ((T_parse_parser.C v10)) ∧ m'.blk (20 :: q) = some ([.lit (.int .i64 v11.Kind_), .lit (.int .i64 v11.At_), .lit (.string (bs v11.Text_)), .lit (.int .u32 v11.Num_), .list .self (v11.List_.map T_parse_Node.C)]) ∧ m'.gl = m.gl ∧ m.back q m' = m) n ⟨x6.2, x6.1, hy12, ?_⟩ ?_
    · simp only [go_sem, ↓reduceIte, Nat.reduceEqDiff, reduceCtorEq, back_set, back_bump, back_tokset, back_self, s_x6]
    rintro i9 c13 E14 m15 ⟨v10, v11, hy12, e16⟩ _
    rcases c13 with _ | c13
    · exact absurd hy12 (by rw [parse_Parse_l1]; exact fun e => nomatch e)
    rw [parse_Parse_l1] at hy12
    refine SW_seq ?_
    refine SW_seq ?_
    obtain ⟨y17, hy17, hy12⟩ := bind_some hy12
    refine SW_joinK 11 [] [] rfl (fun E' m' => E' 2 = .ptr (0 :: q) 0 ∧ E' 8 = .ptr (16 :: q) 0 ∧ E' 9 = .ptr (20 :: q) 0 ∧ E' 36 = .lit (.bool y17) ∧ m'.blk (0 :: q) = some ([.lit (.int .i64 (0 : Int)), .lit (.int .i64 (0 : Int)), .lit (.string (bs [])), .lit (.int .u32 (0 : Int)), .list .self ([].map T_parse_Node.C)]) ∧ m'.blk (16 :: q) = some ((T_parse_parser.C v10)) ∧ m'.blk (20 :: q) = some ([.lit (.int .i64 v11.Kind_), .lit (.int .i64 v11.At_), .lit (.string (bs v11.Text_)), .lit (.int .u32 v11.Num_), .list .self (v11.List_.map T_parse_Node.C)]) ∧ m'.gl = m.gl ∧ m.back q m' = m) ?_ ?_
    · rcases bool_or (v10.e_ == (0 : Int)) with c18 | c18
      · replace hy17 := ite_t c18 hy17
        obtain ⟨x19, h20, hy17⟩ := bind_some hy17
        refine SW_reg fun K hK => ?_
        simp only [go_sem, ↓reduceIte, Nat.reduceEqDiff, Nat.reduceAdd, c18, e16]
        refine SC.by_ (p_parse_parser_token_ok v10 _ h20 _ _ _ (16 :: q) (by simp only [go_sem, e16])) ?_
        simp only [go_sem, ↓reduceIte, Nat.reduceEqDiff, Nat.reduceAdd]
        apply hK
        simp only [thenQ_normal]
        obtain rfl := some_eq hy17
        refine ⟨by decide, ?_⟩
        simp only [go_sem, ↓reduceIte, Nat.reduceEqDiff, e16]
      · replace hy17 := ite_f c18 hy17
        refine SW_reg fun K hK => ?_
        simp only [go_sem, ↓reduceIte, Nat.reduceEqDiff, Nat.reduceAdd, c18, e16]
        apply hK
        simp only [thenQ_normal]
        obtain rfl := some_eq hy17
        refine ⟨by decide, ?_⟩
        simp only [go_sem, ↓reduceIte, Nat.reduceEqDiff, e16]
    · intro E21 m22 e23 _
      simp only [thenQ_normal]
      refine SW_if y17 (by simp only [go_sem, e23]) (fun c24 => ?_) (fun c24 => ?_)
      · replace hy12 := ite_t c24 hy12
        refine SW_skip ?_
        try simp only [thenQ_normal]
        refine SW_block ?_
        obtain ⟨x25, h26, hy12⟩ := bind_some hy12
        obtain ⟨f27, hy12⟩ := need_some hy12
        have f28 : v11.List_.length + 1 ≤ 1073741824 := by first | omega | (simp only [List.length_append, List.length_cons, List.length_nil] at f27 ⊢; omega)
        have f29 : v11.List_.length ≤ 1073741823 := by first | omega | (simp only [List.length_append, List.length_cons, List.length_nil] at f27 ⊢; omega)
        refine SW_drawK (tbl := [0, 1, 0, 4, 12, 31, 63, 127]) (ord := [(2, 0), (3, 0), (0, 0), (1, 1), (4, 0), (5, 0), (6, 0), (7, 0)]) 19 rfl (by kernel_rfl) (by kernel_rfl) fun K hK => ?_
        simp only [go_sem, ↓reduceIte, Nat.reduceAdd, e23]
        refine dcall_of (p_parse_parser_function_ok n v10 _ h26 _ _ _ (16 :: q) (by simp only [go_sem, e23, hg0, hg6])) rfl ?_
        simp only [go_sem, ↓reduceIte, Nat.reduceEqDiff, Nat.reduceAdd, Nat.reduceLT, Nat.reduceLeDiff, f28, e23]
        apply hK
        simp only [thenQ_normal, blockQ_normal]
        refine ⟨c13, Nat.lt_succ_self _, x25.2, ({ v11 with List_ := (v11.List_ ++ [x25.1]) } : T_parse_Node), hy12, ?_⟩
        simp only [go_sem, ↓reduceIte, Nat.reduceEqDiff, reduceCtorEq, back_set, back_bump, back_tokset, e23]
      · replace hy12 := ite_f c24 hy12
        refine SW_exit ?_
        try simp only [thenQ_exit, blockQ_exit, ↓reduceIte, thenQ_normal]
        obtain rfl := some_eq hy12
        refine SW_seq ?_
        refine SW_seq ?_
        refine SW_reg fun K hK => ?_
        simp only [go_sem, ↓reduceIte, Nat.reduceAdd, e23]
        apply hK
        simp only [thenQ_normal]
        refine SW_if (v10.e_ != (0 : Int)) (by simp only [go_sem, ↓reduceIte]) (fun c30 => ?_) (fun c30 => ?_)
        · replace h := ite_t c30 h
          refine SW_seq ?_
          refine SW_drawK (tbl := [0, 0, 2, 6, 14, 0, 32, 96, 224, 1, 543, 2047]) (ord := [(0, 0), (9, 0), (1, 0), (2, 0), (3, 0), (4, 1), (5, 0), (6, 0), (7, 0), (8, 1), (10, 0), (11, 0)]) 40 rfl (by kernel_rfl) (by kernel_rfl) fun K hK => ?_
          simp only [go_sem, ↓reduceIte, Nat.reduceEqDiff, Nat.reduceAdd, reduceCtorEq, c30, e23]
          apply hK
          simp only [thenQ_normal]
          refine SW_ret ?_
          try simp only [thenQ_ret]
          obtain rfl := some_eq h
          refine ⟨by first | exact .inl rfl | exact .inl trivial | exact .inr rfl | exact .inr trivial, ?_⟩
          simp only [go_sem, ↓reduceIte, Nat.reduceEqDiff, Nat.reduceAdd, back_set, back_bump, e23]
        · replace h := ite_f c30 h
          refine SW_skip ?_
          try simp only [thenQ_normal]
          refine SW_seq ?_
          refine SW_reg fun K hK => ?_
          simp only [go_sem, ↓reduceIte, Nat.reduceEqDiff, Nat.reduceAdd, c30, e23]
          apply hK
          simp only [thenQ_normal]
          refine SW_ret ?_
          try simp only []
          obtain rfl := some_eq h
          refine ⟨by first | exact .inl rfl | exact .inl trivial | exact .inr rfl | exact .inr trivial, ?_⟩
          simp only [go_sem, ↓reduceIte, Nat.reduceEqDiff, Nat.reduceAdd, back_set, e23]

def remontoirelaw10_flat_C (f : T_parse_Node → Int → Option (List T_remontoireref10_N)) : Prop := ∀ (a0 : T_parse_Node) (a1 : Int) (r : (List T_remontoireref10_N)), f a0 a1 = some r → ∀ (q : Pa) (m : M) (vs : List V), vs.map V.weak1 = [.agg ((T_parse_Node.C a0)), .lit (.int .i64 a1)] → SC Tryd.prog 15 vs q m (fun v m' => v = .list .none (r.map T_remontoireref10_N.C) ∧ m' = m)

theorem remontoirelaw10_flat_b_ok {rec_remontoirelaw10_flat : T_parse_Node → Int → Option (List T_remontoireref10_N)} (hrec_remontoirelaw10_flat : remontoirelaw10_flat_C rec_remontoirelaw10_flat) (n : Nat) : remontoirelaw10_flat_C (remontoirelaw10_flat_b rec_remontoirelaw10_flat n) := by
  intro a0 a1 r h q m vs hv
  refine SC.weak ?_
  rw [hv]
  refine SC_of Tryd.func15 rfl (fun xs w => Tryd.call15 xs w) Tryd.ntmps15 (by kernel_rfl) (congrArg Array.toList Tryd.results15) V.weak (fun _ _ _ => V.weak_ok) ?_
  unfold remontoirelaw10_flat_b at h
  refine SW_seq ?_
  refine SW_reg fun K hK => ?_
  simp only [go_sem, Nat.reduceAdd]
  apply hK
  simp only [thenQ_normal]
  refine SW_seq ?_
  refine SW_reg fun K hK => ?_
  simp only [go_sem, ↓reduceIte, Nat.reduceEqDiff, Nat.reduceAdd, Nat.reduceLT, Nat.reduceLeDiff]
  apply hK
  simp only [thenQ_normal]
  refine SW_seq ?_
  refine SW_seq ?_
  refine SW_reg fun K hK => ?_
  simp only [go_sem, ↓reduceIte, Nat.reduceEqDiff, Nat.reduceAdd]
  apply hK
  simp only [thenQ_normal]
  refine SW_if (decide ((20000 : Int) < a1)) (by simp only [go_sem, ↓reduceIte]) (fun c2 => ?_) (fun c2 => ?_)
  · replace h := ite_t c2 h
    refine SW_seq ?_
    refine SW_reg fun K hK => ?_
    simp only [go_sem, ↓reduceIte, Nat.reduceEqDiff, Nat.reduceAdd, c2]
    apply hK
    simp only [thenQ_normal]
    refine SW_ret ?_
    try simp only [thenQ_ret]
    obtain rfl := some_eq h
    refine ⟨by first | exact .inl rfl | exact .inl trivial | exact .inr rfl | exact .inr trivial, ?_⟩
    simp only [go_sem, ↓reduceIte, back_set, back_self]
  · replace h := ite_f c2 h
    refine SW_skip ?_
    try simp only [thenQ_normal]
    refine SW_seq ?_
    refine SW_seq ?_
    refine SW_reg fun K hK => ?_
    simp only [go_sem, ↓reduceIte, Nat.reduceEqDiff, Nat.reduceAdd, c2]
    apply hK
    simp only [thenQ_normal]
    refine SW_block ?_
    obtain ⟨y6, hy6, h⟩ := bind_some h
    refine SW_stamp 5 ([(T_remontoireref10_N.mk a0.Kind_ a0.At_ a0.Text_ a0.Num_ (a0.List_.length : Int))].map T_remontoireref10_N.C) rfl (by simp only [go_sem, ↓reduceIte, Nat.reduceEqDiff]) ?_
    refine SW_countW [] [] rfl (fun c E' m' => ∃ (v4 : (List T_remontoireref10_N)), ∃ (v5 : Int), ∃ (o_v4 : Pa) (j_v4 : Nat), remontoirelaw10_flat_l1 rec_remontoirelaw10_flat a0 a1 c v4 v5 = some y6 ∧ E' 1 = .lit (.int .i64 a1) ∧ E' 5 = .list (.st (.anon o_v4 j_v4)) (v4.map T_remontoireref10_N.C) ∧ m'.tok o_v4 j_v4 = true ∧ q <:+ o_v4 ∧ E' 25 = .list .none (a0.List_.map T_parse_Node.C) ∧ E' 26 = .lit (.int .i64 (a0.List_.length : Int)) ∧ E' 27 = .lit (.int .i64 v5) ∧ m'.gl = m.gl ∧ m.back q m' = m) n ⟨[(T_remontoireref10_N.mk a0.Kind_ a0.At_ a0.Text_ a0.Num_ (a0.List_.length : Int))], (0 : Int), (22 :: q), 0, hy6, ?_⟩ ?_
    · simp only [go_sem, ↓reduceIte, Nat.reduceEqDiff, back_set, back_tokset, back_self]
    rintro i3 c7 E8 m9 ⟨v4, v5, o_v4, j_v4, hy6, e10⟩ _
    rcases c7 with _ | c7
    · exact absurd hy6 (by rw [remontoirelaw10_flat_l1]; exact fun e => nomatch e)
    rw [remontoirelaw10_flat_l1] at hy6
    refine SW_seq ?_
    refine SW_reg fun K hK => ?_
    simp only [go_sem, Nat.reduceAdd, e10]
    apply hK
    simp only [thenQ_normal]
    refine SW_seq ?_
    refine SW_if (decide (v5 < (a0.List_.length : Int))) (by simp only [go_sem, ↓reduceIte]) (fun c11 => ?_) (fun c11 => ?_)
    · replace hy6 := ite_t c11 hy6
      refine SW_skip ?_
      try simp only [thenQ_normal]
      refine SW_seq ?_
      refine SW_block ?_
      refine SW_seq ?_
      obtain ⟨x12, h17, hy6⟩ := bind_some hy6
      obtain ⟨f14, f15, f16⟩ := idxL_some h17
      refine SW_reg fun K hK => ?_
      simp only [go_sem, ↓reduceIte, Nat.reduceEqDiff, Nat.reduceAdd, f14, f15, f16, e10]
      apply hK
      simp only [thenQ_normal]
      obtain ⟨x18, h19, hy6⟩ := bind_some hy6
      obtain ⟨f20, hy6⟩ := need_some hy6
      have f21 : v4.length + x18.length ≤ 1073741824 := by first | omega | (simp only [List.length_append, List.length_cons, List.length_nil] at f20 ⊢; omega)
      refine SW_reg fun K hK => ?_
      simp only [go_sem, ↓reduceIte, Nat.reduceEqDiff, Nat.reduceAdd, e10]
      refine SC.by_ (hrec_remontoirelaw10_flat x12 (IntKind.i64.wrap (a1 + (1 : Int))) _ h19 _ _ _ (by simp only [go_sem])) ?_
      simp only [go_sem, ↓reduceIte, Nat.reduceEqDiff, Nat.reduceAdd, Nat.reduceLT, Nat.reduceLeDiff, f20, e10]
      apply hK
      simp only [thenQ_normal, blockQ_normal]
      refine SW_reg fun K hK => ?_
      simp only [go_sem, ↓reduceIte, Nat.reduceEqDiff, Nat.reduceAdd, e10]
      apply hK
      simp only [thenQ_normal]
      refine ⟨c7, Nat.lt_succ_self _, (v4 ++ x18), (IntKind.i64.wrap (v5 + (1 : Int))), (10 :: i3 :: 23 :: q), 0, hy6, ?_⟩
      simp only [go_sem, ↓reduceIte, Nat.reduceEqDiff, back_set, back_tokset, e10]
    · replace hy6 := ite_f c11 hy6
      refine SW_exit ?_
      try simp only [thenQ_exit, blockQ_exit, ↓reduceIte, thenQ_normal]
      obtain rfl := some_eq hy6
      refine SW_seq ?_
      refine SW_reg fun K hK => ?_
      simp only [go_sem, ↓reduceIte, Nat.reduceEqDiff, Nat.reduceAdd, c11, e10]
      apply hK
      simp only [thenQ_normal]
      refine SW_ret ?_
      try simp only []
      obtain rfl := some_eq h
      refine ⟨by first | exact .inl rfl | exact .inl trivial | exact .inr rfl | exact .inr trivial, ?_⟩
      simp only [go_sem, ↓reduceIte, e10]

theorem remontoirelaw10_flat_ok : ∀ n, remontoirelaw10_flat_C (remontoirelaw10_flat n)
  | 0 => fun _ _ _ h => none_some_ h
  | n + 1 => remontoirelaw10_flat_b_ok (remontoirelaw10_flat_ok n) n

def remontoirelaw10_anchor_C (f : Option Bool) : Prop := ∀ (r : Bool), f = some r → ∀ (q : Pa) (m : M) (vs : List V), vs.map V.weak1 = [] ∧ m.gl 0 = .eptr [(cA cS g_parse_words)] 0 0 ∧ m.gl 3 = .eptr [(cA cS g_lex_signs)] 0 0 ∧ m.gl 6 = .eptr [(cA (cA cS) g_parse_levels)] 0 0 → SC Tryd.prog 11 vs q m (fun v m' => v = .lit (.bool r) ∧ m' = m)

theorem remontoirelaw10_anchor_ok (n : Nat) : remontoirelaw10_anchor_C (remontoirelaw10_anchor n) := by
  rintro r h q m vs ⟨hv, hg0, hg3, hg6⟩
  refine SC.weak ?_
  rw [hv]
  refine SC_of Tryd.func11 rfl (fun xs w => Tryd.call11 xs w) Tryd.ntmps11 (by kernel_rfl) (congrArg Array.toList Tryd.results11) V.weak (fun _ _ _ => V.weak_ok) ?_
  unfold remontoirelaw10_anchor at h
  refine SW_seq ?_
  refine SW_reg fun K hK => ?_
  simp only [go_sem]
  apply hK
  simp only [thenQ_normal]
  refine SW_seq ?_
  obtain ⟨x1, h3, h⟩ := bind_some h
  refine SW_reg fun K hK => ?_
  simp only [go_sem, ↓reduceIte, Nat.reduceAdd, Nat.reduceLT, Nat.reduceLeDiff, reduceCtorEq]
  refine SC.by_ (parse_Parse_ok n ([102, 110, 32, 102, 40, 41, 123, 120, 61, 49, 43, 50, 42, 51, 59, 125] : Str) _ h3 _ _ _ (by simp only [go_sem, UInt8.reduceToNat, hg0, hg3, hg6])) ?_
  simp only [go_sem, ↓reduceIte, Nat.reduceEqDiff, Nat.reduceAdd]
  apply hK
  simp only [thenQ_normal]
  refine SW_seq ?_
  obtain ⟨x4, h5, h⟩ := bind_some h
  refine SW_reg fun K hK => ?_
  simp only [go_sem, ↓reduceIte, Nat.reduceEqDiff, Nat.reduceAdd]
  refine SC.by_ (remontoirelaw10_flat_ok n x1.1 (0 : Int) _ h5 _ _ _ (by simp only [go_sem])) ?_
  simp only [go_sem, ↓reduceIte, Nat.reduceAdd]
  apply hK
  simp only [thenQ_normal]
  refine SW_seq ?_
  obtain ⟨y6, hy6, h⟩ := bind_some h
  refine SW_joinK 37 [] [] rfl (fun E' m' => E' 0 = .lit (.bool y6) ∧ m'.gl = m.gl ∧ m.back q m' = m) ?_ ?_
  · rcases bool_or (x1.2.1 == (0 : Int)) with c7 | c7
    · replace hy6 := ite_t c7 hy6
      rcases bool_or ((x4.length : Int) == (9 : Int)) with c8 | c8
      · replace hy6 := ite_t c8 hy6
        obtain ⟨x9, h13, hy6⟩ := bind_some hy6
        obtain ⟨f10, f11, f12⟩ := idxL_some h13
        have f14 : x4[4]? = some x9 := f12
        rcases bool_or (decide (x9.Text_ = ([43] : Str))) with c15 | c15
        · replace hy6 := ite_t c15 hy6
          obtain ⟨x16, h20, hy6⟩ := bind_some hy6
          obtain ⟨f17, f18, f19⟩ := idxL_some h20
          have f21 : x4[6]? = some x16 := f19
          refine SW_reg fun K hK => ?_
          simp only [go_sem, ↓reduceIte, Nat.reduceEqDiff, Nat.reduceAdd, Int.reduceToNat, c7, c8, f10, f11, f14, c15, f17, f18, f21]
          apply hK
          simp only [thenQ_normal]
          obtain rfl := some_eq hy6
          refine ⟨by decide, ?_⟩
          simp only [go_sem, ↓reduceIte, back_set, back_self]
        · replace hy6 := ite_f c15 hy6
          refine SW_reg fun K hK => ?_
          simp only [go_sem, ↓reduceIte, Nat.reduceEqDiff, Nat.reduceAdd, Int.reduceToNat, c7, c8, f10, f11, f14, c15]
          apply hK
          simp only [thenQ_normal]
          obtain rfl := some_eq hy6
          refine ⟨by decide, ?_⟩
          simp only [go_sem, ↓reduceIte, back_set, back_self]
      · replace hy6 := ite_f c8 hy6
        refine SW_reg fun K hK => ?_
        simp only [go_sem, ↓reduceIte, Nat.reduceEqDiff, Nat.reduceAdd, c7, c8]
        apply hK
        simp only [thenQ_normal]
        obtain rfl := some_eq hy6
        refine ⟨by decide, ?_⟩
        simp only [go_sem, ↓reduceIte, back_set, back_self]
    · replace hy6 := ite_f c7 hy6
      refine SW_reg fun K hK => ?_
      simp only [go_sem, ↓reduceIte, Nat.reduceEqDiff, Nat.reduceAdd, c7]
      apply hK
      simp only [thenQ_normal]
      obtain rfl := some_eq hy6
      refine ⟨by decide, ?_⟩
      simp only [go_sem, ↓reduceIte, back_set, back_self]
  · intro E22 m23 e24 _
    simp only [thenQ_normal]
    refine SW_ret ?_
    try simp only []
    obtain rfl := some_eq h
    refine ⟨by first | exact .inl rfl | exact .inl trivial | exact .inr rfl | exact .inr trivial, ?_⟩
    simp only [go_sem, e24]

def remontoireref10_Word_C (f : Str → Option Bool) : Prop := ∀ (a0 : Str) (r : Bool), f a0 = some r → ∀ (q : Pa) (m : M) (vs : List V), vs.map V.weak1 = [.lit (.string (bs a0))] → SC Tryd.prog 13 vs q m (fun v m' => v = .lit (.bool r) ∧ m' = m)

theorem remontoireref10_Word_ok (n : Nat) : remontoireref10_Word_C (remontoireref10_Word n) := by
  intro a0 r h q m vs hv
  refine SC.weak ?_
  rw [hv]
  refine SC_of Tryd.func13 rfl (fun xs w => Tryd.call13 xs w) Tryd.ntmps13 (by kernel_rfl) (congrArg Array.toList Tryd.results13) V.weak (fun _ _ _ => V.weak_ok) ?_
  unfold remontoireref10_Word at h
  refine SW_seq ?_
  refine SW_reg fun K hK => ?_
  simp only [go_sem]
  apply hK
  simp only [thenQ_normal]
  refine SW_seq ?_
  refine SW_reg fun K hK => ?_
  simp only [go_sem, ↓reduceIte, Nat.reduceEqDiff, Nat.reduceAdd, Nat.reduceLeDiff]
  apply hK
  simp only [thenQ_normal]
  refine SW_seq ?_
  refine SW_seq ?_
  refine SW_reg fun K hK => ?_
  simp only [go_sem, Nat.reduceAdd]
  apply hK
  simp only [thenQ_normal]
  refine SW_block ?_
  obtain ⟨y4, hy4, h⟩ := bind_some h
  refine SW_countW [] [] rfl (fun c E' m' => ∃ (v3 : Int), remontoireref10_Word_l1 a0 c v3 = some y4 ∧ E' 0 = .lit (.string (bs a0)) ∧ E' 3 = .ptr (2 :: q) 0 ∧ E' 4 = .lit (.int .i64 v3) ∧ m'.blk (2 :: q) = some ((cA cS remontoireref10_Word_k1)) ∧ m'.gl = m.gl ∧ m.back q m' = m) n ⟨(0 : Int), hy4, ?_⟩ ?_
  · (simp only [go_sem, ↓reduceIte, Nat.reduceEqDiff, reduceCtorEq, back_set, back_self]) <;> (try and_intros) <;> rfl
  rintro i2 c5 E6 m7 ⟨v3, hy4, e8⟩ _
  rcases c5 with _ | c5
  · exact absurd hy4 (by rw [remontoireref10_Word_l1]; exact fun e => nomatch e)
  rw [remontoireref10_Word_l1] at hy4
  refine SW_seq ?_
  refine SW_seq ?_
  refine SW_reg fun K hK => ?_
  simp only [go_sem, ↓reduceIte, Nat.reduceAdd, e8]
  apply hK
  simp only [thenQ_normal]
  refine SW_if (decide (v3 < (13 : Int))) (by simp only [go_sem, ↓reduceIte]) (fun c9 => ?_) (fun c9 => ?_)
  · replace hy4 := ite_t c9 hy4
    refine SW_skip ?_
    try simp only [thenQ_normal]
    refine SW_seq ?_
    refine SW_block ?_
    refine SW_seq ?_
    obtain ⟨x10, h14, hy4⟩ := bind_some hy4
    obtain ⟨f11, f12, f13⟩ := idxL_some h14
    have f15 : v3 < (13 : Int) := f12
    obtain ⟨w16, d17⟩ := cA_drop (f := cS) (s := 1) (fun _ _ => rfl) f13
    simp only [go_sem] at d17
    have d18 : List.drop (v3.toNat) [V.lit (.string (bs ([102, 110] : Str))), V.lit (.string (bs ([101, 120, 112, 111, 114, 116] : Str))), V.lit (.string (bs ([108, 101, 116] : Str))), V.lit (.string (bs ([118, 97, 114] : Str))), V.lit (.string (bs ([97, 114, 114] : Str))), V.lit (.string (bs ([105, 102] : Str))), V.lit (.string (bs ([101, 108, 115, 101] : Str))), V.lit (.string (bs ([102, 111, 114] : Str))), V.lit (.string (bs ([105, 110] : Str))), V.lit (.string (bs ([114, 101, 116, 117, 114, 110] : Str))), V.lit (.string (bs ([112, 117, 98] : Str))), V.lit (.string (bs ([117, 51, 50] : Str))), V.lit (.string (bs ([117, 54, 52] : Str)))] = _ := d17
    refine SW_reg fun K hK => ?_
    simp only [go_sem, ↓reduceIte, Nat.reduceEqDiff, Nat.reduceAdd, reduceCtorEq, f11, f15, d17, e8]
    apply hK
    simp only [thenQ_normal]
    refine SW_if (decide (a0 = x10)) (by simp only [go_sem, ↓reduceIte]) (fun c19 => ?_) (fun c19 => ?_)
    · replace hy4 := ite_t c19 hy4
      refine SW_seq ?_
      refine SW_reg fun K hK => ?_
      simp only [go_sem, Nat.reduceAdd, c19]
      apply hK
      simp only [thenQ_normal]
      refine SW_ret ?_
      try simp only [thenQ_ret, blockQ_ret]
      obtain rfl := some_eq hy4
      simp only [Sum.elim_inr] at h
      obtain rfl := some_eq h
      refine ⟨by first | exact .inl rfl | exact .inl trivial | exact .inr rfl | exact .inr trivial, ?_⟩
      simp only [go_sem, ↓reduceIte, e8]
    · replace hy4 := ite_f c19 hy4
      refine SW_skip ?_
      try simp only [thenQ_normal, blockQ_normal]
      refine SW_reg fun K hK => ?_
      simp only [go_sem, ↓reduceIte, Nat.reduceEqDiff, Nat.reduceAdd, c19, e8]
      apply hK
      simp only [thenQ_normal]
      refine ⟨c5, Nat.lt_succ_self _, (IntKind.i64.wrap (v3 + (1 : Int))), hy4, ?_⟩
      (simp only [go_sem, ↓reduceIte, Nat.reduceEqDiff, reduceCtorEq, e8]) <;> (try and_intros) <;> rfl
  · replace hy4 := ite_f c9 hy4
    refine SW_exit ?_
    try simp only [thenQ_exit, blockQ_exit, ↓reduceIte, thenQ_normal]
    obtain rfl := some_eq hy4
    simp only [Sum.elim_inl] at h
    refine SW_seq ?_
    refine SW_reg fun K hK => ?_
    simp only [go_sem, Nat.reduceAdd, c9]
    apply hK
    simp only [thenQ_normal]
    refine SW_ret ?_
    try simp only []
    obtain rfl := some_eq h
    refine ⟨by first | exact .inl rfl | exact .inl trivial | exact .inr rfl | exact .inr trivial, ?_⟩
    simp only [go_sem, ↓reduceIte, e8]

def remontoirelaw10_ParseWords_C (f : Str → Option Bool) : Prop := ∀ (a0 : Str) (r : Bool), f a0 = some r → ∀ (q : Pa) (m : M) (vs : List V), vs.map V.weak1 = [.lit (.string (bs a0))] ∧ m.gl 0 = .eptr [(cA cS g_parse_words)] 0 0 ∧ m.gl 3 = .eptr [(cA cS g_lex_signs)] 0 0 ∧ m.gl 6 = .eptr [(cA (cA cS) g_parse_levels)] 0 0 → SC Tryd.prog 3 vs q m (fun v m' => v = .lit (.bool r) ∧ m' = m)

theorem remontoirelaw10_ParseWords_ok (n : Nat) : remontoirelaw10_ParseWords_C (remontoirelaw10_ParseWords n) := by
  rintro a0 r h q m vs ⟨hv, hg0, hg3, hg6⟩
  refine SC.weak ?_
  rw [hv]
  refine SC_of Tryd.func3 rfl (fun xs w => Tryd.call3 xs w) Tryd.ntmps3 (by kernel_rfl) (congrArg Array.toList Tryd.results3) V.weak (fun _ _ _ => V.weak_ok) ?_
  unfold remontoirelaw10_ParseWords at h
  refine SW_seq ?_
  refine SW_reg fun K hK => ?_
  simp only [go_sem]
  apply hK
  simp only [thenQ_normal]
  refine SW_seq ?_
  refine SW_seq ?_
  obtain ⟨x1, h2, h⟩ := bind_some h
  refine SW_reg fun K hK => ?_
  simp only [go_sem]
  refine SC.by_ (remontoirelaw10_anchor_ok n _ h2 _ _ _ (by simp only [go_sem, hg0, hg3, hg6])) ?_
  simp only [go_sem, ↓reduceIte, Nat.reduceAdd]
  apply hK
  simp only [thenQ_normal]
  refine SW_if (!x1) (by simp only [go_sem, ↓reduceIte]) (fun c3 => ?_) (fun c3 => ?_)
  · replace h := ite_t c3 h
    refine SW_seq ?_
    refine SW_reg fun K hK => ?_
    simp only [go_sem, Nat.reduceAdd, c3]
    apply hK
    simp only [thenQ_normal]
    refine SW_ret ?_
    try simp only [thenQ_ret]
    obtain rfl := some_eq h
    refine ⟨by first | exact .inl rfl | exact .inl trivial | exact .inr rfl | exact .inr trivial, ?_⟩
    simp only [go_sem, ↓reduceIte, back_self]
  · replace h := ite_f c3 h
    refine SW_skip ?_
    try simp only [thenQ_normal]
    refine SW_seq ?_
    refine SW_seq ?_
    obtain ⟨y4, hy4, h⟩ := bind_some h
    refine SW_joinK 13 [] [] rfl (fun E' m' => E' 0 = .lit (.string (bs a0)) ∧ E' 17 = .lit (.bool y4) ∧ m'.gl = m.gl ∧ m.back q m' = m) ?_ ?_
    · rcases bool_or (decide ((100 : Int) < (a0.length : Int))) with c5 | c5
      · replace hy4 := ite_t c5 hy4
        refine SW_reg fun K hK => ?_
        simp only [go_sem, ↓reduceIte, Nat.reduceEqDiff, Nat.reduceAdd, reduceCtorEq, c3, c5]
        apply hK
        simp only [thenQ_normal]
        obtain rfl := some_eq hy4
        refine ⟨by decide, ?_⟩
        simp only [go_sem, ↓reduceIte, reduceCtorEq, back_self]
      · replace hy4 := ite_f c5 hy4
        obtain ⟨x6, h8, hy4⟩ := bind_some hy4
        obtain ⟨x7, h9, hy4⟩ := bind_some hy4
        refine SW_reg fun K hK => ?_
        simp only [go_sem, ↓reduceIte, Nat.reduceEqDiff, Nat.reduceAdd, reduceCtorEq, c3, c5]
        refine SC.by_ (parse_Word_ok n a0 _ h8 _ _ _ (by simp only [go_sem, hg0])) ?_
        simp only [go_sem, ↓reduceIte, Nat.reduceEqDiff, Nat.reduceAdd, reduceCtorEq]
        refine SC.by_ (remontoireref10_Word_ok n a0 _ h9 _ _ _ (by simp only [go_sem])) ?_
        simp only [go_sem, ↓reduceIte, Nat.reduceEqDiff, Nat.reduceAdd]
        apply hK
        simp only [thenQ_normal]
        obtain rfl := some_eq hy4
        refine ⟨by decide, ?_⟩
        simp only [go_sem, ↓reduceIte, reduceCtorEq, back_self]
    · intro E10 m11 e12 _
      simp only [thenQ_normal]
      refine SW_if y4 (by simp only [go_sem, e12]) (fun c13 => ?_) (fun c13 => ?_)
      · replace h := ite_t c13 h
        refine SW_seq ?_
        refine SW_reg fun K hK => ?_
        simp only [go_sem, ↓reduceIte, Nat.reduceAdd, e12]
        apply hK
        simp only [thenQ_normal]
        refine SW_ret ?_
        try simp only [thenQ_ret]
        obtain rfl := some_eq h
        refine ⟨by first | exact .inl rfl | exact .inl trivial | exact .inr rfl | exact .inr trivial, ?_⟩
        simp only [go_sem, ↓reduceIte, e12]
      · replace h := ite_f c13 h
        refine SW_skip ?_
        try simp only [thenQ_normal]
        refine SW_seq ?_
        obtain ⟨f16, h⟩ := need_some h
        have f17 : 3 + a0.length ≤ 4611686018427387904 := by first | omega | (simp only [List.length_append, List.length_cons, List.length_nil] at f16 ⊢; omega)
        obtain ⟨f18, h⟩ := need_some h
        have f19 : a0.length + 1 + 1 + 1 + 4 ≤ 4611686018427387904 := by first | omega | (simp only [List.length_append, List.length_cons, List.length_nil] at f18 ⊢; omega)
        have f20 : a0.length ≤ 4611686018427387897 := by first | omega | (simp only [List.length_append, List.length_cons, List.length_nil] at f18 ⊢; omega)
        obtain ⟨f21, h⟩ := need_some h
        have f22 : a0.length + 4 + 1 + 1 + 1 ≤ 4611686018427387904 := by first | omega | (simp only [List.length_append, List.length_cons, List.length_nil] at f21 ⊢; omega)
        have f23 : a0.length ≤ 4611686018427387897 := by first | omega | (simp only [List.length_append, List.length_cons, List.length_nil] at f21 ⊢; omega)
        obtain ⟨x14, h24, h⟩ := bind_some h
        refine SW_reg fun K hK => ?_
        simp only [go_sem, ↓reduceIte, Nat.reduceAdd, UInt8.reduceToNat, f17, f19, e12]
        refine SC.by_ (parse_Parse_ok n ((([102, 110, 32] : Str) ++ a0) ++ ([40, 41, 123, 125] : Str)) _ h24 _ _ _ (by simp only [go_sem, UInt8.reduceToNat, e12, hg0, hg3, hg6])) ?_
        simp only [go_sem, ↓reduceIte, Nat.reduceEqDiff, Nat.reduceAdd]
        apply hK
        simp only [thenQ_normal]
        refine SW_seq ?_
        obtain ⟨y25, hy25, h⟩ := bind_some h
        refine SW_joinK 34 [] [] rfl (fun E' m' => E' 2 = .lit (.bool y25) ∧ m'.gl = m.gl ∧ m.back q m' = m) ?_ ?_
        · obtain ⟨x26, h27, hy25⟩ := bind_some hy25
          rcases bool_or (!x26) with c28 | c28
          · replace hy25 := ite_t c28 hy25
            refine SW_reg fun K hK => ?_
            simp only [go_sem, ↓reduceIte, Nat.reduceAdd, reduceCtorEq, e12]
            refine SC.by_ (parse_Word_ok n a0 _ h27 _ _ _ (by simp only [go_sem, e12, hg0])) ?_
            simp only [go_sem, ↓reduceIte, Nat.reduceEqDiff, Nat.reduceAdd, c28]
            apply hK
            simp only [thenQ_normal]
            obtain rfl := some_eq hy25
            refine ⟨by decide, ?_⟩
            simp only [go_sem, ↓reduceIte, back_set, e12]
          · replace hy25 := ite_f c28 hy25
            refine SW_reg fun K hK => ?_
            simp only [go_sem, ↓reduceIte, Nat.reduceAdd, reduceCtorEq, e12]
            refine SC.by_ (parse_Word_ok n a0 _ h27 _ _ _ (by simp only [go_sem, e12, hg0])) ?_
            simp only [go_sem, ↓reduceIte, Nat.reduceEqDiff, Nat.reduceAdd, c28]
            apply hK
            simp only [thenQ_normal]
            obtain rfl := some_eq hy25
            refine ⟨by decide, ?_⟩
            simp only [go_sem, ↓reduceIte, back_set, e12]
        · intro E29 m30 e31 _
          simp only [thenQ_normal]
          refine SW_ret ?_
          try simp only []
          obtain rfl := some_eq h
          refine ⟨by first | exact .inl rfl | exact .inl trivial | exact .inr rfl | exact .inr trivial, ?_⟩
          simp only [go_sem, e31]

def remontoirelaw10_ParseLevels_C (f : Int → Int → Option Bool) : Prop := ∀ (a0 : Int) (a1 : Int) (r : Bool), f a0 a1 = some r → ∀ (q : Pa) (m : M) (vs : List V), vs.map V.weak1 = [.lit (.int .i64 a0), .lit (.int .i64 a1)] ∧ m.gl 0 = .eptr [(cA cS g_parse_words)] 0 0 ∧ m.gl 3 = .eptr [(cA cS g_lex_signs)] 0 0 ∧ m.gl 6 = .eptr [(cA (cA cS) g_parse_levels)] 0 0 → SC Tryd.prog 4 vs q m (fun v m' => v = .lit (.bool r) ∧ m' = m)

theorem remontoirelaw10_ParseLevels_ok (n : Nat) : remontoirelaw10_ParseLevels_C (remontoirelaw10_ParseLevels n) := by
  rintro a0 a1 r h q m vs ⟨hv, hg0, hg3, hg6⟩
  refine SC.weak ?_
  rw [hv]
  refine SC_of Tryd.func4 rfl (fun xs w => Tryd.call4 xs w) Tryd.ntmps4 (by kernel_rfl) (congrArg Array.toList Tryd.results4) V.weak (fun _ _ _ => V.weak_ok) ?_
  unfold remontoirelaw10_ParseLevels at h
  refine SW_seq ?_
  refine SW_reg fun K hK => ?_
  simp only [go_sem]
  apply hK
  simp only [thenQ_normal]
  refine SW_seq ?_
  refine SW_seq ?_
  obtain ⟨x1, h2, h⟩ := bind_some h
  refine SW_reg fun K hK => ?_
  simp only [go_sem]
  refine SC.by_ (remontoirelaw10_anchor_ok n _ h2 _ _ _ (by simp only [go_sem, hg0, hg3, hg6])) ?_
  simp only [go_sem, ↓reduceIte, Nat.reduceAdd]
  apply hK
  simp only [thenQ_normal]
  refine SW_if (!x1) (by simp only [go_sem, ↓reduceIte]) (fun c3 => ?_) (fun c3 => ?_)
  · replace h := ite_t c3 h
    refine SW_seq ?_
    refine SW_reg fun K hK => ?_
    simp only [go_sem, Nat.reduceAdd, c3]
    apply hK
    simp only [thenQ_normal]
    refine SW_ret ?_
    try simp only [thenQ_ret]
    obtain rfl := some_eq h
    refine ⟨by first | exact .inl rfl | exact .inl trivial | exact .inr rfl | exact .inr trivial, ?_⟩
    simp only [go_sem, ↓reduceIte, back_self]
  · replace h := ite_f c3 h
    refine SW_skip ?_
    try simp only [thenQ_normal]
    refine SW_seq ?_
    refine SW_reg fun K hK => ?_
    simp only [go_sem, ↓reduceIte, Nat.reduceEqDiff, Nat.reduceAdd, Nat.reduceLeDiff, c3]
    apply hK
    simp only [thenQ_normal]
    refine SW_seq ?_
    refine SW_reg fun K hK => ?_
    simp only [go_sem, ↓reduceIte, Nat.reduceEqDiff, Nat.reduceAdd, Nat.reduceLeDiff]
    apply hK
    simp only [thenQ_normal]
    refine SW_seq ?_
    refine SW_seq ?_
    obtain ⟨y6, hy6, h⟩ := bind_some h
    refine SW_joinK 23 [] [] rfl (fun E' m' => E' 0 = .lit (.int .i64 a0) ∧ E' 1 = .lit (.int .i64 a1) ∧ E' 5 = .ptr (4 :: q) 0 ∧ E' 6 = .ptr (7 :: q) 0 ∧ E' 28 = .lit (.bool y6) ∧ m'.blk (4 :: q) = some ((cA cS remontoirelaw10_ParseLevels_k1)) ∧ m'.blk (7 :: q) = some ((cA (cI .i64) remontoirelaw10_ParseLevels_k2)) ∧ m'.gl = m.gl ∧ m.back q m' = m) ?_ ?_
    · rcases bool_or (decide (a0 < (0 : Int))) with c7 | c7
      · replace hy6 := ite_t c7 hy6
        refine SW_reg fun K hK => ?_
        simp only [go_sem, ↓reduceIte, Nat.reduceEqDiff, Nat.reduceAdd, reduceCtorEq, c7]
        apply hK
        simp only [thenQ_normal]
        obtain rfl := some_eq hy6
        refine ⟨by decide, ?_⟩
        (simp only [go_sem, ↓reduceIte, Nat.reduceEqDiff, reduceCtorEq, back_set, back_self]) <;> (try and_intros) <;> rfl
      · replace hy6 := ite_f c7 hy6
        rcases bool_or (decide ((12 : Int) < a0)) with c8 | c8
        · replace hy6 := ite_t c8 hy6
          refine SW_reg fun K hK => ?_
          simp only [go_sem, ↓reduceIte, Nat.reduceEqDiff, Nat.reduceAdd, reduceCtorEq, c7, c8]
          apply hK
          simp only [thenQ_normal]
          obtain rfl := some_eq hy6
          refine ⟨by decide, ?_⟩
          (simp only [go_sem, ↓reduceIte, Nat.reduceEqDiff, reduceCtorEq, back_set, back_self]) <;> (try and_intros) <;> rfl
        · replace hy6 := ite_f c8 hy6
          rcases bool_or (decide (a1 < (0 : Int))) with c9 | c9
          · replace hy6 := ite_t c9 hy6
            refine SW_reg fun K hK => ?_
            simp only [go_sem, ↓reduceIte, Nat.reduceEqDiff, Nat.reduceAdd, reduceCtorEq, c7, c8, c9]
            apply hK
            simp only [thenQ_normal]
            obtain rfl := some_eq hy6
            refine ⟨by decide, ?_⟩
            (simp only [go_sem, ↓reduceIte, Nat.reduceEqDiff, reduceCtorEq, back_set, back_self]) <;> (try and_intros) <;> rfl
          · replace hy6 := ite_f c9 hy6
            refine SW_reg fun K hK => ?_
            simp only [go_sem, ↓reduceIte, Nat.reduceEqDiff, Nat.reduceAdd, reduceCtorEq, c7, c8, c9]
            apply hK
            simp only [thenQ_normal]
            obtain rfl := some_eq hy6
            refine ⟨by decide, ?_⟩
            (simp only [go_sem, ↓reduceIte, Nat.reduceEqDiff, reduceCtorEq, back_set, back_self]) <;> (try and_intros) <;> rfl
    · intro E10 m11 e12 _
      simp only [thenQ_normal]
      refine SW_if y6 (by simp only [go_sem, e12]) (fun c13 => ?_) (fun c13 => ?_)
      · replace h := ite_t c13 h
        refine SW_seq ?_
        refine SW_reg fun K hK => ?_
        simp only [go_sem, Nat.reduceAdd]
        apply hK
        simp only [thenQ_normal]
        refine SW_ret ?_
        try simp only [thenQ_ret]
        obtain rfl := some_eq h
        refine ⟨by first | exact .inl rfl | exact .inl trivial | exact .inr rfl | exact .inr trivial, ?_⟩
        simp only [go_sem, ↓reduceIte, e12]
      · replace h := ite_f c13 h
        refine SW_skip ?_
        try simp only [thenQ_normal]
        refine SW_seq ?_
        obtain ⟨x14, h21, h⟩ := bind_some h
        obtain ⟨f18, f19, f20⟩ := idxL_some h21
        have f22 : a0 < (13 : Int) := f19
        obtain ⟨w23, d24⟩ := cA_drop (f := cS) (s := 1) (fun _ _ => rfl) f20
        simp only [go_sem] at d24
        have d25 : List.drop (a0.toNat) [V.lit (.string (bs ([124] : Str))), V.lit (.string (bs ([94] : Str))), V.lit (.string (bs ([38] : Str))), V.lit (.string (bs ([61, 61] : Str))), V.lit (.string (bs ([60] : Str))), V.lit (.string (bs ([60, 60] : Str))), V.lit (.string (bs ([62, 62] : Str))), V.lit (.string (bs ([60, 60, 60] : Str))), V.lit (.string (bs ([43] : Str))), V.lit (.string (bs ([45] : Str))), V.lit (.string (bs ([42] : Str))), V.lit (.string (bs ([47] : Str))), V.lit (.string (bs ([37] : Str)))] = _ := d24
        obtain ⟨f26, h⟩ := need_some h
        have f27 : 10 + x14.length ≤ 4611686018427387904 := by first | omega | (simp only [List.length_append, List.length_cons, List.length_nil] at f26 ⊢; omega)
        obtain ⟨f28, h⟩ := need_some h
        have f29 : x14.length + 1 + 1 + 1 + 1 + 1 + 1 + 1 + 1 + 1 + 1 + 1 ≤ 4611686018427387904 := by first | omega | (simp only [List.length_append, List.length_cons, List.length_nil] at f28 ⊢; omega)
        have f30 : x14.length ≤ 4611686018427387893 := by first | omega | (simp only [List.length_append, List.length_cons, List.length_nil] at f28 ⊢; omega)
        obtain ⟨x15, h34, h⟩ := bind_some h
        obtain ⟨f31, f32, f33⟩ := idxL_some h34
        have f35 : a1 < (13 : Int) := f32
        obtain ⟨w36, d37⟩ := cA_drop (f := cS) (s := 1) (fun _ _ => rfl) f33
        simp only [go_sem] at d37
        have d38 : List.drop (a1.toNat) [V.lit (.string (bs ([124] : Str))), V.lit (.string (bs ([94] : Str))), V.lit (.string (bs ([38] : Str))), V.lit (.string (bs ([61, 61] : Str))), V.lit (.string (bs ([60] : Str))), V.lit (.string (bs ([60, 60] : Str))), V.lit (.string (bs ([62, 62] : Str))), V.lit (.string (bs ([60, 60, 60] : Str))), V.lit (.string (bs ([43] : Str))), V.lit (.string (bs ([45] : Str))), V.lit (.string (bs ([42] : Str))), V.lit (.string (bs ([47] : Str))), V.lit (.string (bs ([37] : Str)))] = _ := d37
        obtain ⟨f39, h⟩ := need_some h
        have f40 : x14.length + 1 + 1 + 1 + 1 + 1 + 1 + 1 + 1 + 1 + 1 + 1 + x15.length ≤ 4611686018427387904 := by first | omega | (simp only [List.length_append, List.length_cons, List.length_nil] at f39 ⊢; omega)
        obtain ⟨f41, h⟩ := need_some h
        have f42 : x14.length + 1 + x15.length + 1 + 1 + 1 + 1 + 1 + 1 + 1 + 1 + 1 + 1 + 3 ≤ 4611686018427387904 := by first | omega | (simp only [List.length_append, List.length_cons, List.length_nil] at f41 ⊢; omega)
        have f43 : x14.length + 1 + x15.length ≤ 4611686018427387891 := by first | omega | (simp only [List.length_append, List.length_cons, List.length_nil] at f41 ⊢; omega)
        obtain ⟨f44, h⟩ := need_some h
        have f45 : x14.length + 1 + x15.length + 3 + 1 + 1 + 1 + 1 + 1 + 1 + 1 + 1 + 1 + 1 ≤ 4611686018427387904 := by first | omega | (simp only [List.length_append, List.length_cons, List.length_nil] at f44 ⊢; omega)
        have f46 : x14.length + 1 + x15.length ≤ 4611686018427387891 := by first | omega | (simp only [List.length_append, List.length_cons, List.length_nil] at f44 ⊢; omega)
        obtain ⟨x16, h47, h⟩ := bind_some h
        refine SW_drawK (tbl := [0, 1, 3, 7, 15, 0, 32, 96, 255, 511, 1023, 2047, 4095, 8191, 8191, 8191, 0, 81919, 229375, 524287]) (ord := [(0, 0), (1, 0), (2, 0), (3, 0), (4, 0), (5, 0), (6, 0), (7, 0), (8, 0), (9, 0), (10, 0), (11, 0), (12, 0), (13, 0), (16, 0), (17, 0), (14, 0), (15, 0), (18, 0), (19, 0)]) 43 rfl (by kernel_rfl) (by kernel_rfl) fun K hK => ?_
        simp only [go_sem, ↓reduceIte, Nat.reduceEqDiff, Nat.reduceAdd, UInt8.reduceToNat, f18, f22, d24, f27, f29, f31, f35, d37, f40, f42, e12]
        refine dcall_of (parse_Parse_ok n ((((([102, 110, 32, 102, 40, 41, 123, 120, 61, 49] : Str) ++ x14) ++ ([50] : Str)) ++ x15) ++ ([51, 59, 125] : Str)) _ h47 _ _ _ (by simp only [go_sem, UInt8.reduceToNat, e12, hg0, hg3, hg6])) rfl ?_
        simp only [go_sem, ↓reduceIte, Nat.reduceEqDiff, Nat.reduceAdd, e12]
        apply hK
        simp only [thenQ_normal]
        refine SW_seq ?_
        refine SW_seq ?_
        obtain ⟨y48, hy48, h⟩ := bind_some h
        refine SW_joinK 53 [] [] rfl (fun E' m' => E' 0 = .lit (.int .i64 a0) ∧ E' 1 = .lit (.int .i64 a1) ∧ E' 5 = .ptr (4 :: q) 0 ∧ E' 6 = .ptr (7 :: q) 0 ∧ E' 7 = .ptr (39 :: q) 0 ∧ E' 8 = .lit (.int .i64 x16.2.1) ∧ E' 54 = .lit (.bool y48) ∧ m'.blk (39 :: q) = some ((T_parse_Node.C x16.1)) ∧ m'.blk (4 :: q) = some ((cA cS remontoirelaw10_ParseLevels_k1)) ∧ m'.blk (7 :: q) = some ((cA (cI .i64) remontoirelaw10_ParseLevels_k2)) ∧ m'.gl = m.gl ∧ m.back q m' = m) ?_ ?_
        · obtain ⟨x49, h53, hy48⟩ := bind_some hy48
          obtain ⟨f50, f51, f52⟩ := idxL_some h53
          have f54 : a0 < (13 : Int) := f51
          obtain ⟨w55, d56⟩ := cA_drop (f := (cI .i64)) (s := 1) (fun _ _ => rfl) f52
          simp only [go_sem] at d56
          have d57 : List.drop (a0.toNat) [V.lit (.int .i64 (0 : Int)), V.lit (.int .i64 (1 : Int)), V.lit (.int .i64 (2 : Int)), V.lit (.int .i64 (3 : Int)), V.lit (.int .i64 (3 : Int)), V.lit (.int .i64 (4 : Int)), V.lit (.int .i64 (4 : Int)), V.lit (.int .i64 (4 : Int)), V.lit (.int .i64 (5 : Int)), V.lit (.int .i64 (5 : Int)), V.lit (.int .i64 (6 : Int)), V.lit (.int .i64 (6 : Int)), V.lit (.int .i64 (6 : Int))] = _ := d56
          rcases bool_or (x49 == (3 : Int)) with c58 | c58
          · replace hy48 := ite_t c58 hy48
            obtain ⟨x59, h63, hy48⟩ := bind_some hy48
            obtain ⟨f60, f61, f62⟩ := idxL_some h63
            have f64 : a1 < (13 : Int) := f61
            obtain ⟨w65, d66⟩ := cA_drop (f := (cI .i64)) (s := 1) (fun _ _ => rfl) f62
            simp only [go_sem] at d66
            have d67 : List.drop (a1.toNat) [V.lit (.int .i64 (0 : Int)), V.lit (.int .i64 (1 : Int)), V.lit (.int .i64 (2 : Int)), V.lit (.int .i64 (3 : Int)), V.lit (.int .i64 (3 : Int)), V.lit (.int .i64 (4 : Int)), V.lit (.int .i64 (4 : Int)), V.lit (.int .i64 (4 : Int)), V.lit (.int .i64 (5 : Int)), V.lit (.int .i64 (5 : Int)), V.lit (.int .i64 (6 : Int)), V.lit (.int .i64 (6 : Int)), V.lit (.int .i64 (6 : Int))] = _ := d66
            refine SW_reg fun K hK => ?_
            simp only [go_sem, ↓reduceIte, Nat.reduceEqDiff, Nat.reduceAdd, reduceCtorEq, f18, f22, f31, f35, d56, c58, d66, e12]
            apply hK
            simp only [thenQ_normal]
            obtain rfl := some_eq hy48
            refine ⟨by decide, ?_⟩
            (simp only [go_sem, ↓reduceIte, Nat.reduceEqDiff, reduceCtorEq, back_set, e12]) <;> (try and_intros) <;> rfl
          · replace hy48 := ite_f c58 hy48
            refine SW_reg fun K hK => ?_
            simp only [go_sem, ↓reduceIte, Nat.reduceEqDiff, Nat.reduceAdd, reduceCtorEq, f18, f22, d56, c58, e12]
            apply hK
            simp only [thenQ_normal]
            obtain rfl := some_eq hy48
            refine ⟨by decide, ?_⟩
            (simp only [go_sem, ↓reduceIte, Nat.reduceEqDiff, reduceCtorEq, back_set, e12]) <;> (try and_intros) <;> rfl
        · intro E68 m69 e70 _
          simp only [thenQ_normal]
          refine SW_if y48 (by simp only [go_sem, e70]) (fun c71 => ?_) (fun c71 => ?_)
          · replace h := ite_t c71 h
            refine SW_seq ?_
            refine SW_reg fun K hK => ?_
            simp only [go_sem, ↓reduceIte, Nat.reduceAdd, e70]
            apply hK
            simp only [thenQ_normal]
            refine SW_ret ?_
            try simp only [thenQ_ret]
            obtain rfl := some_eq h
            refine ⟨by first | exact .inl rfl | exact .inl trivial | exact .inr rfl | exact .inr trivial, ?_⟩
            simp only [go_sem, ↓reduceIte, e70]
          · replace h := ite_f c71 h
            refine SW_skip ?_
            try simp only [thenQ_normal]
            refine SW_seq ?_
            obtain ⟨x72, h73, h⟩ := bind_some h
            refine SW_reg fun K hK => ?_
            simp only [go_sem, ↓reduceIte, Nat.reduceAdd, e70]
            refine SC.by_ (remontoirelaw10_flat_ok n x16.1 (0 : Int) _ h73 _ _ _ (by simp only [go_sem])) ?_
            simp only [go_sem, ↓reduceIte, Nat.reduceAdd]
            apply hK
            simp only [thenQ_normal]
            refine SW_seq ?_
            refine SW_seq ?_
            obtain ⟨y74, hy74, h⟩ := bind_some h
            refine SW_joinK 63 [] [] rfl (fun E' m' => E' 0 = .lit (.int .i64 a0) ∧ E' 1 = .lit (.int .i64 a1) ∧ E' 5 = .ptr (4 :: q) 0 ∧ E' 6 = .ptr (7 :: q) 0 ∧ E' 10 = .list .none (x72.map T_remontoireref10_N.C) ∧ E' 65 = .lit (.bool y74) ∧ m'.blk (4 :: q) = some ((cA cS remontoirelaw10_ParseLevels_k1)) ∧ m'.blk (7 :: q) = some ((cA (cI .i64) remontoirelaw10_ParseLevels_k2)) ∧ m'.gl = m.gl ∧ m.back q m' = m) ?_ ?_
            · rcases bool_or (x16.2.1 != (0 : Int)) with c75 | c75
              · replace hy74 := ite_t c75 hy74
                refine SW_reg fun K hK => ?_
                simp only [go_sem, ↓reduceIte, Nat.reduceEqDiff, Nat.reduceAdd, c75, e70]
                apply hK
                simp only [thenQ_normal]
                obtain rfl := some_eq hy74
                refine ⟨by decide, ?_⟩
                (simp only [go_sem, ↓reduceIte, Nat.reduceEqDiff, reduceCtorEq, e70]) <;> (try and_intros) <;> rfl
              · replace hy74 := ite_f c75 hy74
                refine SW_reg fun K hK => ?_
                simp only [go_sem, ↓reduceIte, Nat.reduceEqDiff, Nat.reduceAdd, c75, e70]
                apply hK
                simp only [thenQ_normal]
                obtain rfl := some_eq hy74
                refine ⟨by decide, ?_⟩
                (simp only [go_sem, ↓reduceIte, Nat.reduceEqDiff, reduceCtorEq, e70]) <;> (try and_intros) <;> rfl
            · intro E76 m77 e78 _
              simp only [thenQ_normal]
              refine SW_if y74 (by simp only [go_sem, e78]) (fun c79 => ?_) (fun c79 => ?_)
              · replace h := ite_t c79 h
                refine SW_seq ?_
                refine SW_reg fun K hK => ?_
                simp only [go_sem, Nat.reduceAdd]
                apply hK
                simp only [thenQ_normal]
                refine SW_ret ?_
                try simp only [thenQ_ret]
                obtain rfl := some_eq h
                refine ⟨by first | exact .inl rfl | exact .inl trivial | exact .inr rfl | exact .inr trivial, ?_⟩
                simp only [go_sem, ↓reduceIte, e78]
              · replace h := ite_f c79 h
                refine SW_skip ?_
                try simp only [thenQ_normal]
                refine SW_seq ?_
                refine SW_seq ?_
                obtain ⟨x80, h85, h⟩ := bind_some h
                obtain ⟨f82, f83, f84⟩ := idxL_some h85
                have f86 : a1 < (13 : Int) := f83
                obtain ⟨w87, d88⟩ := cA_drop (f := (cI .i64)) (s := 1) (fun _ _ => rfl) f84
                simp only [go_sem] at d88
                have d89 : List.drop (a1.toNat) [V.lit (.int .i64 (0 : Int)), V.lit (.int .i64 (1 : Int)), V.lit (.int .i64 (2 : Int)), V.lit (.int .i64 (3 : Int)), V.lit (.int .i64 (3 : Int)), V.lit (.int .i64 (4 : Int)), V.lit (.int .i64 (4 : Int)), V.lit (.int .i64 (4 : Int)), V.lit (.int .i64 (5 : Int)), V.lit (.int .i64 (5 : Int)), V.lit (.int .i64 (6 : Int)), V.lit (.int .i64 (6 : Int)), V.lit (.int .i64 (6 : Int))] = _ := d88
                obtain ⟨x81, h93, h⟩ := bind_some h
                obtain ⟨f90, f91, f92⟩ := idxL_some h93
                have f94 : a0 < (13 : Int) := f91
                obtain ⟨w95, d96⟩ := cA_drop (f := (cI .i64)) (s := 1) (fun _ _ => rfl) f92
                simp only [go_sem] at d96
                have d97 : List.drop (a0.toNat) [V.lit (.int .i64 (0 : Int)), V.lit (.int .i64 (1 : Int)), V.lit (.int .i64 (2 : Int)), V.lit (.int .i64 (3 : Int)), V.lit (.int .i64 (3 : Int)), V.lit (.int .i64 (4 : Int)), V.lit (.int .i64 (4 : Int)), V.lit (.int .i64 (4 : Int)), V.lit (.int .i64 (5 : Int)), V.lit (.int .i64 (5 : Int)), V.lit (.int .i64 (6 : Int)), V.lit (.int .i64 (6 : Int)), V.lit (.int .i64 (6 : Int))] = _ := d96
                refine SW_drawK (tbl := [0, 1, 3, 0, 8, 24, 63]) (ord := [(0, 0), (1, 0), (2, 0), (3, 0), (4, 0), (5, 0), (6, 0)]) 70 rfl (by kernel_rfl) (by kernel_rfl) fun K hK => ?_
                simp only [go_sem, ↓reduceIte, Nat.reduceEqDiff, reduceCtorEq, f18, f22, f31, f35, d88, d96, e78]
                apply hK
                simp only [thenQ_normal]
                refine SW_if (decide (x81 < x80)) (by simp only [go_sem, ↓reduceIte]) (fun c98 => ?_) (fun c98 => ?_)
                · replace h := ite_t c98 h
                  refine SW_seq ?_
                  obtain ⟨y99, hy99, h⟩ := bind_some h
                  refine SW_joinK 110 [] [] rfl (fun E' m' => E' 4 = .lit (.bool y99) ∧ m'.gl = m.gl ∧ m.back q m' = m) ?_ ?_
                  · obtain ⟨x100, h104, hy99⟩ := bind_some hy99
                    obtain ⟨f101, f102, f103⟩ := idxL_some h104
                    have f105 : x72[4]? = some x100 := f103
                    rcases bool_or (decide (x100.Text_ = x14)) with c106 | c106
                    · replace hy99 := ite_t c106 hy99
                      obtain ⟨x107, h111, hy99⟩ := bind_some hy99
                      obtain ⟨f108, f109, f110⟩ := idxL_some h111
                      have f112 : x72[5]? = some x107 := f110
                      rcases bool_or (x107.Num_ == (1 : Int)) with c113 | c113
                      · replace hy99 := ite_t c113 hy99
                        obtain ⟨x114, h118, hy99⟩ := bind_some hy99
                        obtain ⟨f115, f116, f117⟩ := idxL_some h118
                        have f119 : x72[6]? = some x114 := f117
                        rcases bool_or (decide (x114.Text_ = x15)) with c120 | c120
                        · replace hy99 := ite_t c120 hy99
                          obtain ⟨x121, h125, hy99⟩ := bind_some hy99
                          obtain ⟨f122, f123, f124⟩ := idxL_some h125
                          have f126 : x72[7]? = some x121 := f124
                          rcases bool_or (x121.Num_ == (2 : Int)) with c127 | c127
                          · replace hy99 := ite_t c127 hy99
                            obtain ⟨x128, h132, hy99⟩ := bind_some hy99
                            obtain ⟨f129, f130, f131⟩ := idxL_some h132
                            have f133 : x72[8]? = some x128 := f131
                            refine SW_drawK (tbl := [0, 1, 3, 7, 0, 16, 48, 127, 255, 511, 1023, 2047, 4095, 8191, 16383, 32767, 65535, 131071, 262143, 524287, 65535, 1114111, 3211263, 8388607, 16777215, 33554431, 67108863, 134217727, 268435455, 536870911, 1073741823, 2147483647, 4294967295, 8589934591, 17179869183, 34359738367, 68719476735, 137438953471, 274877906943, 549755813887]) (ord := [(0, 0), (1, 0), (2, 0), (3, 0), (4, 0), (5, 0), (6, 0), (7, 0), (8, 0), (9, 0), (10, 0), (11, 0), (12, 0), (13, 0), (14, 0), (15, 0), (16, 0), (17, 0), (18, 0), (19, 0), (20, 0), (21, 0), (22, 0), (23, 0), (24, 0), (25, 0), (26, 0), (27, 0), (28, 0), (29, 0), (30, 0), (31, 0), (32, 0), (33, 0), (34, 0), (35, 0), (36, 0), (37, 0), (38, 0), (39, 0)]) 110 rfl (by kernel_rfl) (by kernel_rfl) fun K hK => ?_
                            simp only [go_sem, ↓reduceIte, Nat.reduceEqDiff, Nat.reduceAdd, reduceCtorEq, Int.reduceToNat, f18, f22, d24, f31, f35, d37, c98, f101, f102, f105, c106, f108, f109, f112, c113, f115, f116, f119, c120, f122, f123, f126, c127, f129, f130, f133, e78]
                            apply hK
                            simp only [thenQ_normal]
                            obtain rfl := some_eq hy99
                            refine ⟨by decide, ?_⟩
                            (simp only [go_sem, ↓reduceIte, e78]) <;> (try and_intros) <;> rfl
                          · replace hy99 := ite_f c127 hy99
                            refine SW_drawK (tbl := [0, 1, 3, 7, 0, 16, 48, 127, 255, 511, 1023, 2047, 4095, 8191, 16383, 32767, 65535, 131071, 262143, 524287, 65535, 1114111, 3211263, 8388607, 16777215, 33554431, 67108863, 134217727, 268435455, 536870911, 1073741823, 2147483647, 4294967295, 8589934591, 17179869183, 34359738367, 68719476735, 137438953471, 274877906943, 549755813887]) (ord := [(0, 0), (1, 0), (2, 0), (3, 0), (4, 0), (5, 0), (6, 0), (7, 0), (8, 0), (9, 0), (10, 0), (11, 0), (12, 0), (13, 0), (14, 0), (15, 0), (16, 0), (17, 0), (18, 0), (19, 0), (20, 0), (21, 0), (22, 0), (23, 0), (24, 0), (25, 0), (26, 0), (27, 0), (28, 0), (29, 0), (30, 0), (31, 0), (32, 0), (33, 0), (34, 0), (35, 0), (36, 0), (37, 0), (38, 0), (39, 0)]) 110 rfl (by kernel_rfl) (by kernel_rfl) fun K hK => ?_
                            simp only [go_sem, ↓reduceIte, Nat.reduceEqDiff, Nat.reduceAdd, reduceCtorEq, Int.reduceToNat, f18, f22, d24, f31, f35, d37, c98, f101, f102, f105, c106, f108, f109, f112, c113, f115, f116, f119, c120, f122, f123, f126, c127, e78]
                            apply hK
                            simp only [thenQ_normal]
                            obtain rfl := some_eq hy99
                            refine ⟨by decide, ?_⟩
                            (simp only [go_sem, ↓reduceIte, e78]) <;> (try and_intros) <;> rfl
                        · replace hy99 := ite_f c120 hy99
                          refine SW_drawK (tbl := [0, 1, 3, 7, 0, 16, 48, 127, 255, 511, 1023, 2047, 4095, 8191, 16383, 32767, 65535, 131071, 262143, 524287, 65535, 1114111, 3211263, 8388607, 16777215, 33554431, 67108863, 134217727, 268435455, 536870911, 1073741823, 2147483647, 4294967295, 8589934591, 17179869183, 34359738367, 68719476735, 137438953471, 274877906943, 549755813887]) (ord := [(0, 0), (1, 0), (2, 0), (3, 0), (4, 0), (5, 0), (6, 0), (7, 0), (8, 0), (9, 0), (10, 0), (11, 0), (12, 0), (13, 0), (14, 0), (15, 0), (16, 0), (17, 0), (18, 0), (19, 0), (20, 0), (21, 0), (22, 0), (23, 0), (24, 0), (25, 0), (26, 0), (27, 0), (28, 0), (29, 0), (30, 0), (31, 0), (32, 0), (33, 0), (34, 0), (35, 0), (36, 0), (37, 0), (38, 0), (39, 0)]) 110 rfl (by kernel_rfl) (by kernel_rfl) fun K hK => ?_
                          simp only [go_sem, ↓reduceIte, Nat.reduceEqDiff, Nat.reduceAdd, reduceCtorEq, Int.reduceToNat, f18, f22, d24, f31, f35, d37, c98, f101, f102, f105, c106, f108, f109, f112, c113, f115, f116, f119, c120, e78]
                          apply hK
                          simp only [thenQ_normal]
                          obtain rfl := some_eq hy99
                          refine ⟨by decide, ?_⟩
                          (simp only [go_sem, ↓reduceIte, e78]) <;> (try and_intros) <;> rfl
                      · replace hy99 := ite_f c113 hy99
                        refine SW_drawK (tbl := [0, 1, 3, 7, 0, 16, 48, 127, 255, 511, 1023, 2047, 4095, 8191, 16383, 32767, 65535, 131071, 262143, 524287, 65535, 1114111, 3211263, 8388607, 16777215, 33554431, 67108863, 134217727, 268435455, 536870911, 1073741823, 2147483647, 4294967295, 8589934591, 17179869183, 34359738367, 68719476735, 137438953471, 274877906943, 549755813887]) (ord := [(0, 0), (1, 0), (2, 0), (3, 0), (4, 0), (5, 0), (6, 0), (7, 0), (8, 0), (9, 0), (10, 0), (11, 0), (12, 0), (13, 0), (14, 0), (15, 0), (16, 0), (17, 0), (18, 0), (19, 0), (20, 0), (21, 0), (22, 0), (23, 0), (24, 0), (25, 0), (26, 0), (27, 0), (28, 0), (29, 0), (30, 0), (31, 0), (32, 0), (33, 0), (34, 0), (35, 0), (36, 0), (37, 0), (38, 0), (39, 0)]) 110 rfl (by kernel_rfl) (by kernel_rfl) fun K hK => ?_
                        simp only [go_sem, ↓reduceIte, Nat.reduceEqDiff, Nat.reduceAdd, reduceCtorEq, Int.reduceToNat, f18, f22, d24, c98, f101, f102, f105, c106, f108, f109, f112, c113, e78]
                        apply hK
                        simp only [thenQ_normal]
                        obtain rfl := some_eq hy99
                        refine ⟨by decide, ?_⟩
                        (simp only [go_sem, ↓reduceIte, e78]) <;> (try and_intros) <;> rfl
                    · replace hy99 := ite_f c106 hy99
                      refine SW_drawK (tbl := [0, 1, 3, 7, 0, 16, 48, 127, 255, 511, 1023, 2047, 4095, 8191, 16383, 32767, 65535, 131071, 262143, 524287, 65535, 1114111, 3211263, 8388607, 16777215, 33554431, 67108863, 134217727, 268435455, 536870911, 1073741823, 2147483647, 4294967295, 8589934591, 17179869183, 34359738367, 68719476735, 137438953471, 274877906943, 549755813887]) (ord := [(0, 0), (1, 0), (2, 0), (3, 0), (4, 0), (5, 0), (6, 0), (7, 0), (8, 0), (9, 0), (10, 0), (11, 0), (12, 0), (13, 0), (14, 0), (15, 0), (16, 0), (17, 0), (18, 0), (19, 0), (20, 0), (21, 0), (22, 0), (23, 0), (24, 0), (25, 0), (26, 0), (27, 0), (28, 0), (29, 0), (30, 0), (31, 0), (32, 0), (33, 0), (34, 0), (35, 0), (36, 0), (37, 0), (38, 0), (39, 0)]) 110 rfl (by kernel_rfl) (by kernel_rfl) fun K hK => ?_
                      simp only [go_sem, ↓reduceIte, Nat.reduceEqDiff, Nat.reduceAdd, reduceCtorEq, Int.reduceToNat, f18, f22, d24, c98, f101, f102, f105, c106, e78]
                      apply hK
                      simp only [thenQ_normal]
                      obtain rfl := some_eq hy99
                      refine ⟨by decide, ?_⟩
                      (simp only [go_sem, ↓reduceIte, e78]) <;> (try and_intros) <;> rfl
                  · intro E134 m135 e136 _
                    simp only [thenQ_normal]
                    refine SW_ret ?_
                    try simp only [thenQ_ret]
                    obtain rfl := some_eq h
                    refine ⟨by first | exact .inl rfl | exact .inl trivial | exact .inr rfl | exact .inr trivial, ?_⟩
                    simp only [go_sem, e136]
                · replace h := ite_f c98 h
                  refine SW_skip ?_
                  try simp only [thenQ_normal]
                  refine SW_seq ?_
                  obtain ⟨y137, hy137, h⟩ := bind_some h
                  refine SW_joinK 110 [] [] rfl (fun E' m' => E' 4 = .lit (.bool y137) ∧ m'.gl = m.gl ∧ m.back q m' = m) ?_ ?_
                  · obtain ⟨x138, h142, hy137⟩ := bind_some hy137
                    obtain ⟨f139, f140, f141⟩ := idxL_some h142
                    have f143 : x72[4]? = some x138 := f141
                    rcases bool_or (decide (x138.Text_ = x15)) with c144 | c144
                    · replace hy137 := ite_t c144 hy137
                      obtain ⟨x145, h149, hy137⟩ := bind_some hy137
                      obtain ⟨f146, f147, f148⟩ := idxL_some h149
                      have f150 : x72[5]? = some x145 := f148
                      rcases bool_or (decide (x145.Text_ = x14)) with c151 | c151
                      · replace hy137 := ite_t c151 hy137
                        obtain ⟨x152, h156, hy137⟩ := bind_some hy137
                        obtain ⟨f153, f154, f155⟩ := idxL_some h156
                        have f157 : x72[6]? = some x152 := f155
                        rcases bool_or (x152.Num_ == (1 : Int)) with c158 | c158
                        · replace hy137 := ite_t c158 hy137
                          obtain ⟨x159, h163, hy137⟩ := bind_some hy137
                          obtain ⟨f160, f161, f162⟩ := idxL_some h163
                          have f164 : x72[7]? = some x159 := f162
                          rcases bool_or (x159.Num_ == (2 : Int)) with c165 | c165
                          · replace hy137 := ite_t c165 hy137
                            obtain ⟨x166, h170, hy137⟩ := bind_some hy137
                            obtain ⟨f167, f168, f169⟩ := idxL_some h170
                            have f171 : x72[8]? = some x166 := f169
                            refine SW_drawK (tbl := [0, 1, 3, 7, 0, 16, 48, 127, 255, 511, 1023, 2047, 4095, 511, 8703, 25087, 65535, 131071, 262143, 524287, 1048575, 2097151, 4194303, 8388607, 16777215, 33554431, 67108863, 134217727, 268435455, 536870911, 1073741823, 2147483647, 4294967295, 8589934591, 17179869183, 34359738367, 68719476735, 137438953471, 274877906943, 549755813887]) (ord := [(0, 0), (1, 0), (2, 0), (3, 0), (4, 0), (5, 0), (6, 0), (7, 0), (8, 0), (9, 0), (10, 0), (11, 0), (12, 0), (13, 0), (14, 0), (15, 0), (16, 0), (17, 0), (18, 0), (19, 0), (20, 0), (21, 0), (22, 0), (23, 0), (24, 0), (25, 0), (26, 0), (27, 0), (28, 0), (29, 0), (30, 0), (31, 0), (32, 0), (33, 0), (34, 0), (35, 0), (36, 0), (37, 0), (38, 0), (39, 0)]) 110 rfl (by kernel_rfl) (by kernel_rfl) fun K hK => ?_
                            simp only [go_sem, ↓reduceIte, Nat.reduceEqDiff, Nat.reduceAdd, reduceCtorEq, Int.reduceToNat, f18, f22, d24, f31, f35, d37, c98, f139, f140, f143, c144, f146, f147, f150, c151, f153, f154, f157, c158, f160, f161, f164, c165, f167, f168, f171, e78]
                            apply hK
                            simp only [thenQ_normal]
                            obtain rfl := some_eq hy137
                            refine ⟨by decide, ?_⟩
                            (simp only [go_sem, ↓reduceIte, e78]) <;> (try and_intros) <;> rfl
                          · replace hy137 := ite_f c165 hy137
                            refine SW_drawK (tbl := [0, 1, 3, 7, 0, 16, 48, 127, 255, 511, 1023, 2047, 4095, 511, 8703, 25087, 65535, 131071, 262143, 524287, 1048575, 2097151, 4194303, 8388607, 16777215, 33554431, 67108863, 134217727, 268435455, 536870911, 1073741823, 2147483647, 4294967295, 8589934591, 17179869183, 34359738367, 68719476735, 137438953471, 274877906943, 549755813887]) (ord := [(0, 0), (1, 0), (2, 0), (3, 0), (4, 0), (5, 0), (6, 0), (7, 0), (8, 0), (9, 0), (10, 0), (11, 0), (12, 0), (13, 0), (14, 0), (15, 0), (16, 0), (17, 0), (18, 0), (19, 0), (20, 0), (21, 0), (22, 0), (23, 0), (24, 0), (25, 0), (26, 0), (27, 0), (28, 0), (29, 0), (30, 0), (31, 0), (32, 0), (33, 0), (34, 0), (35, 0), (36, 0), (37, 0), (38, 0), (39, 0)]) 110 rfl (by kernel_rfl) (by kernel_rfl) fun K hK => ?_
                            simp only [go_sem, ↓reduceIte, Nat.reduceEqDiff, Nat.reduceAdd, reduceCtorEq, Int.reduceToNat, f18, f22, d24, f31, f35, d37, c98, f139, f140, f143, c144, f146, f147, f150, c151, f153, f154, f157, c158, f160, f161, f164, c165, e78]
                            apply hK
                            simp only [thenQ_normal]
                            obtain rfl := some_eq hy137
                            refine ⟨by decide, ?_⟩
                            (simp only [go_sem, ↓reduceIte, e78]) <;> (try and_intros) <;> rfl
                        · replace hy137 := ite_f c158 hy137
                          refine SW_drawK (tbl := [0, 1, 3, 7, 0, 16, 48, 127, 255, 511, 1023, 2047, 4095, 511, 8703, 25087, 65535, 131071, 262143, 524287, 1048575, 2097151, 4194303, 8388607, 16777215, 33554431, 67108863, 134217727, 268435455, 536870911, 1073741823, 2147483647, 4294967295, 8589934591, 17179869183, 34359738367, 68719476735, 137438953471, 274877906943, 549755813887]) (ord := [(0, 0), (1, 0), (2, 0), (3, 0), (4, 0), (5, 0), (6, 0), (7, 0), (8, 0), (9, 0), (10, 0), (11, 0), (12, 0), (13, 0), (14, 0), (15, 0), (16, 0), (17, 0), (18, 0), (19, 0), (20, 0), (21, 0), (22, 0), (23, 0), (24, 0), (25, 0), (26, 0), (27, 0), (28, 0), (29, 0), (30, 0), (31, 0), (32, 0), (33, 0), (34, 0), (35, 0), (36, 0), (37, 0), (38, 0), (39, 0)]) 110 rfl (by kernel_rfl) (by kernel_rfl) fun K hK => ?_
                          simp only [go_sem, ↓reduceIte, Nat.reduceEqDiff, Nat.reduceAdd, reduceCtorEq, Int.reduceToNat, f18, f22, d24, f31, f35, d37, c98, f139, f140, f143, c144, f146, f147, f150, c151, f153, f154, f157, c158, e78]
                          apply hK
                          simp only [thenQ_normal]
                          obtain rfl := some_eq hy137
                          refine ⟨by decide, ?_⟩
                          (simp only [go_sem, ↓reduceIte, e78]) <;> (try and_intros) <;> rfl
                      · replace hy137 := ite_f c151 hy137
                        refine SW_drawK (tbl := [0, 1, 3, 7, 0, 16, 48, 127, 255, 511, 1023, 2047, 4095, 511, 8703, 25087, 65535, 131071, 262143, 524287, 1048575, 2097151, 4194303, 8388607, 16777215, 33554431, 67108863, 134217727, 268435455, 536870911, 1073741823, 2147483647, 4294967295, 8589934591, 17179869183, 34359738367, 68719476735, 137438953471, 274877906943, 549755813887]) (ord := [(0, 0), (1, 0), (2, 0), (3, 0), (4, 0), (5, 0), (6, 0), (7, 0), (8, 0), (9, 0), (10, 0), (11, 0), (12, 0), (13, 0), (14, 0), (15, 0), (16, 0), (17, 0), (18, 0), (19, 0), (20, 0), (21, 0), (22, 0), (23, 0), (24, 0), (25, 0), (26, 0), (27, 0), (28, 0), (29, 0), (30, 0), (31, 0), (32, 0), (33, 0), (34, 0), (35, 0), (36, 0), (37, 0), (38, 0), (39, 0)]) 110 rfl (by kernel_rfl) (by kernel_rfl) fun K hK => ?_
                        simp only [go_sem, ↓reduceIte, Nat.reduceEqDiff, Nat.reduceAdd, reduceCtorEq, Int.reduceToNat, f18, f22, d24, f31, f35, d37, c98, f139, f140, f143, c144, f146, f147, f150, c151, e78]
                        apply hK
                        simp only [thenQ_normal]
                        obtain rfl := some_eq hy137
                        refine ⟨by decide, ?_⟩
                        (simp only [go_sem, ↓reduceIte, e78]) <;> (try and_intros) <;> rfl
                    · replace hy137 := ite_f c144 hy137
                      refine SW_drawK (tbl := [0, 1, 3, 7, 0, 16, 48, 127, 255, 511, 1023, 2047, 4095, 511, 8703, 25087, 65535, 131071, 262143, 524287, 1048575, 2097151, 4194303, 8388607, 16777215, 33554431, 67108863, 134217727, 268435455, 536870911, 1073741823, 2147483647, 4294967295, 8589934591, 17179869183, 34359738367, 68719476735, 137438953471, 274877906943, 549755813887]) (ord := [(0, 0), (1, 0), (2, 0), (3, 0), (4, 0), (5, 0), (6, 0), (7, 0), (8, 0), (9, 0), (10, 0), (11, 0), (12, 0), (13, 0), (14, 0), (15, 0), (16, 0), (17, 0), (18, 0), (19, 0), (20, 0), (21, 0), (22, 0), (23, 0), (24, 0), (25, 0), (26, 0), (27, 0), (28, 0), (29, 0), (30, 0), (31, 0), (32, 0), (33, 0), (34, 0), (35, 0), (36, 0), (37, 0), (38, 0), (39, 0)]) 110 rfl (by kernel_rfl) (by kernel_rfl) fun K hK => ?_
                      simp only [go_sem, ↓reduceIte, Nat.reduceEqDiff, Nat.reduceAdd, Int.reduceToNat, f31, f35, d37, c98, f139, f140, f143, c144, e78]
                      apply hK
                      simp only [thenQ_normal]
                      obtain rfl := some_eq hy137
                      refine ⟨by decide, ?_⟩
                      (simp only [go_sem, ↓reduceIte, e78]) <;> (try and_intros) <;> rfl
                  · intro E172 m173 e174 _
                    simp only [thenQ_normal]
                    refine SW_ret ?_
                    try simp only []
                    obtain rfl := some_eq h
                    refine ⟨by first | exact .inl rfl | exact .inl trivial | exact .inr rfl | exact .inr trivial, ?_⟩
                    simp only [go_sem, e174]

def parse_Count_C (f : T_parse_Node → Option Int) : Prop := ∀ (a0 : T_parse_Node) (r : Int), f a0 = some r → ∀ (q : Pa) (m : M) (vs : List V), vs.map V.weak1 = [.agg ((T_parse_Node.C a0))] → SC Tryd.prog 17 vs q m (fun v m' => v = .lit (.int .i64 r) ∧ m' = m)

theorem parse_Count_b_ok {rec_parse_Count : T_parse_Node → Option Int} (hrec_parse_Count : parse_Count_C rec_parse_Count) (n : Nat) : parse_Count_C (parse_Count_b rec_parse_Count n) := by
  intro a0 r h q m vs hv
  refine SC.weak ?_
  rw [hv]
  refine SC_of Tryd.func17 rfl (fun xs w => Tryd.call17 xs w) Tryd.ntmps17 (by kernel_rfl) (congrArg Array.toList Tryd.results17) V.weak (fun _ _ _ => V.weak_ok) ?_
  unfold parse_Count_b at h
  refine SW_seq ?_
  refine SW_reg fun K hK => ?_
  simp only [go_sem, Nat.reduceAdd]
  apply hK
  simp only [thenQ_normal]
  refine SW_seq ?_
  refine SW_reg fun K hK => ?_
  simp only [go_sem, Nat.reduceAdd]
  apply hK
  simp only [thenQ_normal]
  refine SW_seq ?_
  refine SW_seq ?_
  refine SW_reg fun K hK => ?_
  simp only [go_sem, ↓reduceIte, Nat.reduceEqDiff, Nat.reduceAdd]
  apply hK
  simp only [thenQ_normal]
  refine SW_block ?_
  obtain ⟨y5, hy5, h⟩ := bind_some h
  refine SW_countW [] [] rfl (fun c E' m' => ∃ (v3 : Int), ∃ (v4 : Int), parse_Count_l1 rec_parse_Count a0 c v3 v4 = some y5 ∧ E' 3 = .lit (.int .i64 v3) ∧ E' 7 = .list .none (a0.List_.map T_parse_Node.C) ∧ E' 8 = .lit (.int .i64 (a0.List_.length : Int)) ∧ E' 9 = .lit (.int .i64 v4) ∧ m'.gl = m.gl ∧ m.back q m' = m) n ⟨(1 : Int), (0 : Int), hy5, ?_⟩ ?_
  · simp only [go_sem, ↓reduceIte, Nat.reduceEqDiff, back_set, back_self]
  rintro i2 c6 E7 m8 ⟨v3, v4, hy5, e9⟩ _
  rcases c6 with _ | c6
  · exact absurd hy5 (by rw [parse_Count_l1]; exact fun e => nomatch e)
  rw [parse_Count_l1] at hy5
  refine SW_seq ?_
  refine SW_reg fun K hK => ?_
  simp only [go_sem, e9]
  apply hK
  simp only [thenQ_normal]
  refine SW_seq ?_
  refine SW_if (decide (v4 < (a0.List_.length : Int))) (by simp only [go_sem, ↓reduceIte]) (fun c10 => ?_) (fun c10 => ?_)
  · replace hy5 := ite_t c10 hy5
    refine SW_skip ?_
    try simp only [thenQ_normal]
    refine SW_seq ?_
    refine SW_block ?_
    refine SW_seq ?_
    obtain ⟨x11, h16, hy5⟩ := bind_some hy5
    obtain ⟨f13, f14, f15⟩ := idxL_some h16
    refine SW_reg fun K hK => ?_
    simp only [go_sem, ↓reduceIte, Nat.reduceEqDiff, Nat.reduceAdd, f13, f14, f15, e9]
    apply hK
    simp only [thenQ_normal]
    obtain ⟨x17, h18, hy5⟩ := bind_some hy5
    refine SW_reg fun K hK => ?_
    simp only [go_sem, ↓reduceIte, Nat.reduceEqDiff, Nat.reduceAdd, e9]
    refine SC.by_ (hrec_parse_Count x11 _ h18 _ _ _ (by simp only [go_sem])) ?_
    simp only [go_sem, ↓reduceIte, Nat.reduceEqDiff, Nat.reduceAdd]
    apply hK
    simp only [thenQ_normal, blockQ_normal]
    refine SW_reg fun K hK => ?_
    simp only [go_sem, ↓reduceIte, Nat.reduceEqDiff, Nat.reduceAdd, e9]
    apply hK
    simp only [thenQ_normal]
    refine ⟨c6, Nat.lt_succ_self _, (IntKind.i64.wrap (v3 + x17)), (IntKind.i64.wrap (v4 + (1 : Int))), hy5, ?_⟩
    simp only [go_sem, ↓reduceIte, Nat.reduceEqDiff, back_set, e9]
  · replace hy5 := ite_f c10 hy5
    refine SW_exit ?_
    try simp only [thenQ_exit, blockQ_exit, ↓reduceIte, thenQ_normal]
    obtain rfl := some_eq hy5
    refine SW_seq ?_
    refine SW_reg fun K hK => ?_
    simp only [go_sem, ↓reduceIte, Nat.reduceEqDiff, Nat.reduceAdd, c10, e9]
    apply hK
    simp only [thenQ_normal]
    refine SW_ret ?_
    try simp only []
    obtain rfl := some_eq h
    refine ⟨by first | exact .inl rfl | exact .inl trivial | exact .inr rfl | exact .inr trivial, ?_⟩
    simp only [go_sem, ↓reduceIte, e9]

theorem parse_Count_ok : ∀ n, parse_Count_C (parse_Count n)
  | 0 => fun _ _ h => none_some_ h
  | n + 1 => parse_Count_b_ok (parse_Count_ok n) n

def parse_Same_C (f : T_parse_Node → T_parse_Node → Option Bool) : Prop := ∀ (a0 : T_parse_Node) (a1 : T_parse_Node) (r : Bool), f a0 a1 = some r → ∀ (q : Pa) (m : M) (vs : List V), vs.map V.weak1 = [.agg ((T_parse_Node.C a0)), .agg ((T_parse_Node.C a1))] → SC Tryd.prog 18 vs q m (fun v m' => v = .lit (.bool r) ∧ m' = m)

def slices_EqualFunc_L_parse_Node_L_parse_Node_parse_Node_parse_Node__Same_C (f : (List T_parse_Node) → (List T_parse_Node) → Option Bool) : Prop := ∀ (a0 : (List T_parse_Node)) (a1 : (List T_parse_Node)) (r : Bool), f a0 a1 = some r → ∀ (q : Pa) (m : M) (vs : List V), vs.map V.weak1 = [.list .none (a0.map T_parse_Node.C), .list .none (a1.map T_parse_Node.C), .fn (.func 18) [] []] → SC Tryd.prog 33 vs q m (fun v m' => v = .lit (.bool r) ∧ m' = m)

theorem parse_Same_b_ok {rec_slices_EqualFunc_L_parse_Node_L_parse_Node_parse_Node_parse_Node__Same : (List T_parse_Node) → (List T_parse_Node) → Option Bool} (hrec_slices_EqualFunc_L_parse_Node_L_parse_Node_parse_Node_parse_Node__Same : slices_EqualFunc_L_parse_Node_L_parse_Node_parse_Node_parse_Node__Same_C rec_slices_EqualFunc_L_parse_Node_L_parse_Node_parse_Node_parse_Node__Same) (n : Nat) : parse_Same_C (parse_Same_b rec_slices_EqualFunc_L_parse_Node_L_parse_Node_parse_Node_parse_Node__Same n) := by
  intro a0 a1 r h q m vs hv
  refine SC.weak ?_
  rw [hv]
  refine SC_of Tryd.func18 rfl (fun xs w => Tryd.call18 xs w) Tryd.ntmps18 (by kernel_rfl) (congrArg Array.toList Tryd.results18) V.weak (fun _ _ _ => V.weak_ok) ?_
  unfold parse_Same_b at h
  refine SW_seq ?_
  refine SW_reg fun K hK => ?_
  simp only [go_sem, ↓reduceIte, Nat.reduceEqDiff, Nat.reduceAdd]
  apply hK
  simp only [thenQ_normal]
  refine SW_seq ?_
  obtain ⟨y3, hy3, h⟩ := bind_some h
  refine SW_joinK 30 [] [] rfl (fun E' m' => E' 4 = .lit (.bool y3) ∧ m'.gl = m.gl ∧ m.back q m' = m) ?_ ?_
  · rcases bool_or (a0.Kind_ == a1.Kind_) with c4 | c4
    · replace hy3 := ite_t c4 hy3
      rcases bool_or (decide (a0.Text_ = a1.Text_)) with c5 | c5
      · replace hy3 := ite_t c5 hy3
        rcases bool_or (a0.Num_ == a1.Num_) with c6 | c6
        · replace hy3 := ite_t c6 hy3
          obtain ⟨x7, h8, hy3⟩ := bind_some hy3
          refine SW_reg fun K hK => ?_
          simp only [go_sem, ↓reduceIte, Nat.reduceEqDiff, Nat.reduceAdd, c4, c5, c6]
          refine SC.by_ (hrec_slices_EqualFunc_L_parse_Node_L_parse_Node_parse_Node_parse_Node__Same a0.List_ a1.List_ _ h8 _ _ _ (by simp only [go_sem])) ?_
          simp only [go_sem, ↓reduceIte, Nat.reduceEqDiff, Nat.reduceAdd]
          apply hK
          simp only [thenQ_normal]
          obtain rfl := some_eq hy3
          refine ⟨by decide, ?_⟩
          simp only [go_sem, ↓reduceIte, back_set, back_self]
        · replace hy3 := ite_f c6 hy3
          refine SW_reg fun K hK => ?_
          simp only [go_sem, ↓reduceIte, Nat.reduceEqDiff, Nat.reduceAdd, c4, c5, c6]
          apply hK
          simp only [thenQ_normal]
          obtain rfl := some_eq hy3
          refine ⟨by decide, ?_⟩
          simp only [go_sem, ↓reduceIte, back_set, back_self]
      · replace hy3 := ite_f c5 hy3
        refine SW_reg fun K hK => ?_
        simp only [go_sem, ↓reduceIte, Nat.reduceEqDiff, Nat.reduceAdd, c4, c5]
        apply hK
        simp only [thenQ_normal]
        obtain rfl := some_eq hy3
        refine ⟨by decide, ?_⟩
        simp only [go_sem, ↓reduceIte, back_set, back_self]
    · replace hy3 := ite_f c4 hy3
      refine SW_reg fun K hK => ?_
      simp only [go_sem, ↓reduceIte, Nat.reduceEqDiff, Nat.reduceAdd, c4]
      apply hK
      simp only [thenQ_normal]
      obtain rfl := some_eq hy3
      refine ⟨by decide, ?_⟩
      simp only [go_sem, ↓reduceIte, back_set, back_self]
  · intro E9 m10 e11 _
    simp only [thenQ_normal]
    refine SW_ret ?_
    try simp only []
    obtain rfl := some_eq h
    refine ⟨by first | exact .inl rfl | exact .inl trivial | exact .inr rfl | exact .inr trivial, ?_⟩
    simp only [go_sem, e11]

theorem slices_EqualFunc_L_parse_Node_L_parse_Node_parse_Node_parse_Node__Same_b_ok {rec_parse_Same : T_parse_Node → T_parse_Node → Option Bool} (hrec_parse_Same : parse_Same_C rec_parse_Same) (n : Nat) : slices_EqualFunc_L_parse_Node_L_parse_Node_parse_Node_parse_Node__Same_C (slices_EqualFunc_L_parse_Node_L_parse_Node_parse_Node_parse_Node__Same_b rec_parse_Same n) := by
  intro a0 a1 r h q m vs hv
  refine SC.weak ?_
  rw [hv]
  refine SC_of Tryd.func33 rfl (fun xs w => Tryd.call33 xs w) Tryd.ntmps33 (by kernel_rfl) (congrArg Array.toList Tryd.results33) V.weak (fun _ _ _ => V.weak_ok) ?_
  unfold slices_EqualFunc_L_parse_Node_L_parse_Node_parse_Node_parse_Node__Same_b at h
  refine SW_seq ?_
  refine SW_reg fun K hK => ?_
  simp only [go_sem]
  apply hK
  simp only [thenQ_normal]
  refine SW_seq ?_
  refine SW_seq ?_
  refine SW_reg fun K hK => ?_
  simp only [go_sem, ↓reduceIte, Nat.reduceEqDiff, Nat.reduceAdd, reduceCtorEq]
  apply hK
  simp only [thenQ_normal]
  refine SW_if ((a0.length : Int) != (a1.length : Int)) (by simp only [go_sem, ↓reduceIte]) (fun c1 => ?_) (fun c1 => ?_)
  · replace h := ite_t c1 h
    refine SW_seq ?_
    refine SW_reg fun K hK => ?_
    simp only [go_sem, Nat.reduceAdd, c1]
    apply hK
    simp only [thenQ_normal]
    refine SW_ret ?_
    try simp only [thenQ_ret]
    obtain rfl := some_eq h
    refine ⟨by first | exact .inl rfl | exact .inl trivial | exact .inr rfl | exact .inr trivial, ?_⟩
    simp only [go_sem, ↓reduceIte, back_self]
  · replace h := ite_f c1 h
    refine SW_skip ?_
    try simp only [thenQ_normal]
    refine SW_seq ?_
    refine SW_seq ?_
    refine SW_reg fun K hK => ?_
    simp only [go_sem, ↓reduceIte, Nat.reduceAdd, reduceCtorEq, c1]
    apply hK
    simp only [thenQ_normal]
    refine SW_block ?_
    obtain ⟨y4, hy4, h⟩ := bind_some h
    refine SW_countW [] [] rfl (fun c E' m' => ∃ (v3 : Int), slices_EqualFunc_L_parse_Node_L_parse_Node_parse_Node_parse_Node__Same_l1 rec_parse_Same a0 a1 c v3 = some y4 ∧ E' 1 = .list .none (a1.map T_parse_Node.C) ∧ E' 2 = .fn (.func 18) [] [] ∧ E' 15 = .list .none (a0.map T_parse_Node.C) ∧ E' 16 = .lit (.int .i64 (a0.length : Int)) ∧ E' 17 = .lit (.int .i64 v3) ∧ m'.gl = m.gl ∧ m.back q m' = m) n ⟨(0 : Int), hy4, ?_⟩ ?_
    · simp only [go_sem, ↓reduceIte, Nat.reduceEqDiff, back_self]
    rintro i2 c5 E6 m7 ⟨v3, hy4, e8⟩ _
    rcases c5 with _ | c5
    · exact absurd hy4 (by rw [slices_EqualFunc_L_parse_Node_L_parse_Node_parse_Node_parse_Node__Same_l1]; exact fun e => nomatch e)
    rw [slices_EqualFunc_L_parse_Node_L_parse_Node_parse_Node_parse_Node__Same_l1] at hy4
    refine SW_seq ?_
    refine SW_reg fun K hK => ?_
    simp only [go_sem, e8]
    apply hK
    simp only [thenQ_normal]
    refine SW_seq ?_
    refine SW_if (decide (v3 < (a0.length : Int))) (by simp only [go_sem, ↓reduceIte]) (fun c9 => ?_) (fun c9 => ?_)
    · replace hy4 := ite_t c9 hy4
      refine SW_skip ?_
      try simp only [thenQ_normal]
      refine SW_seq ?_
      refine SW_block ?_
      refine SW_seq ?_
      obtain ⟨x10, h15, hy4⟩ := bind_some hy4
      obtain ⟨f12, f13, f14⟩ := idxL_some h15
      refine SW_reg fun K hK => ?_
      simp only [go_sem, ↓reduceIte, Nat.reduceEqDiff, Nat.reduceAdd, f12, f13, f14, e8]
      apply hK
      simp only [thenQ_normal]
      refine SW_seq ?_
      obtain ⟨x16, h21, hy4⟩ := bind_some hy4
      obtain ⟨f18, f19, f20⟩ := idxL_some h21
      refine SW_reg fun K hK => ?_
      simp only [go_sem, ↓reduceIte, Nat.reduceEqDiff, Nat.reduceAdd, f12, f19, f20, e8]
      apply hK
      simp only [thenQ_normal]
      refine SW_seq ?_
      obtain ⟨x22, h23, hy4⟩ := bind_some hy4
      refine SW_reg fun K hK => ?_
      simp only [go_sem, ↓reduceIte, Nat.reduceEqDiff, Nat.reduceAdd, e8]
      refine SC.by_ (hrec_parse_Same x10 x16 _ h23 _ _ _ (by simp only [go_sem])) ?_
      simp only [go_sem, ↓reduceIte, Nat.reduceAdd]
      apply hK
      simp only [thenQ_normal]
      refine SW_if (!x22) (by simp only [go_sem, ↓reduceIte]) (fun c24 => ?_) (fun c24 => ?_)
      · replace hy4 := ite_t c24 hy4
        refine SW_seq ?_
        refine SW_reg fun K hK => ?_
        simp only [go_sem, Nat.reduceAdd, c24]
        apply hK
        simp only [thenQ_normal]
        refine SW_ret ?_
        try simp only [thenQ_ret, blockQ_ret]
        obtain rfl := some_eq hy4
        simp only [Sum.elim_inr] at h
        obtain rfl := some_eq h
        refine ⟨by first | exact .inl rfl | exact .inl trivial | exact .inr rfl | exact .inr trivial, ?_⟩
        simp only [go_sem, ↓reduceIte, back_set, e8]
      · replace hy4 := ite_f c24 hy4
        refine SW_skip ?_
        try simp only [thenQ_normal, blockQ_normal]
        refine SW_reg fun K hK => ?_
        simp only [go_sem, ↓reduceIte, Nat.reduceEqDiff, Nat.reduceAdd, c24, e8]
        apply hK
        simp only [thenQ_normal]
        refine ⟨c5, Nat.lt_succ_self _, (IntKind.i64.wrap (v3 + (1 : Int))), hy4, ?_⟩
        simp only [go_sem, ↓reduceIte, Nat.reduceEqDiff, back_set, e8]
    · replace hy4 := ite_f c9 hy4
      refine SW_exit ?_
      try simp only [thenQ_exit, blockQ_exit, ↓reduceIte, thenQ_normal]
      obtain rfl := some_eq hy4
      simp only [Sum.elim_inl] at h
      refine SW_seq ?_
      refine SW_reg fun K hK => ?_
      simp only [go_sem, Nat.reduceAdd, c9]
      apply hK
      simp only [thenQ_normal]
      refine SW_ret ?_
      try simp only []
      obtain rfl := some_eq h
      refine ⟨by first | exact .inl rfl | exact .inl trivial | exact .inr rfl | exact .inr trivial, ?_⟩
      simp only [go_sem, ↓reduceIte, e8]

theorem parse_Same_grp_ok : ∀ n, parse_Same_C (parse_Same n) ∧ slices_EqualFunc_L_parse_Node_L_parse_Node_parse_Node_parse_Node__Same_C (slices_EqualFunc_L_parse_Node_L_parse_Node_parse_Node_parse_Node__Same n)
  | 0 => ⟨fun _ _ _ h => none_some_ h, fun _ _ _ h => none_some_ h⟩
  | n + 1 =>
    have ih := parse_Same_grp_ok n
    ⟨parse_Same_b_ok ih.2 n, slices_EqualFunc_L_parse_Node_L_parse_Node_parse_Node_parse_Node__Same_b_ok ih.1 n⟩
theorem parse_Same_ok (n : Nat) : parse_Same_C (parse_Same n) := (parse_Same_grp_ok n).1
theorem slices_EqualFunc_L_parse_Node_L_parse_Node_parse_Node_parse_Node__Same_ok (n : Nat) : slices_EqualFunc_L_parse_Node_L_parse_Node_parse_Node_parse_Node__Same_C (slices_EqualFunc_L_parse_Node_L_parse_Node_parse_Node_parse_Node__Same n) := (parse_Same_grp_ok n).2

def remontoirelaw10_ParseJoins_C (f : Str → Str → Option Bool) : Prop := ∀ (a0 : Str) (a1 : Str) (r : Bool), f a0 a1 = some r → ∀ (q : Pa) (m : M) (vs : List V), vs.map V.weak1 = [.list .none (byteRows a0), .list .none (byteRows a1)] ∧ m.gl 0 = .eptr [(cA cS g_parse_words)] 0 0 ∧ m.gl 3 = .eptr [(cA cS g_lex_signs)] 0 0 ∧ m.gl 6 = .eptr [(cA (cA cS) g_parse_levels)] 0 0 → SC Tryd.prog 7 vs q m (fun v m' => v = .lit (.bool r) ∧ m' = m)

theorem remontoirelaw10_ParseJoins_ok (n : Nat) : remontoirelaw10_ParseJoins_C (remontoirelaw10_ParseJoins n) := by
  rintro a0 a1 r h q m vs ⟨hv, hg0, hg3, hg6⟩
  refine SC.weak ?_
  rw [hv]
  refine SC_of Tryd.func7 rfl (fun xs w => Tryd.call7 xs w) Tryd.ntmps7 (by kernel_rfl) (congrArg Array.toList Tryd.results7) V.weak (fun _ _ _ => V.weak_ok) ?_
  unfold remontoirelaw10_ParseJoins at h
  refine SW_seq ?_
  refine SW_reg fun K hK => ?_
  simp only [go_sem]
  apply hK
  simp only [thenQ_normal]
  refine SW_seq ?_
  refine SW_seq ?_
  obtain ⟨x1, h2, h⟩ := bind_some h
  refine SW_reg fun K hK => ?_
  simp only [go_sem]
  refine SC.by_ (remontoirelaw10_anchor_ok n _ h2 _ _ _ (by simp only [go_sem, hg0, hg3, hg6])) ?_
  simp only [go_sem, ↓reduceIte, Nat.reduceAdd]
  apply hK
  simp only [thenQ_normal]
  refine SW_if (!x1) (by simp only [go_sem, ↓reduceIte]) (fun c3 => ?_) (fun c3 => ?_)
  · replace h := ite_t c3 h
    refine SW_seq ?_
    refine SW_reg fun K hK => ?_
    simp only [go_sem, Nat.reduceAdd, c3]
    apply hK
    simp only [thenQ_normal]
    refine SW_ret ?_
    try simp only [thenQ_ret]
    obtain rfl := some_eq h
    refine ⟨by first | exact .inl rfl | exact .inl trivial | exact .inr rfl | exact .inr trivial, ?_⟩
    simp only [go_sem, ↓reduceIte, back_self]
  · replace h := ite_f c3 h
    refine SW_skip ?_
    try simp only [thenQ_normal]
    refine SW_seq ?_
    refine SW_seq ?_
    obtain ⟨y4, hy4, h⟩ := bind_some h
    refine SW_joinK 11 [] [] rfl (fun E' m' => E' 0 = .list .none (byteRows a0) ∧ E' 1 = .list .none (byteRows a1) ∧ E' 23 = .lit (.bool y4) ∧ m'.gl = m.gl ∧ m.back q m' = m) ?_ ?_
    · rcases bool_or (decide ((2000 : Int) < (a0.length : Int))) with c5 | c5
      · replace hy4 := ite_t c5 hy4
        refine SW_reg fun K hK => ?_
        simp only [go_sem, ↓reduceIte, Nat.reduceEqDiff, Nat.reduceAdd, reduceCtorEq, c3, c5]
        apply hK
        simp only [thenQ_normal]
        obtain rfl := some_eq hy4
        refine ⟨by decide, ?_⟩
        simp only [go_sem, ↓reduceIte, Nat.reduceEqDiff, reduceCtorEq, back_self]
      · replace hy4 := ite_f c5 hy4
        refine SW_reg fun K hK => ?_
        simp only [go_sem, ↓reduceIte, Nat.reduceEqDiff, Nat.reduceAdd, reduceCtorEq, c3, c5]
        apply hK
        simp only [thenQ_normal]
        obtain rfl := some_eq hy4
        refine ⟨by decide, ?_⟩
        simp only [go_sem, ↓reduceIte, Nat.reduceEqDiff, reduceCtorEq, back_self]
    · intro E6 m7 e8 _
      simp only [thenQ_normal]
      refine SW_if y4 (by simp only [go_sem, e8]) (fun c9 => ?_) (fun c9 => ?_)
      · replace h := ite_t c9 h
        refine SW_seq ?_
        refine SW_reg fun K hK => ?_
        simp only [go_sem, Nat.reduceAdd]
        apply hK
        simp only [thenQ_normal]
        refine SW_ret ?_
        try simp only [thenQ_ret]
        obtain rfl := some_eq h
        refine ⟨by first | exact .inl rfl | exact .inl trivial | exact .inr rfl | exact .inr trivial, ?_⟩
        simp only [go_sem, ↓reduceIte, e8]
      · replace h := ite_f c9 h
        refine SW_skip ?_
        try simp only [thenQ_normal]
        refine SW_seq ?_
        obtain ⟨x10, h12, h⟩ := bind_some h
        refine SW_reg fun K hK => ?_
        simp only [go_sem, ↓reduceIte, Nat.reduceAdd, e8]
        refine SC.by_ (parse_Parse_ok n a0 _ h12 _ _ _ (by simp only [go_sem, e8, hg0, hg3, hg6])) ?_
        simp only [go_sem, ↓reduceIte, Nat.reduceEqDiff, Nat.reduceAdd]
        apply hK
        simp only [thenQ_normal]
        refine SW_seq ?_
        obtain ⟨x13, h15, h⟩ := bind_some h
        refine SW_reg fun K hK => ?_
        simp only [go_sem, ↓reduceIte, Nat.reduceEqDiff, Nat.reduceAdd, e8]
        refine SC.by_ (parse_Parse_ok n a1 _ h15 _ _ _ (by simp only [go_sem, e8, hg0, hg3, hg6])) ?_
        simp only [go_sem, ↓reduceIte, Nat.reduceEqDiff, Nat.reduceAdd]
        apply hK
        simp only [thenQ_normal]
        refine SW_seq ?_
        obtain ⟨f18, h⟩ := need_some h
        have f19 : a0.length ≤ 1073741824 := by first | omega | (simp only [List.length_append, List.length_cons, List.length_nil] at f18 ⊢; omega)
        obtain ⟨f20, h⟩ := need_some h
        have f21 : a0.length + 1 ≤ 1073741824 := by first | omega | (simp only [List.length_append, List.length_cons, List.length_nil] at f20 ⊢; omega)
        have f22 : a0.length ≤ 1073741823 := by first | omega | (simp only [List.length_append, List.length_cons, List.length_nil] at f20 ⊢; omega)
        obtain ⟨f23, h⟩ := need_some h
        have f24 : a0.length + 1 + a1.length ≤ 1073741824 := by first | omega | (simp only [List.length_append, List.length_cons, List.length_nil] at f23 ⊢; omega)
        obtain ⟨x16, h25, h⟩ := bind_some h
        refine SW_reg fun K hK => ?_
        simp only [go_sem, ↓reduceIte, Nat.reduceEqDiff, Nat.reduceAdd, Nat.reduceLT, Nat.reduceLeDiff, reduceCtorEq, f19, f21, f24, e8]
        refine SC.by_ (parse_Parse_ok n (((([] : Str) ++ a0) ++ ([10] : Str)) ++ a1) _ h25 _ _ _ (by simp only [go_sem, UInt8.reduceToNat, e8, hg0, hg3, hg6])) ?_
        simp only [go_sem, ↓reduceIte, Nat.reduceEqDiff, Nat.reduceAdd]
        apply hK
        simp only [thenQ_normal]
        refine SW_seq ?_
        refine SW_seq ?_
        obtain ⟨y26, hy26, h⟩ := bind_some h
        refine SW_joinK 53 [] [] rfl (fun E' m' => E' 5 = .ptr (17 :: q) 0 ∧ E' 8 = .ptr (27 :: q) 0 ∧ E' 11 = .ptr (43 :: q) 0 ∧ E' 12 = .lit (.int .i64 x16.2.1) ∧ E' 53 = .lit (.bool y26) ∧ m'.blk (17 :: q) = some ((T_parse_Node.C x10.1)) ∧ m'.blk (27 :: q) = some ((T_parse_Node.C x13.1)) ∧ m'.blk (43 :: q) = some ((T_parse_Node.C x16.1)) ∧ m'.gl = m.gl ∧ m.back q m' = m) ?_ ?_
        · rcases bool_or (x10.2.1 != (0 : Int)) with c27 | c27
          · replace hy26 := ite_t c27 hy26
            refine SW_reg fun K hK => ?_
            simp only [go_sem, ↓reduceIte, Nat.reduceEqDiff, Nat.reduceAdd, c27]
            apply hK
            simp only [thenQ_normal]
            obtain rfl := some_eq hy26
            refine ⟨by decide, ?_⟩
            simp only [go_sem, ↓reduceIte, Nat.reduceEqDiff, back_set, back_tokset, e8]
          · replace hy26 := ite_f c27 hy26
            refine SW_reg fun K hK => ?_
            simp only [go_sem, ↓reduceIte, Nat.reduceEqDiff, Nat.reduceAdd, c27]
            apply hK
            simp only [thenQ_normal]
            obtain rfl := some_eq hy26
            refine ⟨by decide, ?_⟩
            simp only [go_sem, ↓reduceIte, Nat.reduceEqDiff, back_set, back_tokset, e8]
        · intro E28 m29 e30 _
          simp only [thenQ_normal]
          refine SW_if y26 (by simp only [go_sem, e30]) (fun c31 => ?_) (fun c31 => ?_)
          · replace h := ite_t c31 h
            refine SW_seq ?_
            refine SW_reg fun K hK => ?_
            simp only [go_sem, Nat.reduceAdd]
            apply hK
            simp only [thenQ_normal]
            refine SW_ret ?_
            try simp only [thenQ_ret]
            obtain rfl := some_eq h
            refine ⟨by first | exact .inl rfl | exact .inl trivial | exact .inr rfl | exact .inr trivial, ?_⟩
            simp only [go_sem, ↓reduceIte, e30]
          · replace h := ite_f c31 h
            refine SW_skip ?_
            try simp only [thenQ_normal]
            refine SW_seq ?_
            refine SW_seq ?_
            refine SW_reg fun K hK => ?_
            simp only [go_sem, ↓reduceIte, Nat.reduceAdd, e30]
            apply hK
            simp only [thenQ_normal]
            refine SW_if (x16.2.1 != (0 : Int)) (by simp only [go_sem, ↓reduceIte]) (fun c32 => ?_) (fun c32 => ?_)
            · replace h := ite_t c32 h
              refine SW_seq ?_
              obtain ⟨y33, hy33, h⟩ := bind_some h
              refine SW_joinK 66 [] [] rfl (fun E' m' => E' 4 = .lit (.bool y33) ∧ m'.gl = m.gl ∧ m.back q m' = m) ?_ ?_
              · rcases bool_or (x16.2.1 == (136 : Int)) with c34 | c34
                · replace hy33 := ite_t c34 hy33
                  obtain ⟨x35, h37, hy33⟩ := bind_some hy33
                  obtain ⟨x36, h38, hy33⟩ := bind_some hy33
                  refine SW_drawK (tbl := [0, 1, 3, 7, 15, 7, 63, 127, 255, 511, 1023]) (ord := [(0, 0), (1, 0), (2, 0), (3, 0), (4, 0), (5, 1), (6, 0), (7, 0), (8, 0), (9, 0), (10, 0)]) 66 rfl (by kernel_rfl) (by kernel_rfl) fun K hK => ?_
                  simp only [go_sem, ↓reduceIte, Nat.reduceEqDiff, Nat.reduceAdd, c32, c34, e30]
                  refine dcall_of (parse_Count_ok n x10.1 _ h37 _ _ _ (by simp only [go_sem])) rfl ?_
                  simp only [go_sem, ↓reduceIte, Nat.reduceEqDiff, Nat.reduceAdd, e30]
                  refine dcall_of (parse_Count_ok n x13.1 _ h38 _ _ _ (by simp only [go_sem])) rfl ?_
                  simp only [go_sem, ↓reduceIte, Nat.reduceEqDiff]
                  apply hK
                  simp only [thenQ_normal]
                  obtain rfl := some_eq hy33
                  refine ⟨by decide, ?_⟩
                  simp only [go_sem, ↓reduceIte, e30]
                · replace hy33 := ite_f c34 hy33
                  refine SW_drawK (tbl := [0, 1, 3, 7, 15, 7, 63, 127, 255, 511, 1023]) (ord := [(0, 0), (1, 0), (2, 0), (3, 0), (4, 0), (5, 1), (6, 0), (7, 0), (8, 0), (9, 0), (10, 0)]) 66 rfl (by kernel_rfl) (by kernel_rfl) fun K hK => ?_
                  simp only [go_sem, ↓reduceIte, Nat.reduceEqDiff, c32, c34, e30]
                  apply hK
                  simp only [thenQ_normal]
                  obtain rfl := some_eq hy33
                  refine ⟨by decide, ?_⟩
                  simp only [go_sem, ↓reduceIte, e30]
              · intro E39 m40 e41 _
                simp only [thenQ_normal]
                refine SW_ret ?_
                try simp only [thenQ_ret]
                obtain rfl := some_eq h
                refine ⟨by first | exact .inl rfl | exact .inl trivial | exact .inr rfl | exact .inr trivial, ?_⟩
                simp only [go_sem, e41]
            · replace h := ite_f c32 h
              refine SW_skip ?_
              try simp only [thenQ_normal]
              refine SW_seq ?_
              obtain ⟨y42, hy42, h⟩ := bind_some h
              refine SW_joinK 77 [] [] rfl (fun E' m' => E' 4 = .lit (.bool y42) ∧ m'.gl = m.gl ∧ m.back q m' = m) ?_ ?_
              · obtain ⟨f44, hy42⟩ := need_some hy42
                have f45 : x10.1.List_.length ≤ 1073741824 := by first | omega | (simp only [List.length_append, List.length_cons, List.length_nil] at f44 ⊢; omega)
                obtain ⟨f46, hy42⟩ := need_some hy42
                have f47 : x10.1.List_.length + x13.1.List_.length ≤ 1073741824 := by first | omega | (simp only [List.length_append, List.length_cons, List.length_nil] at f46 ⊢; omega)
                obtain ⟨x43, h48, hy42⟩ := bind_some hy42
                rcases bool_or x43 with c49 | c49
                · replace hy42 := ite_t c49 hy42
                  obtain ⟨x50, h53, hy42⟩ := bind_some hy42
                  obtain ⟨x51, h54, hy42⟩ := bind_some hy42
                  obtain ⟨x52, h55, hy42⟩ := bind_some hy42
                  refine SW_drawK (tbl := [0, 0, 0, 4, 14, 0, 32, 126, 254, 511, 1023, 2047, 4095, 2047, 16383, 2047, 65535, 131071, 262143, 524287, 1048575, 2097151]) (ord := [(1, 0), (2, 0), (3, 0), (4, 0), (5, 0), (6, 1), (7, 0), (0, 2), (8, 0), (9, 0), (10, 0), (11, 0), (12, 0), (13, 1), (14, 0), (15, 2), (16, 0), (17, 0), (18, 0), (19, 0), (20, 0), (21, 0)]) 77 rfl (by kernel_rfl) (by kernel_rfl) fun K hK => ?_
                  simp only [go_sem, ↓reduceIte, Nat.reduceEqDiff, Nat.reduceAdd, Nat.reduceMul, Nat.reduceLT, Nat.reduceLeDiff, c32, f44, f46, e30]
                  refine dcall_of (parse_Same_ok n x16.1 (T_parse_Node.mk (1 : Int) (0 : Int) [] (0 : Int) (x10.1.List_ ++ x13.1.List_)) _ h48 _ _ _ (by simp only [go_sem])) rfl ?_
                  simp only [go_sem, ↓reduceIte, Nat.reduceEqDiff, Nat.reduceAdd, c49, e30]
                  refine dcall_of (parse_Count_ok n x16.1 _ h53 _ _ _ (by simp only [go_sem])) rfl ?_
                  simp only [go_sem, ↓reduceIte, Nat.reduceEqDiff, Nat.reduceAdd, e30]
                  refine dcall_of (parse_Count_ok n x10.1 _ h54 _ _ _ (by simp only [go_sem])) rfl ?_
                  simp only [go_sem, ↓reduceIte, Nat.reduceEqDiff, Nat.reduceAdd, e30]
                  refine dcall_of (parse_Count_ok n x13.1 _ h55 _ _ _ (by simp only [go_sem])) rfl ?_
                  simp only [go_sem, ↓reduceIte, Nat.reduceEqDiff]
                  apply hK
                  simp only [thenQ_normal]
                  obtain rfl := some_eq hy42
                  refine ⟨by decide, ?_⟩
                  simp only [go_sem, ↓reduceIte, back_tokset, e30]
                · replace hy42 := ite_f c49 hy42
                  refine SW_drawK (tbl := [0, 0, 0, 4, 14, 0, 32, 126, 254, 511, 1023, 2047, 4095, 2047, 16383, 2047, 65535, 131071, 262143, 524287, 1048575, 2097151]) (ord := [(1, 0), (2, 0), (3, 0), (4, 0), (5, 0), (6, 1), (7, 0), (0, 2), (8, 0), (9, 0), (10, 0), (11, 0), (12, 0), (13, 1), (14, 0), (15, 2), (16, 0), (17, 0), (18, 0), (19, 0), (20, 0), (21, 0)]) 77 rfl (by kernel_rfl) (by kernel_rfl) fun K hK => ?_
                  simp only [go_sem, ↓reduceIte, Nat.reduceEqDiff, Nat.reduceAdd, Nat.reduceMul, Nat.reduceLT, Nat.reduceLeDiff, c32, f44, f46, e30]
                  refine dcall_of (parse_Same_ok n x16.1 (T_parse_Node.mk (1 : Int) (0 : Int) [] (0 : Int) (x10.1.List_ ++ x13.1.List_)) _ h48 _ _ _ (by simp only [go_sem])) rfl ?_
                  simp only [go_sem, ↓reduceIte, Nat.reduceEqDiff, c49]
                  apply hK
                  simp only [thenQ_normal]
                  obtain rfl := some_eq hy42
                  refine ⟨by decide, ?_⟩
                  simp only [go_sem, ↓reduceIte, back_tokset, e30]
              · intro E56 m57 e58 _
                simp only [thenQ_normal]
                refine SW_ret ?_
                try simp only []
                obtain rfl := some_eq h
                refine ⟨by first | exact .inl rfl | exact .inl trivial | exact .inr rfl | exact .inr trivial, ?_⟩
                simp only [go_sem, e58]

end Go.Proofs.YtolhahlnccekcaaDoor.Abs
