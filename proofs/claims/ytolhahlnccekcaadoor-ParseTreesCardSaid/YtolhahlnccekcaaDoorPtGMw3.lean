/-
  Walks: each function does what its model says. Written by a program of mine (gen.py) for this claim.
-/
import Derived.Test.YtolhahlnccekcaaDoorPtGMw2
import Derived.Test.YtolhahlnccekcaaDoorPtGMm
import Derived.Test.YtolhahlnccekcaaDoorPtFacts
namespace Go.Proofs.YtolhahlnccekcaaDoor.Abs
open Go.RowKit
set_option linter.unusedVariables false
set_option maxRecDepth 10000

def remontoireref10_P_block_C (f : T_remontoireref10_P → Int → Option (T_remontoireref10_P × (List T_remontoireref10_N))) : Prop := ∀ (a0 : T_remontoireref10_P) (a1 : Int) (r : (T_remontoireref10_P × (List T_remontoireref10_N))), f a0 a1 = some r → ∀ (q : Pa) (m : M) (vs : List V), vs.map V.weak1 = [.agg ((T_remontoireref10_P.C a0)), .lit (.int .i64 a1)] → SC Tryd.prog 63 vs q m (fun v m' => v = .tup [.agg ((T_remontoireref10_P.C r.1)), .list .none (r.2.map T_remontoireref10_N.C)] ∧ m' = m)

def remontoireref10_P_statement_C (f : T_remontoireref10_P → Int → Option (T_remontoireref10_P × (List T_remontoireref10_N))) : Prop := ∀ (a0 : T_remontoireref10_P) (a1 : Int) (r : (T_remontoireref10_P × (List T_remontoireref10_N))), f a0 a1 = some r → ∀ (q : Pa) (m : M) (vs : List V), vs.map V.weak1 = [.agg ((T_remontoireref10_P.C a0)), .lit (.int .i64 a1)] → SC Tryd.prog 93 vs q m (fun v m' => v = .tup [.agg ((T_remontoireref10_P.C r.1)), .list .none (r.2.map T_remontoireref10_N.C)] ∧ m' = m)

def remontoireref10_P_within_C (f : T_remontoireref10_P → T_remontoireref10_N → Int → Option (T_remontoireref10_P × (List T_remontoireref10_N))) : Prop := ∀ (a0 : T_remontoireref10_P) (a1 : T_remontoireref10_N) (a2 : Int) (r : (T_remontoireref10_P × (List T_remontoireref10_N))), f a0 a1 a2 = some r → ∀ (q : Pa) (m : M) (vs : List V), vs.map V.weak1 = [.agg ((T_remontoireref10_P.C a0)), .agg ((T_remontoireref10_N.C a1)), .lit (.int .i64 a2)] → SC Tryd.prog 112 vs q m (fun v m' => v = .tup [.agg ((T_remontoireref10_P.C r.1)), .list .none (r.2.map T_remontoireref10_N.C)] ∧ m' = m)

theorem remontoireref10_P_block_b_ok {rec_remontoireref10_P_statement : T_remontoireref10_P → Int → Option (T_remontoireref10_P × (List T_remontoireref10_N))} (hrec_remontoireref10_P_statement : remontoireref10_P_statement_C rec_remontoireref10_P_statement) (n : Nat) : remontoireref10_P_block_C (remontoireref10_P_block_b rec_remontoireref10_P_statement n) := by
  intro a0 a1 r h q m vs hv
  refine SC.weak ?_
  rw [hv]
  refine SC_of Tryd.func63 rfl (fun xs w => Tryd.call63 xs w) Tryd.ntmps63 (by kernel_rfl) (congrArg Array.toList Tryd.results63) V.weak (fun _ _ _ => V.weak_ok) ?_
  unfold remontoireref10_P_block_b at h
  refine SW_seq ?_
  refine SW_reg fun K hK => ?_
  simp only [go_sem, Nat.reduceAdd]
  apply hK
  simp only [thenQ_normal]
  refine SW_seq ?_
  refine SW_seq ?_
  refine SW_reg fun K hK => ?_
  simp only [go_sem, ↓reduceIte, Nat.reduceEqDiff, Nat.reduceAdd]
  apply hK
  simp only [thenQ_normal]
  refine SW_if (decide ((64 : Int) < a1)) (by simp only [go_sem, ↓reduceIte]) (fun c3 => ?_) (fun c3 => ?_)
  · replace h := ite_t c3 h
    obtain ⟨x4, h5, h⟩ := bind_some h
    refine SW_reg fun K hK => ?_
    simp only [go_sem, ↓reduceIte, Nat.reduceEqDiff, Nat.reduceAdd, c3]
    refine SC.by_ (remontoireref10_P_fail_ok a0 (111 : Int) _ h5 _ _ _ (by simp only [go_sem])) ?_
    simp only [go_sem, ↓reduceIte, Nat.reduceEqDiff, Nat.reduceAdd]
    apply hK
    simp only [thenQ_normal]
    refine SW_seq ?_
    obtain ⟨x6, h8, h⟩ := bind_some h
    refine SW_reg fun K hK => ?_
    simp only [go_sem, ↓reduceIte, Nat.reduceEqDiff, Nat.reduceAdd]
    refine SC.by_ (remontoireref10_P_node_ok x4 (4 : Int) _ h8 _ _ _ (by simp only [go_sem])) ?_
    simp only [go_sem, ↓reduceIte, Nat.reduceEqDiff, Nat.reduceAdd, reduceCtorEq]
    apply hK
    simp only [thenQ_normal]
    refine SW_seq ?_
    obtain ⟨x9, h10, h⟩ := bind_some h
    refine SW_reg fun K hK => ?_
    simp only [go_sem, ↓reduceIte, Nat.reduceEqDiff, Nat.reduceAdd, reduceCtorEq]
    refine SC.by_ (remontoireref10_P_need_ok n x6.1 ([123] : Str) _ h10 _ _ _ (by simp only [go_sem])) ?_
    simp only [go_sem, ↓reduceIte, Nat.reduceEqDiff, Nat.reduceAdd, reduceCtorEq]
    apply hK
    simp only [thenQ_normal]
    refine SW_seq ?_
    refine SW_reg fun K hK => ?_
    simp only [go_sem, Nat.reduceAdd]
    apply hK
    simp only [thenQ_normal]
    refine SW_seq ?_
    refine SW_block ?_
    obtain ⟨y15, hy15, h⟩ := bind_some h
    refine SW_stamp 7 ([].map T_remontoireref10_N.C) rfl (by simp only [go_sem, ↓reduceIte]) ?_
    refine SW_countW [] [] rfl (fun c E' m' => ∃ (v12 : (List T_remontoireref10_N)), ∃ (v13 : T_remontoireref10_P), ∃ (v14 : T_remontoireref10_N), ∃ (o_v12 : Pa) (j_v12 : Nat), remontoireref10_P_block_l1 rec_remontoireref10_P_statement n a1 c v12 v13 v14 = some y15 ∧ E' 1 = .lit (.int .i64 a1) ∧ E' 2 = .ptr (0 :: q) 0 ∧ E' 4 = .ptr (1 :: q) 0 ∧ E' 6 = .ptr (13 :: q) 0 ∧ E' 7 = .list (.st (.anon o_v12 j_v12)) (v12.map T_remontoireref10_N.C) ∧ m'.tok o_v12 j_v12 = true ∧ q <:+ o_v12 ∧ m'.blk (0 :: q) = some ((T_remontoireref10_P.C v13)) ∧ m'.blk (1 :: q) = some ([.list .self ([].map T_remontoireref09_T.C), .lit (.int .i64 (0 : Int)), .lit (.int .i64 (0 : Int)), .lit (.int .i64 (0 : Int)), .lit (.int .i64 (0 : Int))]) ∧ m'.blk (13 :: q) = some ((T_remontoireref10_N.C v14)) ∧ m'.gl = m.gl ∧ m.back q m' = m) n ⟨[], x9, x6.2, (20 :: q), 0, hy15, ?_⟩ ?_
    · simp only [go_sem, ↓reduceIte, Nat.reduceEqDiff, reduceCtorEq, back_set, back_tokset, back_self]
    rintro i11 c16 E17 m18 ⟨v12, v13, v14, o_v12, j_v12, hy15, e19⟩ _
    rcases c16 with _ | c16
    · exact absurd hy15 (by rw [remontoireref10_P_block_l1]; exact fun e => nomatch e)
    rw [remontoireref10_P_block_l1] at hy15
    refine SW_seq ?_
    refine SW_seq ?_
    obtain ⟨y20, hy20, hy15⟩ := bind_some hy15
    refine SW_joinK 8 [] [] rfl (fun E' m' => E' 1 = .lit (.int .i64 a1) ∧ E' 2 = .ptr (0 :: q) 0 ∧ E' 4 = .ptr (1 :: q) 0 ∧ E' 6 = .ptr (13 :: q) 0 ∧ E' 7 = .list (.st (.anon o_v12 j_v12)) (v12.map T_remontoireref10_N.C) ∧ m'.tok o_v12 j_v12 = true ∧ q <:+ o_v12 ∧ E' 28 = .lit (.bool y20) ∧ m'.blk (0 :: q) = some ((T_remontoireref10_P.C v13)) ∧ m'.blk (1 :: q) = some ([.list .self ([].map T_remontoireref09_T.C), .lit (.int .i64 (0 : Int)), .lit (.int .i64 (0 : Int)), .lit (.int .i64 (0 : Int)), .lit (.int .i64 (0 : Int))]) ∧ m'.blk (13 :: q) = some ((T_remontoireref10_N.C v14)) ∧ m'.gl = m.gl ∧ m.back q m' = m) ?_ ?_
    · rcases bool_or (v13.E_ == (0 : Int)) with c21 | c21
      · replace hy20 := ite_t c21 hy20
        obtain ⟨x22, h23, hy20⟩ := bind_some hy20
        refine SW_reg fun K hK => ?_
        simp only [go_sem, ↓reduceIte, Nat.reduceEqDiff, Nat.reduceAdd, c21, e19]
        refine SC.by_ (remontoireref10_P_is_ok n v13 ([125] : Str) _ h23 _ _ _ (by simp only [go_sem])) ?_
        simp only [go_sem, ↓reduceIte, Nat.reduceEqDiff, Nat.reduceAdd]
        apply hK
        simp only [thenQ_normal]
        obtain rfl := some_eq hy20
        refine ⟨by decide, ?_⟩
        simp only [go_sem, ↓reduceIte, Nat.reduceEqDiff, e19]
      · replace hy20 := ite_f c21 hy20
        refine SW_reg fun K hK => ?_
        simp only [go_sem, ↓reduceIte, Nat.reduceEqDiff, Nat.reduceAdd, c21, e19]
        apply hK
        simp only [thenQ_normal]
        obtain rfl := some_eq hy20
        refine ⟨by decide, ?_⟩
        simp only [go_sem, ↓reduceIte, Nat.reduceEqDiff, e19]
    · intro E24 m25 e26 _
      simp only [thenQ_normal]
      refine SW_if y20 (by simp only [go_sem, e26]) (fun c27 => ?_) (fun c27 => ?_)
      · replace hy15 := ite_t c27 hy15
        refine SW_skip ?_
        try simp only [thenQ_normal]
        refine SW_block ?_
        refine SW_seq ?_
        obtain ⟨x28, h30, hy15⟩ := bind_some hy15
        refine SW_reg fun K hK => ?_
        simp only [go_sem, ↓reduceIte, Nat.reduceEqDiff, Nat.reduceAdd, e26]
        refine SC.by_ (hrec_remontoireref10_P_statement v13 a1 _ h30 _ _ _ (by simp only [go_sem])) ?_
        simp only [go_sem, ↓reduceIte, Nat.reduceEqDiff, Nat.reduceAdd]
        apply hK
        simp only [thenQ_normal]
        refine SW_seq ?_
        refine SW_reg fun K hK => ?_
        simp only [go_sem, ↓reduceIte, Nat.reduceEqDiff, Nat.reduceAdd, reduceCtorEq, e26]
        apply hK
        simp only [thenQ_normal]
        refine SW_seq ?_
        obtain ⟨f31, hy15⟩ := need_some hy15
        have f32 : v12.length + x28.2.length ≤ 1073741824 := by first | omega | (simp only [List.length_append, List.length_cons, List.length_nil] at f31 ⊢; omega)
        refine SW_reg fun K hK => ?_
        simp only [go_sem, ↓reduceIte, Nat.reduceEqDiff, Nat.reduceAdd, Nat.reduceLT, Nat.reduceLeDiff, f31, e26]
        apply hK
        simp only [thenQ_normal]
        refine SW_reg fun K hK => ?_
        simp only [go_sem, ↓reduceIte, Nat.reduceEqDiff, Nat.reduceAdd, reduceCtorEq, e26]
        apply hK
        simp only [thenQ_normal, blockQ_normal]
        refine ⟨c16, Nat.lt_succ_self _, (v12 ++ x28.2), x28.1, ({ v14 with Kids_ := (IntKind.i64.wrap (v14.Kids_ + (1 : Int))) } : T_remontoireref10_N), (21 :: i11 :: 21 :: q), 0, hy15, ?_⟩
        simp only [go_sem, ↓reduceIte, Nat.reduceEqDiff, reduceCtorEq, back_set, back_tokset, e26]
      · replace hy15 := ite_f c27 hy15
        refine SW_exit ?_
        try simp only [thenQ_exit, blockQ_exit, ↓reduceIte, thenQ_normal]
        obtain rfl := some_eq hy15
        refine SW_seq ?_
        obtain ⟨x33, h34, h⟩ := bind_some h
        obtain ⟨f35, h⟩ := need_some h
        have f36 : 1 + v12.length ≤ 1073741824 := by first | omega | (simp only [List.length_append, List.length_cons, List.length_nil] at f35 ⊢; omega)
        refine SW_drawK (tbl := [0, 1, 0, 4, 0, 31, 63, 127]) (ord := [(0, 0), (1, 0), (2, 1), (3, 0), (4, 0), (5, 0), (6, 0), (7, 0)]) 30 rfl (by kernel_rfl) (by kernel_rfl) fun K hK => ?_
        simp only [go_sem, ↓reduceIte, Nat.reduceAdd, e26]
        refine dcall_of (remontoireref10_P_need_ok n v13 ([125] : Str) _ h34 _ _ _ (by simp only [go_sem])) rfl ?_
        simp only [go_sem, ↓reduceIte, Nat.reduceEqDiff, Nat.reduceAdd, Nat.reduceLT, Nat.reduceLeDiff, f36, e26]
        apply hK
        simp only [thenQ_normal]
        refine SW_ret ?_
        try simp only []
        obtain rfl := some_eq h
        refine ⟨by first | exact .inl rfl | exact .inl trivial | exact .inr rfl | exact .inr trivial, ?_⟩
        simp only [go_sem, ↓reduceIte, Nat.reduceEqDiff, Nat.reduceAdd, back_set, back_tokset, e26]
  · replace h := ite_f c3 h
    refine SW_skip ?_
    try simp only [thenQ_normal]
    refine SW_seq ?_
    obtain ⟨x41, h43, h⟩ := bind_some h
    refine SW_reg fun K hK => ?_
    simp only [go_sem, ↓reduceIte, Nat.reduceEqDiff, Nat.reduceAdd, c3]
    refine SC.by_ (remontoireref10_P_node_ok a0 (4 : Int) _ h43 _ _ _ (by simp only [go_sem])) ?_
    simp only [go_sem, ↓reduceIte, Nat.reduceEqDiff, Nat.reduceAdd, reduceCtorEq]
    apply hK
    simp only [thenQ_normal]
    refine SW_seq ?_
    obtain ⟨x44, h45, h⟩ := bind_some h
    refine SW_reg fun K hK => ?_
    simp only [go_sem, ↓reduceIte, Nat.reduceEqDiff, Nat.reduceAdd, reduceCtorEq]
    refine SC.by_ (remontoireref10_P_need_ok n x41.1 ([123] : Str) _ h45 _ _ _ (by simp only [go_sem])) ?_
    simp only [go_sem, ↓reduceIte, Nat.reduceEqDiff, Nat.reduceAdd, reduceCtorEq]
    apply hK
    simp only [thenQ_normal]
    refine SW_seq ?_
    refine SW_reg fun K hK => ?_
    simp only [go_sem, Nat.reduceAdd]
    apply hK
    simp only [thenQ_normal]
    refine SW_seq ?_
    refine SW_block ?_
    obtain ⟨y50, hy50, h⟩ := bind_some h
    refine SW_stamp 7 ([].map T_remontoireref10_N.C) rfl (by simp only [go_sem, ↓reduceIte]) ?_
    refine SW_countW [] [] rfl (fun c E' m' => ∃ (v47 : (List T_remontoireref10_N)), ∃ (v48 : T_remontoireref10_P), ∃ (v49 : T_remontoireref10_N), ∃ (o_v47 : Pa) (j_v47 : Nat), remontoireref10_P_block_l2 rec_remontoireref10_P_statement n a1 c v47 v48 v49 = some y50 ∧ E' 1 = .lit (.int .i64 a1) ∧ E' 2 = .ptr (0 :: q) 0 ∧ E' 4 = .ptr (1 :: q) 0 ∧ E' 6 = .ptr (10 :: q) 0 ∧ E' 7 = .list (.st (.anon o_v47 j_v47)) (v47.map T_remontoireref10_N.C) ∧ m'.tok o_v47 j_v47 = true ∧ q <:+ o_v47 ∧ m'.blk (0 :: q) = some ((T_remontoireref10_P.C v48)) ∧ m'.blk (1 :: q) = some ([.list .self ([].map T_remontoireref09_T.C), .lit (.int .i64 (0 : Int)), .lit (.int .i64 (0 : Int)), .lit (.int .i64 (0 : Int)), .lit (.int .i64 (0 : Int))]) ∧ m'.blk (10 :: q) = some ((T_remontoireref10_N.C v49)) ∧ m'.gl = m.gl ∧ m.back q m' = m) n ⟨[], x44, x41.2, (17 :: q), 0, hy50, ?_⟩ ?_
    · simp only [go_sem, ↓reduceIte, Nat.reduceEqDiff, reduceCtorEq, back_set, back_tokset, back_self]
    rintro i46 c51 E52 m53 ⟨v47, v48, v49, o_v47, j_v47, hy50, e54⟩ _
    rcases c51 with _ | c51
    · exact absurd hy50 (by rw [remontoireref10_P_block_l2]; exact fun e => nomatch e)
    rw [remontoireref10_P_block_l2] at hy50
    refine SW_seq ?_
    refine SW_seq ?_
    obtain ⟨y55, hy55, hy50⟩ := bind_some hy50
    refine SW_joinK 8 [] [] rfl (fun E' m' => E' 1 = .lit (.int .i64 a1) ∧ E' 2 = .ptr (0 :: q) 0 ∧ E' 4 = .ptr (1 :: q) 0 ∧ E' 6 = .ptr (10 :: q) 0 ∧ E' 7 = .list (.st (.anon o_v47 j_v47)) (v47.map T_remontoireref10_N.C) ∧ m'.tok o_v47 j_v47 = true ∧ q <:+ o_v47 ∧ E' 28 = .lit (.bool y55) ∧ m'.blk (0 :: q) = some ((T_remontoireref10_P.C v48)) ∧ m'.blk (1 :: q) = some ([.list .self ([].map T_remontoireref09_T.C), .lit (.int .i64 (0 : Int)), .lit (.int .i64 (0 : Int)), .lit (.int .i64 (0 : Int)), .lit (.int .i64 (0 : Int))]) ∧ m'.blk (10 :: q) = some ((T_remontoireref10_N.C v49)) ∧ m'.gl = m.gl ∧ m.back q m' = m) ?_ ?_
    · rcases bool_or (v48.E_ == (0 : Int)) with c56 | c56
      · replace hy55 := ite_t c56 hy55
        obtain ⟨x57, h58, hy55⟩ := bind_some hy55
        refine SW_reg fun K hK => ?_
        simp only [go_sem, ↓reduceIte, Nat.reduceEqDiff, Nat.reduceAdd, c56, e54]
        refine SC.by_ (remontoireref10_P_is_ok n v48 ([125] : Str) _ h58 _ _ _ (by simp only [go_sem])) ?_
        simp only [go_sem, ↓reduceIte, Nat.reduceEqDiff, Nat.reduceAdd]
        apply hK
        simp only [thenQ_normal]
        obtain rfl := some_eq hy55
        refine ⟨by decide, ?_⟩
        simp only [go_sem, ↓reduceIte, Nat.reduceEqDiff, e54]
      · replace hy55 := ite_f c56 hy55
        refine SW_reg fun K hK => ?_
        simp only [go_sem, ↓reduceIte, Nat.reduceEqDiff, Nat.reduceAdd, c56, e54]
        apply hK
        simp only [thenQ_normal]
        obtain rfl := some_eq hy55
        refine ⟨by decide, ?_⟩
        simp only [go_sem, ↓reduceIte, Nat.reduceEqDiff, e54]
    · intro E59 m60 e61 _
      simp only [thenQ_normal]
      refine SW_if y55 (by simp only [go_sem, e61]) (fun c62 => ?_) (fun c62 => ?_)
      · replace hy50 := ite_t c62 hy50
        refine SW_skip ?_
        try simp only [thenQ_normal]
        refine SW_block ?_
        refine SW_seq ?_
        obtain ⟨x63, h65, hy50⟩ := bind_some hy50
        refine SW_reg fun K hK => ?_
        simp only [go_sem, ↓reduceIte, Nat.reduceEqDiff, Nat.reduceAdd, e61]
        refine SC.by_ (hrec_remontoireref10_P_statement v48 a1 _ h65 _ _ _ (by simp only [go_sem])) ?_
        simp only [go_sem, ↓reduceIte, Nat.reduceEqDiff, Nat.reduceAdd]
        apply hK
        simp only [thenQ_normal]
        refine SW_seq ?_
        refine SW_reg fun K hK => ?_
        simp only [go_sem, ↓reduceIte, Nat.reduceEqDiff, Nat.reduceAdd, reduceCtorEq, e61]
        apply hK
        simp only [thenQ_normal]
        refine SW_seq ?_
        obtain ⟨f66, hy50⟩ := need_some hy50
        have f67 : v47.length + x63.2.length ≤ 1073741824 := by first | omega | (simp only [List.length_append, List.length_cons, List.length_nil] at f66 ⊢; omega)
        refine SW_reg fun K hK => ?_
        simp only [go_sem, ↓reduceIte, Nat.reduceEqDiff, Nat.reduceAdd, Nat.reduceLT, Nat.reduceLeDiff, f66, e61]
        apply hK
        simp only [thenQ_normal]
        refine SW_reg fun K hK => ?_
        simp only [go_sem, ↓reduceIte, Nat.reduceEqDiff, Nat.reduceAdd, reduceCtorEq, e61]
        apply hK
        simp only [thenQ_normal, blockQ_normal]
        refine ⟨c51, Nat.lt_succ_self _, (v47 ++ x63.2), x63.1, ({ v49 with Kids_ := (IntKind.i64.wrap (v49.Kids_ + (1 : Int))) } : T_remontoireref10_N), (21 :: i46 :: 18 :: q), 0, hy50, ?_⟩
        simp only [go_sem, ↓reduceIte, Nat.reduceEqDiff, reduceCtorEq, back_set, back_tokset, e61]
      · replace hy50 := ite_f c62 hy50
        refine SW_exit ?_
        try simp only [thenQ_exit, blockQ_exit, ↓reduceIte, thenQ_normal]
        obtain rfl := some_eq hy50
        refine SW_seq ?_
        obtain ⟨x68, h69, h⟩ := bind_some h
        obtain ⟨f70, h⟩ := need_some h
        have f71 : 1 + v47.length ≤ 1073741824 := by first | omega | (simp only [List.length_append, List.length_cons, List.length_nil] at f70 ⊢; omega)
        refine SW_drawK (tbl := [0, 1, 0, 4, 0, 31, 63, 127]) (ord := [(0, 0), (1, 0), (2, 1), (3, 0), (4, 0), (5, 0), (6, 0), (7, 0)]) 27 rfl (by kernel_rfl) (by kernel_rfl) fun K hK => ?_
        simp only [go_sem, ↓reduceIte, Nat.reduceAdd, e61]
        refine dcall_of (remontoireref10_P_need_ok n v48 ([125] : Str) _ h69 _ _ _ (by simp only [go_sem])) rfl ?_
        simp only [go_sem, ↓reduceIte, Nat.reduceEqDiff, Nat.reduceAdd, Nat.reduceLT, Nat.reduceLeDiff, f71, e61]
        apply hK
        simp only [thenQ_normal]
        refine SW_ret ?_
        try simp only []
        obtain rfl := some_eq h
        refine ⟨by first | exact .inl rfl | exact .inl trivial | exact .inr rfl | exact .inr trivial, ?_⟩
        simp only [go_sem, ↓reduceIte, Nat.reduceEqDiff, Nat.reduceAdd, back_set, back_tokset, e61]

theorem remontoireref10_P_statement_b_ok {rec_remontoireref10_P_within : T_remontoireref10_P → T_remontoireref10_N → Int → Option (T_remontoireref10_P × (List T_remontoireref10_N))} (hrec_remontoireref10_P_within : remontoireref10_P_within_C rec_remontoireref10_P_within) (n : Nat) : remontoireref10_P_statement_C (remontoireref10_P_statement_b rec_remontoireref10_P_within n) := by
  intro a0 a1 r h q m vs hv
  refine SC.weak ?_
  rw [hv]
  refine SC_of Tryd.func93 rfl (fun xs w => Tryd.call93 xs w) Tryd.ntmps93 (by kernel_rfl) (congrArg Array.toList Tryd.results93) V.weak (fun _ _ _ => V.weak_ok) ?_
  unfold remontoireref10_P_statement_b at h
  refine SW_seq ?_
  refine SW_reg fun K hK => ?_
  simp only [go_sem, Nat.reduceAdd]
  apply hK
  simp only [thenQ_normal]
  refine SW_seq ?_
  obtain ⟨x3, h5, h⟩ := bind_some h
  refine SW_reg fun K hK => ?_
  simp only [go_sem, ↓reduceIte, Nat.reduceEqDiff, Nat.reduceAdd]
  refine SC.by_ (remontoireref10_P_node_ok a0 (8 : Int) _ h5 _ _ _ (by simp only [go_sem])) ?_
  simp only [go_sem, ↓reduceIte, Nat.reduceEqDiff, Nat.reduceAdd, reduceCtorEq]
  apply hK
  simp only [thenQ_normal]
  refine SW_seq ?_
  refine SW_reg fun K hK => ?_
  simp only [go_sem, ↓reduceIte, Nat.reduceEqDiff, Nat.reduceAdd, Nat.reduceLeDiff]
  apply hK
  simp only [thenQ_normal]
  refine SW_seq ?_
  refine SW_reg fun K hK => ?_
  simp only [go_sem, ↓reduceIte, Nat.reduceEqDiff, Nat.reduceAdd, Nat.reduceLeDiff]
  apply hK
  simp only [thenQ_normal]
  refine SW_seq ?_
  refine SW_reg fun K hK => ?_
  simp only [go_sem, ↓reduceIte, Nat.reduceEqDiff, Nat.reduceAdd, Nat.reduceLeDiff]
  apply hK
  simp only [thenQ_normal]
  refine SW_seq ?_
  refine SW_seq ?_
  refine SW_reg fun K hK => ?_
  simp only [go_sem, Nat.reduceAdd]
  apply hK
  simp only [thenQ_normal]
  refine SW_block ?_
  obtain ⟨y12, hy12, h⟩ := bind_some h
  refine SW_countW [] [] rfl (fun c E' m' => ∃ (v9 : Int), ∃ (v10 : T_remontoireref10_P), ∃ (v11 : T_remontoireref10_N), remontoireref10_P_statement_l1 n c v9 v10 v11 = some y12 ∧ E' 1 = .lit (.int .i64 a1) ∧ E' 2 = .ptr (0 :: q) 0 ∧ E' 4 = .ptr (1 :: q) 0 ∧ E' 6 = .ptr (8 :: q) 0 ∧ E' 7 = .ptr (12 :: q) 0 ∧ E' 8 = .ptr (15 :: q) 0 ∧ E' 9 = .lit (.int .i64 v9) ∧ m'.blk (0 :: q) = some ((T_remontoireref10_P.C v10)) ∧ m'.blk (1 :: q) = some ([.list .self ([].map T_remontoireref09_T.C), .lit (.int .i64 (0 : Int)), .lit (.int .i64 (0 : Int)), .lit (.int .i64 (0 : Int)), .lit (.int .i64 (0 : Int))]) ∧ m'.blk (8 :: q) = some ((T_remontoireref10_N.C v11)) ∧ m'.blk (12 :: q) = some ((cA cS remontoireref10_P_statement_k1)) ∧ m'.blk (15 :: q) = some ((cA (cI .i64) remontoireref10_P_statement_k2)) ∧ m'.gl = m.gl ∧ m.back q m' = m) n ⟨(0 : Int), x3.1, ({ x3.2 with Kind_ := (0 : Int) } : T_remontoireref10_N), hy12, ?_⟩ ?_
  · (simp only [go_sem, ↓reduceIte, Nat.reduceEqDiff, reduceCtorEq, back_set, back_self]) <;> (try and_intros) <;> rfl
  rintro i8 c13 E14 m15 ⟨v9, v10, v11, hy12, e16⟩ _
  rcases c13 with _ | c13
  · exact absurd hy12 (by rw [remontoireref10_P_statement_l1]; exact fun e => nomatch e)
  rw [remontoireref10_P_statement_l1] at hy12
  refine SW_seq ?_
  refine SW_seq ?_
  refine SW_reg fun K hK => ?_
  simp only [go_sem, ↓reduceIte, Nat.reduceAdd, e16]
  apply hK
  simp only [thenQ_normal]
  refine SW_if (decide (v9 < (6 : Int))) (by simp only [go_sem, ↓reduceIte]) (fun c17 => ?_) (fun c17 => ?_)
  · replace hy12 := ite_t c17 hy12
    refine SW_skip ?_
    try simp only [thenQ_normal]
    refine SW_seq ?_
    obtain ⟨y18, hy18, hy12⟩ := bind_some hy12
    refine SW_joinK 26 [] [] rfl (fun E' m' => E' 1 = .lit (.int .i64 a1) ∧ E' 2 = .ptr (0 :: q) 0 ∧ E' 4 = .ptr (1 :: q) 0 ∧ E' 6 = .ptr (8 :: q) 0 ∧ E' 7 = .ptr (12 :: q) 0 ∧ E' 8 = .ptr (15 :: q) 0 ∧ E' 9 = .lit (.int .i64 v9) ∧ m'.blk (0 :: q) = some ((T_remontoireref10_P.C y18.1)) ∧ m'.blk (1 :: q) = some ([.list .self ([].map T_remontoireref09_T.C), .lit (.int .i64 (0 : Int)), .lit (.int .i64 (0 : Int)), .lit (.int .i64 (0 : Int)), .lit (.int .i64 (0 : Int))]) ∧ m'.blk (8 :: q) = some ((T_remontoireref10_N.C y18.2)) ∧ m'.blk (12 :: q) = some ((cA cS remontoireref10_P_statement_k1)) ∧ m'.blk (15 :: q) = some ((cA (cI .i64) remontoireref10_P_statement_k2)) ∧ m'.gl = m.gl ∧ m.back q m' = m) ?_ ?_
    · refine SW_block ?_
      refine SW_seq ?_
      obtain ⟨x19, h25, hy18⟩ := bind_some hy18
      obtain ⟨f22, f23, f24⟩ := idxL_some h25
      have f26 : v9 < (6 : Int) := f23
      obtain ⟨w27, d28⟩ := cA_drop (f := cS) (s := 1) (fun _ _ => rfl) f24
      simp only [go_sem] at d28
      have d29 : List.drop (v9.toNat) [V.lit (.string (bs ([108, 101, 116] : Str))), V.lit (.string (bs ([118, 97, 114] : Str))), V.lit (.string (bs ([97, 114, 114] : Str))), V.lit (.string (bs ([114, 101, 116, 117, 114, 110] : Str))), V.lit (.string (bs ([105, 102] : Str))), V.lit (.string (bs ([102, 111, 114] : Str)))] = _ := d28
      obtain ⟨x20, h30, hy18⟩ := bind_some hy18
      refine SW_drawK (tbl := [0, 0, 2, 6, 15, 31, 63, 63, 0, 383, 1023]) (ord := [(0, 0), (1, 0), (2, 0), (3, 0), (4, 0), (5, 0), (6, 0), (8, 0), (9, 0), (7, 0), (10, 0)]) 13 rfl (by kernel_rfl) (by kernel_rfl) fun K hK => ?_
      simp only [go_sem, ↓reduceIte, Nat.reduceEqDiff, Nat.reduceAdd, f22, f26, d28, e16]
      refine dcall_of (remontoireref10_P_take_ok n v10 x19 _ h30 _ _ _ (by simp only [go_sem])) rfl ?_
      simp only [go_sem, ↓reduceIte, Nat.reduceEqDiff, Nat.reduceAdd, e16]
      apply hK
      simp only [thenQ_normal]
      refine SW_seq ?_
      obtain ⟨y31, hy31, hy18⟩ := bind_some hy18
      refine SW_joinK 19 [] [] rfl (fun E' m' => E' 1 = .lit (.int .i64 a1) ∧ E' 2 = .ptr (0 :: q) 0 ∧ E' 4 = .ptr (1 :: q) 0 ∧ E' 6 = .ptr (8 :: q) 0 ∧ E' 7 = .ptr (12 :: q) 0 ∧ E' 8 = .ptr (15 :: q) 0 ∧ E' 9 = .lit (.int .i64 v9) ∧ E' 10 = .ptr (10 :: i8 :: 20 :: q) 0 ∧ E' 37 = .lit (.bool y31) ∧ m'.blk (0 :: q) = some ((T_remontoireref10_P.C v10)) ∧ m'.blk (10 :: i8 :: 20 :: q) = some ((T_remontoireref10_P.C x20.1)) ∧ m'.blk (1 :: q) = some ([.list .self ([].map T_remontoireref09_T.C), .lit (.int .i64 (0 : Int)), .lit (.int .i64 (0 : Int)), .lit (.int .i64 (0 : Int)), .lit (.int .i64 (0 : Int))]) ∧ m'.blk (8 :: q) = some ((T_remontoireref10_N.C v11)) ∧ m'.blk (12 :: q) = some ((cA cS remontoireref10_P_statement_k1)) ∧ m'.blk (15 :: q) = some ((cA (cI .i64) remontoireref10_P_statement_k2)) ∧ m'.gl = m.gl ∧ m.back q m' = m) ?_ ?_
      · rcases bool_or x20.2 with c32 | c32
        · replace hy31 := ite_t c32 hy31
          refine SW_reg fun K hK => ?_
          simp only [go_sem, ↓reduceIte, Nat.reduceEqDiff, Nat.reduceAdd, c32, e16]
          apply hK
          simp only [thenQ_normal]
          obtain rfl := some_eq hy31
          refine ⟨by decide, ?_⟩
          (simp only [go_sem, ↓reduceIte, Nat.reduceEqDiff, reduceCtorEq, back_set, e16]) <;> (try and_intros) <;> rfl
        · replace hy31 := ite_f c32 hy31
          refine SW_reg fun K hK => ?_
          simp only [go_sem, ↓reduceIte, Nat.reduceEqDiff, Nat.reduceAdd, c32]
          apply hK
          simp only [thenQ_normal]
          obtain rfl := some_eq hy31
          refine ⟨by decide, ?_⟩
          (simp only [go_sem, ↓reduceIte, Nat.reduceEqDiff, reduceCtorEq, back_set, e16]) <;> (try and_intros) <;> rfl
      · intro E33 m34 e35 _
        simp only [thenQ_normal]
        refine SW_if y31 (by simp only [go_sem, e35]) (fun c36 => ?_) (fun c36 => ?_)
        · replace hy18 := ite_t c36 hy18
          refine SW_seq ?_
          refine SW_reg fun K hK => ?_
          simp only [go_sem, ↓reduceIte, Nat.reduceEqDiff, Nat.reduceAdd, e35]
          apply hK
          simp only [thenQ_normal]
          obtain ⟨x37, h41, hy18⟩ := bind_some hy18
          obtain ⟨f38, f39, f40⟩ := idxL_some h41
          have f42 : v9 < (6 : Int) := f39
          obtain ⟨w43, d44⟩ := cA_drop (f := (cI .i64)) (s := 1) (fun _ _ => rfl) f40
          simp only [go_sem] at d44
          have d45 : List.drop (v9.toNat) [V.lit (.int .i64 (5 : Int)), V.lit (.int .i64 (6 : Int)), V.lit (.int .i64 (7 : Int)), V.lit (.int .i64 (13 : Int)), V.lit (.int .i64 (11 : Int)), V.lit (.int .i64 (12 : Int))] = _ := d44
          refine SW_reg fun K hK => ?_
          simp only [go_sem, ↓reduceIte, Nat.reduceEqDiff, Nat.reduceAdd, Nat.reduceLeDiff, reduceCtorEq, f22, f26, d44, e35]
          apply hK
          simp only [thenQ_normal, blockQ_normal]
          obtain rfl := some_eq hy18
          refine ⟨by decide, ?_⟩
          (simp only [go_sem, ↓reduceIte, Nat.reduceEqDiff, reduceCtorEq, back_set, e35]) <;> (try and_intros) <;> rfl
        · replace hy18 := ite_f c36 hy18
          refine SW_skip ?_
          try simp only [thenQ_normal, blockQ_normal]
          obtain rfl := some_eq hy18
          refine ⟨by decide, ?_⟩
          (simp only [go_sem, e35]) <;> (try and_intros) <;> rfl
    · intro E46 m47 e48 _
      simp only [thenQ_normal]
      refine SW_reg fun K hK => ?_
      simp only [go_sem, ↓reduceIte, Nat.reduceAdd, e48]
      apply hK
      simp only [thenQ_normal]
      refine ⟨c13, Nat.lt_succ_self _, (IntKind.i64.wrap (v9 + (1 : Int))), y18.1, y18.2, hy12, ?_⟩
      (simp only [go_sem, ↓reduceIte, Nat.reduceEqDiff, e48]) <;> (try and_intros) <;> rfl
  · replace hy12 := ite_f c17 hy12
    refine SW_exit ?_
    try simp only [thenQ_exit, blockQ_exit, ↓reduceIte, thenQ_normal]
    obtain rfl := some_eq hy12
    refine SW_seq ?_
    refine SW_seq ?_
    obtain ⟨y49, hy49, h⟩ := bind_some h
    refine SW_joinK 29 [] [] rfl (fun E' m' => E' 1 = .lit (.int .i64 a1) ∧ E' 2 = .ptr (0 :: q) 0 ∧ E' 4 = .ptr (1 :: q) 0 ∧ E' 6 = .ptr (8 :: q) 0 ∧ E' 50 = .lit (.bool y49) ∧ m'.blk (0 :: q) = some ((T_remontoireref10_P.C v10)) ∧ m'.blk (1 :: q) = some ([.list .self ([].map T_remontoireref09_T.C), .lit (.int .i64 (0 : Int)), .lit (.int .i64 (0 : Int)), .lit (.int .i64 (0 : Int)), .lit (.int .i64 (0 : Int))]) ∧ m'.blk (8 :: q) = some ((T_remontoireref10_N.C v11)) ∧ m'.gl = m.gl ∧ m.back q m' = m) ?_ ?_
    · rcases bool_or (v11.Kind_ == (5 : Int)) with c50 | c50
      · replace hy49 := ite_t c50 hy49
        refine SW_reg fun K hK => ?_
        simp only [go_sem, ↓reduceIte, Nat.reduceEqDiff, Nat.reduceAdd, c17, c50, e16]
        apply hK
        simp only [thenQ_normal]
        obtain rfl := some_eq hy49
        refine ⟨by decide, ?_⟩
        (simp only [go_sem, ↓reduceIte, Nat.reduceEqDiff, e16]) <;> (try and_intros) <;> rfl
      · replace hy49 := ite_f c50 hy49
        refine SW_reg fun K hK => ?_
        simp only [go_sem, ↓reduceIte, Nat.reduceEqDiff, Nat.reduceAdd, c17, c50, e16]
        apply hK
        simp only [thenQ_normal]
        obtain rfl := some_eq hy49
        refine ⟨by decide, ?_⟩
        (simp only [go_sem, ↓reduceIte, Nat.reduceEqDiff, e16]) <;> (try and_intros) <;> rfl
    · intro E51 m52 e53 _
      simp only [thenQ_normal]
      refine SW_if y49 (by simp only [go_sem, e53]) (fun c54 => ?_) (fun c54 => ?_)
      · replace h := ite_t c54 h
        refine SW_seq ?_
        obtain ⟨x55, h56, h⟩ := bind_some h
        refine SW_reg fun K hK => ?_
        simp only [go_sem, ↓reduceIte, Nat.reduceAdd, e53]
        refine SC.by_ (remontoireref10_P_name_ok n v10 _ h56 _ _ _ (by simp only [go_sem])) ?_
        simp only [go_sem, ↓reduceIte, Nat.reduceEqDiff, Nat.reduceAdd, Nat.reduceLeDiff, reduceCtorEq, e53]
        apply hK
        simp only [thenQ_normal]
        refine SW_seq ?_
        obtain ⟨x57, h59, h⟩ := bind_some h
        obtain ⟨x58, h60, h⟩ := bind_some h
        refine SW_drawK (tbl := [0, 1, 0, 0, 8, 31, 63, 63, 255, 511]) (ord := [(0, 0), (1, 0), (2, 1), (3, 0), (4, 0), (5, 0), (6, 0), (7, 0), (8, 0), (9, 0)]) 47 rfl (by kernel_rfl) (by kernel_rfl) fun K hK => ?_
        simp only [go_sem, ↓reduceIte, Nat.reduceEqDiff, Nat.reduceAdd, reduceCtorEq, e53]
        refine dcall_of (remontoireref10_P_need_ok n x55.1 ([61] : Str) _ h59 _ _ _ (by simp only [go_sem])) rfl ?_
        simp only [go_sem, ↓reduceIte, Nat.reduceEqDiff, Nat.reduceAdd, e53]
        refine dcall_of (remontoireref10_P_one_ok n x57 ({ v11 with Text_ := x55.2 } : T_remontoireref10_N) (IntKind.i64.wrap (a1 + (1 : Int))) _ h60 _ _ _ (by simp only [go_sem])) rfl ?_
        simp only [go_sem, ↓reduceIte, Nat.reduceEqDiff, Nat.reduceAdd, e53]
        apply hK
        simp only [thenQ_normal]
        refine SW_ret ?_
        try simp only [thenQ_ret]
        obtain rfl := some_eq h
        refine ⟨by first | exact .inl rfl | exact .inl trivial | exact .inr rfl | exact .inr trivial, ?_⟩
        simp only [go_sem, ↓reduceIte, Nat.reduceEqDiff, Nat.reduceAdd, back_set, e53]
      · replace h := ite_f c54 h
        refine SW_skip ?_
        try simp only [thenQ_normal]
        refine SW_seq ?_
        refine SW_seq ?_
        refine SW_reg fun K hK => ?_
        simp only [go_sem, ↓reduceIte, Nat.reduceAdd, e53]
        apply hK
        simp only [thenQ_normal]
        refine SW_if (v11.Kind_ == (7 : Int)) (by simp only [go_sem, ↓reduceIte]) (fun c61 => ?_) (fun c61 => ?_)
        · replace h := ite_t c61 h
          refine SW_seq ?_
          obtain ⟨x62, h63, h⟩ := bind_some h
          refine SW_reg fun K hK => ?_
          simp only [go_sem, ↓reduceIte, Nat.reduceEqDiff, Nat.reduceAdd, c61, e53]
          refine SC.by_ (remontoireref10_P_name_ok n v10 _ h63 _ _ _ (by simp only [go_sem])) ?_
          simp only [go_sem, ↓reduceIte, Nat.reduceEqDiff, Nat.reduceAdd, Nat.reduceLeDiff, reduceCtorEq, e53]
          apply hK
          simp only [thenQ_normal]
          refine SW_seq ?_
          obtain ⟨x64, h65, h⟩ := bind_some h
          refine SW_reg fun K hK => ?_
          simp only [go_sem, ↓reduceIte, Nat.reduceEqDiff, Nat.reduceAdd, reduceCtorEq, e53]
          refine SC.by_ (remontoireref10_P_size_ok n x62.1 _ h65 _ _ _ (by simp only [go_sem])) ?_
          simp only [go_sem, ↓reduceIte, Nat.reduceEqDiff, Nat.reduceAdd, Nat.reduceLeDiff, reduceCtorEq, e53]
          apply hK
          simp only [thenQ_normal]
          refine SW_seq ?_
          obtain ⟨x66, h67, h⟩ := bind_some h
          refine SW_drawK (tbl := [0, 1, 0, 4, 3, 31]) (ord := [(0, 0), (1, 0), (4, 0), (2, 2), (3, 0), (5, 0)]) 54 rfl (by kernel_rfl) (by kernel_rfl) fun K hK => ?_
          simp only [go_sem, ↓reduceIte, Nat.reduceEqDiff, Nat.reduceAdd, reduceCtorEq, e53]
          refine dcall_of (remontoireref10_P_need_ok n x64.1 ([59] : Str) _ h67 _ _ _ (by simp only [go_sem])) rfl ?_
          simp only [go_sem, ↓reduceIte, Nat.reduceEqDiff, Nat.reduceAdd, Nat.reduceLT, Nat.reduceLeDiff, e53]
          apply hK
          simp only [thenQ_normal]
          refine SW_ret ?_
          try simp only [thenQ_ret]
          obtain rfl := some_eq h
          refine ⟨by first | exact .inl rfl | exact .inl trivial | exact .inr rfl | exact .inr trivial, ?_⟩
          simp only [go_sem, ↓reduceIte, Nat.reduceEqDiff, Nat.reduceAdd, back_set, e53]
        · replace h := ite_f c61 h
          refine SW_skip ?_
          try simp only [thenQ_normal]
          refine SW_seq ?_
          refine SW_seq ?_
          refine SW_reg fun K hK => ?_
          simp only [go_sem, ↓reduceIte, Nat.reduceEqDiff, Nat.reduceAdd, c61, e53]
          apply hK
          simp only [thenQ_normal]
          refine SW_if (v11.Kind_ == (13 : Int)) (by simp only [go_sem, ↓reduceIte]) (fun c68 => ?_) (fun c68 => ?_)
          · replace h := ite_t c68 h
            refine SW_seq ?_
            obtain ⟨x69, h70, h⟩ := bind_some h
            refine SW_reg fun K hK => ?_
            simp only [go_sem, ↓reduceIte, Nat.reduceEqDiff, Nat.reduceAdd, c68, e53]
            refine SC.by_ (remontoireref10_P_one_ok n v10 v11 (IntKind.i64.wrap (a1 + (1 : Int))) _ h70 _ _ _ (by simp only [go_sem])) ?_
            simp only [go_sem, ↓reduceIte, Nat.reduceEqDiff, Nat.reduceAdd, e53]
            apply hK
            simp only [thenQ_normal]
            refine SW_ret ?_
            try simp only [thenQ_ret]
            obtain rfl := some_eq h
            refine ⟨by first | exact .inl rfl | exact .inl trivial | exact .inr rfl | exact .inr trivial, ?_⟩
            simp only [go_sem, ↓reduceIte, Nat.reduceEqDiff, Nat.reduceAdd, back_set, e53]
          · replace h := ite_f c68 h
            refine SW_skip ?_
            try simp only [thenQ_normal]
            refine SW_seq ?_
            refine SW_seq ?_
            obtain ⟨y71, hy71, h⟩ := bind_some h
            refine SW_joinK 43 [] [] rfl (fun E' m' => E' 1 = .lit (.int .i64 a1) ∧ E' 2 = .ptr (0 :: q) 0 ∧ E' 4 = .ptr (1 :: q) 0 ∧ E' 6 = .ptr (8 :: q) 0 ∧ E' 101 = .lit (.bool y71) ∧ m'.blk (0 :: q) = some ((T_remontoireref10_P.C v10)) ∧ m'.blk (1 :: q) = some ([.list .self ([].map T_remontoireref09_T.C), .lit (.int .i64 (0 : Int)), .lit (.int .i64 (0 : Int)), .lit (.int .i64 (0 : Int)), .lit (.int .i64 (0 : Int))]) ∧ m'.blk (8 :: q) = some ((T_remontoireref10_N.C v11)) ∧ m'.gl = m.gl ∧ m.back q m' = m) ?_ ?_
            · rcases bool_or (v11.Kind_ == (11 : Int)) with c72 | c72
              · replace hy71 := ite_t c72 hy71
                refine SW_reg fun K hK => ?_
                simp only [go_sem, ↓reduceIte, Nat.reduceEqDiff, Nat.reduceAdd, c68, c72, e53]
                apply hK
                simp only [thenQ_normal]
                obtain rfl := some_eq hy71
                refine ⟨by decide, ?_⟩
                (simp only [go_sem, ↓reduceIte, Nat.reduceEqDiff, e53]) <;> (try and_intros) <;> rfl
              · replace hy71 := ite_f c72 hy71
                refine SW_reg fun K hK => ?_
                simp only [go_sem, ↓reduceIte, Nat.reduceEqDiff, Nat.reduceAdd, c68, c72, e53]
                apply hK
                simp only [thenQ_normal]
                obtain rfl := some_eq hy71
                refine ⟨by decide, ?_⟩
                (simp only [go_sem, ↓reduceIte, Nat.reduceEqDiff, e53]) <;> (try and_intros) <;> rfl
            · intro E73 m74 e75 _
              simp only [thenQ_normal]
              refine SW_if y71 (by simp only [go_sem, e75]) (fun c76 => ?_) (fun c76 => ?_)
              · replace h := ite_t c76 h
                refine SW_seq ?_
                obtain ⟨x77, h78, h⟩ := bind_some h
                refine SW_reg fun K hK => ?_
                simp only [go_sem, ↓reduceIte, Nat.reduceEqDiff, Nat.reduceAdd, e75]
                refine SC.by_ (hrec_remontoireref10_P_within v10 v11 a1 _ h78 _ _ _ (by simp only [go_sem])) ?_
                simp only [go_sem, ↓reduceIte, Nat.reduceEqDiff, Nat.reduceAdd, e75]
                apply hK
                simp only [thenQ_normal]
                refine SW_ret ?_
                try simp only [thenQ_ret]
                obtain rfl := some_eq h
                refine ⟨by first | exact .inl rfl | exact .inl trivial | exact .inr rfl | exact .inr trivial, ?_⟩
                simp only [go_sem, ↓reduceIte, Nat.reduceEqDiff, Nat.reduceAdd, back_set, e75]
              · replace h := ite_f c76 h
                refine SW_skip ?_
                try simp only [thenQ_normal]
                refine SW_seq ?_
                obtain ⟨x79, h80, h⟩ := bind_some h
                refine SW_reg fun K hK => ?_
                simp only [go_sem, ↓reduceIte, Nat.reduceEqDiff, Nat.reduceAdd, e75]
                refine SC.by_ (remontoireref10_P_plain_ok n v10 v11 a1 _ h80 _ _ _ (by simp only [go_sem])) ?_
                simp only [go_sem, ↓reduceIte, Nat.reduceEqDiff, Nat.reduceAdd, e75]
                apply hK
                simp only [thenQ_normal]
                refine SW_ret ?_
                try simp only []
                obtain rfl := some_eq h
                refine ⟨by first | exact .inl rfl | exact .inl trivial | exact .inr rfl | exact .inr trivial, ?_⟩
                simp only [go_sem, ↓reduceIte, Nat.reduceEqDiff, Nat.reduceAdd, back_set, e75]

theorem remontoireref10_P_within_b_ok {rec_remontoireref10_P_block : T_remontoireref10_P → Int → Option (T_remontoireref10_P × (List T_remontoireref10_N))} (hrec_remontoireref10_P_block : remontoireref10_P_block_C rec_remontoireref10_P_block) (n : Nat) : remontoireref10_P_within_C (remontoireref10_P_within_b rec_remontoireref10_P_block n) := by
  intro a0 a1 a2 r h q m vs hv
  refine SC.weak ?_
  rw [hv]
  refine SC_of Tryd.func112 rfl (fun xs w => Tryd.call112 xs w) Tryd.ntmps112 (by kernel_rfl) (congrArg Array.toList Tryd.results112) V.weak (fun _ _ _ => V.weak_ok) ?_
  unfold remontoireref10_P_within_b at h
  refine SW_seq ?_
  refine SW_reg fun K hK => ?_
  simp only [go_sem, ↓reduceIte, Nat.reduceEqDiff, Nat.reduceAdd]
  apply hK
  simp only [thenQ_normal]
  refine SW_seq ?_
  refine SW_seq ?_
  refine SW_reg fun K hK => ?_
  simp only [go_sem, ↓reduceIte, Nat.reduceEqDiff, Nat.reduceAdd]
  apply hK
  simp only [thenQ_normal]
  refine SW_if (a1.Kind_ == (12 : Int)) (by simp only [go_sem, ↓reduceIte]) (fun c4 => ?_) (fun c4 => ?_)
  · replace h := ite_t c4 h
    refine SW_seq ?_
    obtain ⟨x5, h6, h⟩ := bind_some h
    refine SW_reg fun K hK => ?_
    simp only [go_sem, ↓reduceIte, Nat.reduceEqDiff, Nat.reduceAdd, reduceCtorEq, c4]
    refine SC.by_ (remontoireref10_P_name_ok n a0 _ h6 _ _ _ (by simp only [go_sem])) ?_
    simp only [go_sem, ↓reduceIte, Nat.reduceEqDiff, Nat.reduceAdd, Nat.reduceLeDiff, reduceCtorEq]
    apply hK
    simp only [thenQ_normal]
    refine SW_seq ?_
    refine SW_reg fun K hK => ?_
    simp only [go_sem, ↓reduceIte, Nat.reduceEqDiff, Nat.reduceAdd]
    apply hK
    simp only [thenQ_normal]
    refine SW_seq ?_
    obtain ⟨x7, h10, h⟩ := bind_some h
    obtain ⟨x8, h11, h⟩ := bind_some h
    refine SW_reg fun K hK => ?_
    simp only [go_sem, ↓reduceIte, Nat.reduceEqDiff, Nat.reduceAdd]
    refine SC.by_ (remontoireref10_P_need_ok n x5.1 ([105, 110] : Str) _ h10 _ _ _ (by simp only [go_sem])) ?_
    simp only [go_sem, ↓reduceIte, Nat.reduceEqDiff, Nat.reduceAdd]
    refine SC.by_ (remontoireref10_P_level_ok n x7 (0 : Int) (IntKind.i64.wrap (a2 + (1 : Int))) _ h11 _ _ _ (by simp only [go_sem])) ?_
    simp only [go_sem, ↓reduceIte, Nat.reduceEqDiff, Nat.reduceAdd]
    apply hK
    simp only [thenQ_normal]
    refine SW_seq ?_
    obtain ⟨x12, h14, h⟩ := bind_some h
    obtain ⟨x13, h15, h⟩ := bind_some h
    refine SW_reg fun K hK => ?_
    simp only [go_sem, ↓reduceIte, Nat.reduceEqDiff, Nat.reduceAdd]
    refine SC.by_ (remontoireref10_P_need_ok n x8.1 ([46, 46] : Str) _ h14 _ _ _ (by simp only [go_sem])) ?_
    simp only [go_sem, ↓reduceIte, Nat.reduceEqDiff, Nat.reduceAdd]
    refine SC.by_ (remontoireref10_P_level_ok n x12 (0 : Int) (IntKind.i64.wrap (a2 + (1 : Int))) _ h15 _ _ _ (by simp only [go_sem])) ?_
    simp only [go_sem, ↓reduceIte, Nat.reduceEqDiff, Nat.reduceAdd]
    apply hK
    simp only [thenQ_normal]
    refine SW_seq ?_
    obtain ⟨x16, h17, h⟩ := bind_some h
    refine SW_reg fun K hK => ?_
    simp only [go_sem, ↓reduceIte, Nat.reduceEqDiff, Nat.reduceAdd]
    refine SC.by_ (hrec_remontoireref10_P_block x13.1 (IntKind.i64.wrap (a2 + (1 : Int))) _ h17 _ _ _ (by simp only [go_sem])) ?_
    simp only [go_sem, ↓reduceIte, Nat.reduceEqDiff, Nat.reduceAdd]
    apply hK
    simp only [thenQ_normal]
    refine SW_seq ?_
    obtain ⟨f18, h⟩ := need_some h
    have f19 : 1 + x8.2.length ≤ 1073741824 := by first | omega | (simp only [List.length_append, List.length_cons, List.length_nil] at f18 ⊢; omega)
    obtain ⟨f20, h⟩ := need_some h
    have f21 : x8.2.length + 1 + x13.2.length ≤ 1073741824 := by first | omega | (simp only [List.length_append, List.length_cons, List.length_nil] at f20 ⊢; omega)
    obtain ⟨f22, h⟩ := need_some h
    have f23 : x8.2.length + x13.2.length + 1 + x16.2.length ≤ 1073741824 := by first | omega | (simp only [List.length_append, List.length_cons, List.length_nil] at f22 ⊢; omega)
    refine SW_drawK (tbl := [0, 0, 2, 0, 14, 0, 62, 0, 254, 511, 1023]) (ord := [(1, 0), (2, 0), (3, 0), (4, 0), (5, 0), (6, 0), (7, 0), (8, 0), (0, 3), (9, 0), (10, 0)]) 58 rfl (by kernel_rfl) (by kernel_rfl) fun K hK => ?_
    simp only [go_sem, ↓reduceIte, Nat.reduceEqDiff, Nat.reduceAdd, Nat.reduceLT, Nat.reduceLeDiff, reduceCtorEq, f19, f21, f23]
    apply hK
    simp only [thenQ_normal]
    refine SW_ret ?_
    try simp only [thenQ_ret]
    obtain rfl := some_eq h
    refine ⟨by first | exact .inl rfl | exact .inl trivial | exact .inr rfl | exact .inr trivial, ?_⟩
    simp only [go_sem, ↓reduceIte, Nat.reduceEqDiff, Nat.reduceAdd, back_set, back_tokset, back_self]
  · replace h := ite_f c4 h
    refine SW_skip ?_
    try simp only [thenQ_normal]
    refine SW_seq ?_
    refine SW_reg fun K hK => ?_
    simp only [go_sem, ↓reduceIte, Nat.reduceEqDiff, Nat.reduceAdd, c4]
    apply hK
    simp only [thenQ_normal]
    refine SW_seq ?_
    obtain ⟨x24, h25, h⟩ := bind_some h
    refine SW_reg fun K hK => ?_
    simp only [go_sem, ↓reduceIte, Nat.reduceEqDiff, Nat.reduceAdd, reduceCtorEq]
    refine SC.by_ (remontoireref10_P_level_ok n a0 (0 : Int) (IntKind.i64.wrap (a2 + (1 : Int))) _ h25 _ _ _ (by simp only [go_sem])) ?_
    simp only [go_sem, ↓reduceIte, Nat.reduceEqDiff, Nat.reduceAdd, reduceCtorEq]
    apply hK
    simp only [thenQ_normal]
    refine SW_seq ?_
    obtain ⟨x26, h27, h⟩ := bind_some h
    refine SW_reg fun K hK => ?_
    simp only [go_sem, ↓reduceIte, Nat.reduceEqDiff, Nat.reduceAdd]
    refine SC.by_ (hrec_remontoireref10_P_block x24.1 (IntKind.i64.wrap (a2 + (1 : Int))) _ h27 _ _ _ (by simp only [go_sem])) ?_
    simp only [go_sem, ↓reduceIte, Nat.reduceEqDiff, Nat.reduceAdd]
    apply hK
    simp only [thenQ_normal]
    refine SW_seq ?_
    obtain ⟨x28, h29, h⟩ := bind_some h
    refine SW_reg fun K hK => ?_
    simp only [go_sem, ↓reduceIte, Nat.reduceEqDiff, Nat.reduceAdd]
    refine SC.by_ (remontoireref10_P_take_ok n x26.1 ([101, 108, 115, 101] : Str) _ h29 _ _ _ (by simp only [go_sem])) ?_
    simp only [go_sem, ↓reduceIte, Nat.reduceEqDiff, Nat.reduceAdd]
    apply hK
    simp only [thenQ_normal]
    refine SW_seq ?_
    refine SW_seq ?_
    refine SW_reg fun K hK => ?_
    simp only [go_sem, ↓reduceIte, Nat.reduceAdd]
    apply hK
    simp only [thenQ_normal]
    refine SW_if (!x28.2) (by simp only [go_sem, ↓reduceIte]) (fun c30 => ?_) (fun c30 => ?_)
    · replace h := ite_t c30 h
      refine SW_seq ?_
      obtain ⟨f31, h⟩ := need_some h
      have f32 : 1 + x24.2.length ≤ 1073741824 := by first | omega | (simp only [List.length_append, List.length_cons, List.length_nil] at f31 ⊢; omega)
      obtain ⟨f33, h⟩ := need_some h
      have f34 : x24.2.length + 1 + x26.2.length ≤ 1073741824 := by first | omega | (simp only [List.length_append, List.length_cons, List.length_nil] at f33 ⊢; omega)
      refine SW_drawK (tbl := [0, 0, 2, 0, 14, 0, 62, 127, 255]) (ord := [(1, 0), (2, 0), (3, 0), (4, 0), (5, 0), (6, 0), (0, 2), (7, 0), (8, 0)]) 45 rfl (by kernel_rfl) (by kernel_rfl) fun K hK => ?_
      simp only [go_sem, ↓reduceIte, Nat.reduceEqDiff, Nat.reduceAdd, Nat.reduceLT, Nat.reduceLeDiff, reduceCtorEq, c30, f32, f34]
      apply hK
      simp only [thenQ_normal]
      refine SW_ret ?_
      try simp only [thenQ_ret]
      obtain rfl := some_eq h
      refine ⟨by first | exact .inl rfl | exact .inl trivial | exact .inr rfl | exact .inr trivial, ?_⟩
      simp only [go_sem, ↓reduceIte, Nat.reduceEqDiff, Nat.reduceAdd, back_set, back_tokset, back_self]
    · replace h := ite_f c30 h
      refine SW_skip ?_
      try simp only [thenQ_normal]
      refine SW_seq ?_
      refine SW_reg fun K hK => ?_
      simp only [go_sem, ↓reduceIte, Nat.reduceEqDiff, Nat.reduceAdd, c30]
      apply hK
      simp only [thenQ_normal]
      refine SW_seq ?_
      obtain ⟨x35, h36, h⟩ := bind_some h
      refine SW_reg fun K hK => ?_
      simp only [go_sem, ↓reduceIte, Nat.reduceEqDiff, Nat.reduceAdd]
      refine SC.by_ (hrec_remontoireref10_P_block x28.1 (IntKind.i64.wrap (a2 + (1 : Int))) _ h36 _ _ _ (by simp only [go_sem])) ?_
      simp only [go_sem, ↓reduceIte, Nat.reduceEqDiff, Nat.reduceAdd]
      apply hK
      simp only [thenQ_normal]
      refine SW_seq ?_
      obtain ⟨f37, h⟩ := need_some h
      have f38 : 1 + x24.2.length ≤ 1073741824 := by first | omega | (simp only [List.length_append, List.length_cons, List.length_nil] at f37 ⊢; omega)
      obtain ⟨f39, h⟩ := need_some h
      have f40 : x24.2.length + 1 + x26.2.length ≤ 1073741824 := by first | omega | (simp only [List.length_append, List.length_cons, List.length_nil] at f39 ⊢; omega)
      obtain ⟨f41, h⟩ := need_some h
      have f42 : x24.2.length + x26.2.length + 1 + x35.2.length ≤ 1073741824 := by first | omega | (simp only [List.length_append, List.length_cons, List.length_nil] at f41 ⊢; omega)
      refine SW_drawK (tbl := [0, 0, 2, 0, 14, 0, 62, 0, 254, 511, 1023]) (ord := [(1, 0), (2, 0), (3, 0), (4, 0), (5, 0), (6, 0), (7, 0), (8, 0), (0, 3), (9, 0), (10, 0)]) 58 rfl (by kernel_rfl) (by kernel_rfl) fun K hK => ?_
      simp only [go_sem, ↓reduceIte, Nat.reduceEqDiff, Nat.reduceAdd, Nat.reduceLT, Nat.reduceLeDiff, reduceCtorEq, f38, f40, f42]
      apply hK
      simp only [thenQ_normal]
      refine SW_ret ?_
      try simp only []
      obtain rfl := some_eq h
      refine ⟨by first | exact .inl rfl | exact .inl trivial | exact .inr rfl | exact .inr trivial, ?_⟩
      simp only [go_sem, ↓reduceIte, Nat.reduceEqDiff, Nat.reduceAdd, back_set, back_tokset, back_self]

theorem remontoireref10_P_block_grp_ok : ∀ n, remontoireref10_P_block_C (remontoireref10_P_block n) ∧ remontoireref10_P_statement_C (remontoireref10_P_statement n) ∧ remontoireref10_P_within_C (remontoireref10_P_within n)
  | 0 => ⟨fun _ _ _ h => none_some_ h, fun _ _ _ h => none_some_ h, fun _ _ _ _ h => none_some_ h⟩
  | n + 1 =>
    have ih := remontoireref10_P_block_grp_ok n
    ⟨remontoireref10_P_block_b_ok ih.2.1 n, remontoireref10_P_statement_b_ok ih.2.2 n, remontoireref10_P_within_b_ok ih.1 n⟩
theorem remontoireref10_P_block_ok (n : Nat) : remontoireref10_P_block_C (remontoireref10_P_block n) := (remontoireref10_P_block_grp_ok n).1
def remontoireref10_P_function_C (f : T_remontoireref10_P → Option (T_remontoireref10_P × (List T_remontoireref10_N))) : Prop := ∀ (a0 : T_remontoireref10_P) (r : (T_remontoireref10_P × (List T_remontoireref10_N))), f a0 = some r → ∀ (q : Pa) (m : M) (vs : List V), vs.map V.weak1 = [.agg ((T_remontoireref10_P.C a0))] → SC Tryd.prog 32 vs q m (fun v m' => v = .tup [.agg ((T_remontoireref10_P.C r.1)), .list .none (r.2.map T_remontoireref10_N.C)] ∧ m' = m)

theorem remontoireref10_P_function_ok (n : Nat) : remontoireref10_P_function_C (remontoireref10_P_function n) := by
  intro a0 r h q m vs hv
  refine SC.weak ?_
  rw [hv]
  refine SC_of Tryd.func32 rfl (fun xs w => Tryd.call32 xs w) Tryd.ntmps32 (by kernel_rfl) (congrArg Array.toList Tryd.results32) V.weak (fun _ _ _ => V.weak_ok) ?_
  unfold remontoireref10_P_function at h
  refine SW_seq ?_
  refine SW_reg fun K hK => ?_
  simp only [go_sem, Nat.reduceAdd]
  apply hK
  simp only [thenQ_normal]
  refine SW_seq ?_
  obtain ⟨x3, h5, h⟩ := bind_some h
  refine SW_reg fun K hK => ?_
  simp only [go_sem, ↓reduceIte, Nat.reduceEqDiff, Nat.reduceAdd]
  refine SC.by_ (remontoireref10_P_node_ok a0 (2 : Int) _ h5 _ _ _ (by simp only [go_sem])) ?_
  simp only [go_sem, ↓reduceIte, Nat.reduceEqDiff, Nat.reduceAdd, reduceCtorEq]
  apply hK
  simp only [thenQ_normal]
  refine SW_seq ?_
  obtain ⟨x6, h7, h⟩ := bind_some h
  refine SW_reg fun K hK => ?_
  simp only [go_sem, ↓reduceIte, Nat.reduceEqDiff, Nat.reduceAdd, reduceCtorEq]
  refine SC.by_ (remontoireref10_P_take_ok n x3.1 ([101, 120, 112, 111, 114, 116] : Str) _ h7 _ _ _ (by simp only [go_sem])) ?_
  simp only [go_sem, ↓reduceIte, Nat.reduceEqDiff, Nat.reduceAdd, reduceCtorEq]
  apply hK
  simp only [thenQ_normal]
  refine SW_seq ?_
  refine SW_seq ?_
  refine SW_reg fun K hK => ?_
  simp only [go_sem, ↓reduceIte, Nat.reduceAdd]
  apply hK
  simp only [thenQ_normal]
  refine SW_if x6.2 (by simp only [go_sem, ↓reduceIte]) (fun c8 => ?_) (fun c8 => ?_)
  · replace h := ite_t c8 h
    refine SW_reg fun K hK => ?_
    simp only [go_sem, ↓reduceIte, Nat.reduceEqDiff, Nat.reduceAdd, Nat.reduceLeDiff, reduceCtorEq, c8]
    apply hK
    simp only [thenQ_normal]
    refine SW_seq ?_
    obtain ⟨x9, h11, h⟩ := bind_some h
    obtain ⟨x10, h12, h⟩ := bind_some h
    refine SW_reg fun K hK => ?_
    simp only [go_sem, ↓reduceIte, Nat.reduceEqDiff, Nat.reduceAdd, reduceCtorEq]
    refine SC.by_ (remontoireref10_P_need_ok n x6.1 ([102, 110] : Str) _ h11 _ _ _ (by simp only [go_sem])) ?_
    simp only [go_sem, ↓reduceIte, Nat.reduceAdd]
    refine SC.by_ (remontoireref10_P_name_ok n x9 _ h12 _ _ _ (by simp only [go_sem])) ?_
    simp only [go_sem, ↓reduceIte, Nat.reduceEqDiff, Nat.reduceAdd, Nat.reduceLeDiff, reduceCtorEq]
    apply hK
    simp only [thenQ_normal]
    refine SW_seq ?_
    obtain ⟨x13, h14, h⟩ := bind_some h
    refine SW_reg fun K hK => ?_
    simp only [go_sem, ↓reduceIte, Nat.reduceEqDiff, Nat.reduceAdd, reduceCtorEq]
    refine SC.by_ (remontoireref10_P_params_ok n x10.1 _ h14 _ _ _ (by simp only [go_sem])) ?_
    simp only [go_sem, ↓reduceIte, Nat.reduceEqDiff, Nat.reduceAdd, reduceCtorEq]
    apply hK
    simp only [thenQ_normal]
    refine SW_seq ?_
    refine SW_reg fun K hK => ?_
    simp only [go_sem, ↓reduceIte, Nat.reduceEqDiff, Nat.reduceAdd, reduceCtorEq]
    apply hK
    simp only [thenQ_normal]
    refine SW_seq ?_
    obtain ⟨x15, h16, h⟩ := bind_some h
    refine SW_reg fun K hK => ?_
    simp only [go_sem, ↓reduceIte, Nat.reduceEqDiff, Nat.reduceAdd, reduceCtorEq]
    refine SC.by_ (remontoireref10_P_take_ok n x13.1 ([45, 62] : Str) _ h16 _ _ _ (by simp only [go_sem])) ?_
    simp only [go_sem, ↓reduceIte, Nat.reduceEqDiff, Nat.reduceAdd, reduceCtorEq]
    apply hK
    simp only [thenQ_normal]
    refine SW_seq ?_
    refine SW_seq ?_
    refine SW_reg fun K hK => ?_
    simp only [go_sem, ↓reduceIte, Nat.reduceAdd]
    apply hK
    simp only [thenQ_normal]
    refine SW_if x15.2 (by simp only [go_sem, ↓reduceIte]) (fun c17 => ?_) (fun c17 => ?_)
    · replace h := ite_t c17 h
      refine SW_seq ?_
      obtain ⟨x18, h19, h⟩ := bind_some h
      refine SW_reg fun K hK => ?_
      simp only [go_sem, ↓reduceIte, Nat.reduceEqDiff, Nat.reduceAdd, c17]
      refine SC.by_ (remontoireref10_P_take_ok n x15.1 ([117, 51, 50] : Str) _ h19 _ _ _ (by simp only [go_sem])) ?_
      simp only [go_sem, ↓reduceIte, Nat.reduceEqDiff, Nat.reduceAdd]
      apply hK
      simp only [thenQ_normal]
      refine SW_seq ?_
      refine SW_reg fun K hK => ?_
      simp only [go_sem, ↓reduceIte, Nat.reduceAdd]
      apply hK
      simp only [thenQ_normal]
      refine SW_if x18.2 (by simp only [go_sem, ↓reduceIte]) (fun c20 => ?_) (fun c20 => ?_)
      · replace h := ite_t c20 h
        refine SW_reg fun K hK => ?_
        simp only [go_sem, ↓reduceIte, Nat.reduceEqDiff, Nat.reduceAdd, Nat.reduceLeDiff, reduceCtorEq, c20]
        apply hK
        simp only [thenQ_normal]
        refine SW_seq ?_
        obtain ⟨x21, h22, h⟩ := bind_some h
        refine SW_reg fun K hK => ?_
        simp only [go_sem, ↓reduceIte, Nat.reduceEqDiff, Nat.reduceAdd, reduceCtorEq]
        refine SC.by_ (remontoireref10_P_block_ok n x18.1 (1 : Int) _ h22 _ _ _ (by simp only [go_sem])) ?_
        simp only [go_sem, ↓reduceIte, Nat.reduceEqDiff, Nat.reduceAdd, reduceCtorEq]
        apply hK
        simp only [thenQ_normal]
        refine SW_seq ?_
        obtain ⟨f23, h⟩ := need_some h
        have f24 : 1 + x13.2.1.length ≤ 1073741824 := by first | omega | (simp only [List.length_append, List.length_cons, List.length_nil] at f23 ⊢; omega)
        obtain ⟨f25, h⟩ := need_some h
        have f26 : x13.2.1.length + 1 + x21.2.length ≤ 1073741824 := by first | omega | (simp only [List.length_append, List.length_cons, List.length_nil] at f25 ⊢; omega)
        refine SW_drawK (tbl := [0, 0, 2, 0, 14, 0, 62, 127, 255]) (ord := [(1, 0), (2, 0), (3, 0), (4, 0), (5, 0), (6, 0), (0, 2), (7, 0), (8, 0)]) 80 rfl (by kernel_rfl) (by kernel_rfl) fun K hK => ?_
        simp only [go_sem, ↓reduceIte, Nat.reduceEqDiff, Nat.reduceAdd, Nat.reduceLT, Nat.reduceLeDiff, reduceCtorEq, f24, f26]
        apply hK
        simp only [thenQ_normal]
        refine SW_ret ?_
        try simp only []
        obtain rfl := some_eq h
        refine ⟨by first | exact .inl rfl | exact .inl trivial | exact .inr rfl | exact .inr trivial, ?_⟩
        simp only [go_sem, ↓reduceIte, Nat.reduceEqDiff, Nat.reduceAdd, back_set, back_tokset, back_self]
      · replace h := ite_f c20 h
        refine SW_seq ?_
        obtain ⟨x27, h28, h⟩ := bind_some h
        refine SW_reg fun K hK => ?_
        simp only [go_sem, ↓reduceIte, Nat.reduceEqDiff, Nat.reduceAdd, c20]
        refine SC.by_ (remontoireref10_P_need_ok n x18.1 ([117, 54, 52] : Str) _ h28 _ _ _ (by simp only [go_sem])) ?_
        simp only [go_sem, ↓reduceIte, Nat.reduceEqDiff, Nat.reduceAdd]
        apply hK
        simp only [thenQ_normal]
        refine SW_reg fun K hK => ?_
        simp only [go_sem, ↓reduceIte, Nat.reduceEqDiff, Nat.reduceAdd, Nat.reduceLeDiff, reduceCtorEq]
        apply hK
        simp only [thenQ_normal]
        refine SW_seq ?_
        obtain ⟨x29, h30, h⟩ := bind_some h
        refine SW_reg fun K hK => ?_
        simp only [go_sem, ↓reduceIte, Nat.reduceEqDiff, Nat.reduceAdd, reduceCtorEq]
        refine SC.by_ (remontoireref10_P_block_ok n x27 (1 : Int) _ h30 _ _ _ (by simp only [go_sem])) ?_
        simp only [go_sem, ↓reduceIte, Nat.reduceEqDiff, Nat.reduceAdd, reduceCtorEq]
        apply hK
        simp only [thenQ_normal]
        refine SW_seq ?_
        obtain ⟨f31, h⟩ := need_some h
        have f32 : 1 + x13.2.1.length ≤ 1073741824 := by first | omega | (simp only [List.length_append, List.length_cons, List.length_nil] at f31 ⊢; omega)
        obtain ⟨f33, h⟩ := need_some h
        have f34 : x13.2.1.length + 1 + x29.2.length ≤ 1073741824 := by first | omega | (simp only [List.length_append, List.length_cons, List.length_nil] at f33 ⊢; omega)
        refine SW_drawK (tbl := [0, 0, 2, 0, 14, 0, 62, 127, 255]) (ord := [(1, 0), (2, 0), (3, 0), (4, 0), (5, 0), (6, 0), (0, 2), (7, 0), (8, 0)]) 83 rfl (by kernel_rfl) (by kernel_rfl) fun K hK => ?_
        simp only [go_sem, ↓reduceIte, Nat.reduceEqDiff, Nat.reduceAdd, Nat.reduceLT, Nat.reduceLeDiff, reduceCtorEq, f32, f34]
        apply hK
        simp only [thenQ_normal]
        refine SW_ret ?_
        try simp only []
        obtain rfl := some_eq h
        refine ⟨by first | exact .inl rfl | exact .inl trivial | exact .inr rfl | exact .inr trivial, ?_⟩
        simp only [go_sem, ↓reduceIte, Nat.reduceEqDiff, Nat.reduceAdd, back_set, back_tokset, back_self]
    · replace h := ite_f c17 h
      refine SW_skip ?_
      try simp only [thenQ_normal]
      refine SW_seq ?_
      obtain ⟨x35, h36, h⟩ := bind_some h
      refine SW_reg fun K hK => ?_
      simp only [go_sem, ↓reduceIte, Nat.reduceEqDiff, Nat.reduceAdd, c17]
      refine SC.by_ (remontoireref10_P_block_ok n x15.1 (1 : Int) _ h36 _ _ _ (by simp only [go_sem])) ?_
      simp only [go_sem, ↓reduceIte, Nat.reduceEqDiff, Nat.reduceAdd]
      apply hK
      simp only [thenQ_normal]
      refine SW_seq ?_
      obtain ⟨f37, h⟩ := need_some h
      have f38 : 1 + x13.2.1.length ≤ 1073741824 := by first | omega | (simp only [List.length_append, List.length_cons, List.length_nil] at f37 ⊢; omega)
      obtain ⟨f39, h⟩ := need_some h
      have f40 : x13.2.1.length + 1 + x35.2.length ≤ 1073741824 := by first | omega | (simp only [List.length_append, List.length_cons, List.length_nil] at f39 ⊢; omega)
      refine SW_drawK (tbl := [0, 0, 2, 0, 14, 0, 62, 127, 255]) (ord := [(1, 0), (2, 0), (3, 0), (4, 0), (5, 0), (6, 0), (0, 2), (7, 0), (8, 0)]) 67 rfl (by kernel_rfl) (by kernel_rfl) fun K hK => ?_
      simp only [go_sem, ↓reduceIte, Nat.reduceEqDiff, Nat.reduceAdd, Nat.reduceLT, Nat.reduceLeDiff, reduceCtorEq, f38, f40]
      apply hK
      simp only [thenQ_normal]
      refine SW_ret ?_
      try simp only []
      obtain rfl := some_eq h
      refine ⟨by first | exact .inl rfl | exact .inl trivial | exact .inr rfl | exact .inr trivial, ?_⟩
      simp only [go_sem, ↓reduceIte, Nat.reduceEqDiff, Nat.reduceAdd, back_set, back_tokset, back_self]
  · replace h := ite_f c8 h
    refine SW_skip ?_
    try simp only [thenQ_normal]
    refine SW_seq ?_
    obtain ⟨x41, h43, h⟩ := bind_some h
    obtain ⟨x42, h44, h⟩ := bind_some h
    refine SW_reg fun K hK => ?_
    simp only [go_sem, ↓reduceIte, Nat.reduceEqDiff, Nat.reduceAdd, c8]
    refine SC.by_ (remontoireref10_P_need_ok n x6.1 ([102, 110] : Str) _ h43 _ _ _ (by simp only [go_sem])) ?_
    simp only [go_sem, ↓reduceIte, Nat.reduceAdd]
    refine SC.by_ (remontoireref10_P_name_ok n x41 _ h44 _ _ _ (by simp only [go_sem])) ?_
    simp only [go_sem, ↓reduceIte, Nat.reduceEqDiff, Nat.reduceAdd, Nat.reduceLeDiff, reduceCtorEq]
    apply hK
    simp only [thenQ_normal]
    refine SW_seq ?_
    obtain ⟨x45, h46, h⟩ := bind_some h
    refine SW_reg fun K hK => ?_
    simp only [go_sem, ↓reduceIte, Nat.reduceEqDiff, Nat.reduceAdd, reduceCtorEq]
    refine SC.by_ (remontoireref10_P_params_ok n x42.1 _ h46 _ _ _ (by simp only [go_sem])) ?_
    simp only [go_sem, ↓reduceIte, Nat.reduceEqDiff, Nat.reduceAdd, reduceCtorEq]
    apply hK
    simp only [thenQ_normal]
    refine SW_seq ?_
    refine SW_reg fun K hK => ?_
    simp only [go_sem, ↓reduceIte, Nat.reduceEqDiff, Nat.reduceAdd, reduceCtorEq]
    apply hK
    simp only [thenQ_normal]
    refine SW_seq ?_
    obtain ⟨x47, h48, h⟩ := bind_some h
    refine SW_reg fun K hK => ?_
    simp only [go_sem, ↓reduceIte, Nat.reduceEqDiff, Nat.reduceAdd, reduceCtorEq]
    refine SC.by_ (remontoireref10_P_take_ok n x45.1 ([45, 62] : Str) _ h48 _ _ _ (by simp only [go_sem])) ?_
    simp only [go_sem, ↓reduceIte, Nat.reduceEqDiff, Nat.reduceAdd, reduceCtorEq]
    apply hK
    simp only [thenQ_normal]
    refine SW_seq ?_
    refine SW_seq ?_
    refine SW_reg fun K hK => ?_
    simp only [go_sem, ↓reduceIte, Nat.reduceAdd]
    apply hK
    simp only [thenQ_normal]
    refine SW_if x47.2 (by simp only [go_sem, ↓reduceIte]) (fun c49 => ?_) (fun c49 => ?_)
    · replace h := ite_t c49 h
      refine SW_seq ?_
      obtain ⟨x50, h51, h⟩ := bind_some h
      refine SW_reg fun K hK => ?_
      simp only [go_sem, ↓reduceIte, Nat.reduceEqDiff, Nat.reduceAdd, c49]
      refine SC.by_ (remontoireref10_P_take_ok n x47.1 ([117, 51, 50] : Str) _ h51 _ _ _ (by simp only [go_sem])) ?_
      simp only [go_sem, ↓reduceIte, Nat.reduceEqDiff, Nat.reduceAdd]
      apply hK
      simp only [thenQ_normal]
      refine SW_seq ?_
      refine SW_reg fun K hK => ?_
      simp only [go_sem, ↓reduceIte, Nat.reduceAdd]
      apply hK
      simp only [thenQ_normal]
      refine SW_if x50.2 (by simp only [go_sem, ↓reduceIte]) (fun c52 => ?_) (fun c52 => ?_)
      · replace h := ite_t c52 h
        refine SW_reg fun K hK => ?_
        simp only [go_sem, ↓reduceIte, Nat.reduceEqDiff, Nat.reduceAdd, Nat.reduceLeDiff, reduceCtorEq, c52]
        apply hK
        simp only [thenQ_normal]
        refine SW_seq ?_
        obtain ⟨x53, h54, h⟩ := bind_some h
        refine SW_reg fun K hK => ?_
        simp only [go_sem, ↓reduceIte, Nat.reduceEqDiff, Nat.reduceAdd, reduceCtorEq]
        refine SC.by_ (remontoireref10_P_block_ok n x50.1 (1 : Int) _ h54 _ _ _ (by simp only [go_sem])) ?_
        simp only [go_sem, ↓reduceIte, Nat.reduceEqDiff, Nat.reduceAdd, reduceCtorEq]
        apply hK
        simp only [thenQ_normal]
        refine SW_seq ?_
        obtain ⟨f55, h⟩ := need_some h
        have f56 : 1 + x45.2.1.length ≤ 1073741824 := by first | omega | (simp only [List.length_append, List.length_cons, List.length_nil] at f55 ⊢; omega)
        obtain ⟨f57, h⟩ := need_some h
        have f58 : x45.2.1.length + 1 + x53.2.length ≤ 1073741824 := by first | omega | (simp only [List.length_append, List.length_cons, List.length_nil] at f57 ⊢; omega)
        refine SW_drawK (tbl := [0, 0, 2, 0, 14, 0, 62, 127, 255]) (ord := [(1, 0), (2, 0), (3, 0), (4, 0), (5, 0), (6, 0), (0, 2), (7, 0), (8, 0)]) 78 rfl (by kernel_rfl) (by kernel_rfl) fun K hK => ?_
        simp only [go_sem, ↓reduceIte, Nat.reduceEqDiff, Nat.reduceAdd, Nat.reduceLT, Nat.reduceLeDiff, reduceCtorEq, f56, f58]
        apply hK
        simp only [thenQ_normal]
        refine SW_ret ?_
        try simp only []
        obtain rfl := some_eq h
        refine ⟨by first | exact .inl rfl | exact .inl trivial | exact .inr rfl | exact .inr trivial, ?_⟩
        simp only [go_sem, ↓reduceIte, Nat.reduceEqDiff, Nat.reduceAdd, back_set, back_tokset, back_self]
      · replace h := ite_f c52 h
        refine SW_seq ?_
        obtain ⟨x59, h60, h⟩ := bind_some h
        refine SW_reg fun K hK => ?_
        simp only [go_sem, ↓reduceIte, Nat.reduceEqDiff, Nat.reduceAdd, c52]
        refine SC.by_ (remontoireref10_P_need_ok n x50.1 ([117, 54, 52] : Str) _ h60 _ _ _ (by simp only [go_sem])) ?_
        simp only [go_sem, ↓reduceIte, Nat.reduceEqDiff, Nat.reduceAdd]
        apply hK
        simp only [thenQ_normal]
        refine SW_reg fun K hK => ?_
        simp only [go_sem, ↓reduceIte, Nat.reduceEqDiff, Nat.reduceAdd, Nat.reduceLeDiff, reduceCtorEq]
        apply hK
        simp only [thenQ_normal]
        refine SW_seq ?_
        obtain ⟨x61, h62, h⟩ := bind_some h
        refine SW_reg fun K hK => ?_
        simp only [go_sem, ↓reduceIte, Nat.reduceEqDiff, Nat.reduceAdd, reduceCtorEq]
        refine SC.by_ (remontoireref10_P_block_ok n x59 (1 : Int) _ h62 _ _ _ (by simp only [go_sem])) ?_
        simp only [go_sem, ↓reduceIte, Nat.reduceEqDiff, Nat.reduceAdd, reduceCtorEq]
        apply hK
        simp only [thenQ_normal]
        refine SW_seq ?_
        obtain ⟨f63, h⟩ := need_some h
        have f64 : 1 + x45.2.1.length ≤ 1073741824 := by first | omega | (simp only [List.length_append, List.length_cons, List.length_nil] at f63 ⊢; omega)
        obtain ⟨f65, h⟩ := need_some h
        have f66 : x45.2.1.length + 1 + x61.2.length ≤ 1073741824 := by first | omega | (simp only [List.length_append, List.length_cons, List.length_nil] at f65 ⊢; omega)
        refine SW_drawK (tbl := [0, 0, 2, 0, 14, 0, 62, 127, 255]) (ord := [(1, 0), (2, 0), (3, 0), (4, 0), (5, 0), (6, 0), (0, 2), (7, 0), (8, 0)]) 81 rfl (by kernel_rfl) (by kernel_rfl) fun K hK => ?_
        simp only [go_sem, ↓reduceIte, Nat.reduceEqDiff, Nat.reduceAdd, Nat.reduceLT, Nat.reduceLeDiff, reduceCtorEq, f64, f66]
        apply hK
        simp only [thenQ_normal]
        refine SW_ret ?_
        try simp only []
        obtain rfl := some_eq h
        refine ⟨by first | exact .inl rfl | exact .inl trivial | exact .inr rfl | exact .inr trivial, ?_⟩
        simp only [go_sem, ↓reduceIte, Nat.reduceEqDiff, Nat.reduceAdd, back_set, back_tokset, back_self]
    · replace h := ite_f c49 h
      refine SW_skip ?_
      try simp only [thenQ_normal]
      refine SW_seq ?_
      obtain ⟨x67, h68, h⟩ := bind_some h
      refine SW_reg fun K hK => ?_
      simp only [go_sem, ↓reduceIte, Nat.reduceEqDiff, Nat.reduceAdd, c49]
      refine SC.by_ (remontoireref10_P_block_ok n x47.1 (1 : Int) _ h68 _ _ _ (by simp only [go_sem])) ?_
      simp only [go_sem, ↓reduceIte, Nat.reduceEqDiff, Nat.reduceAdd]
      apply hK
      simp only [thenQ_normal]
      refine SW_seq ?_
      obtain ⟨f69, h⟩ := need_some h
      have f70 : 1 + x45.2.1.length ≤ 1073741824 := by first | omega | (simp only [List.length_append, List.length_cons, List.length_nil] at f69 ⊢; omega)
      obtain ⟨f71, h⟩ := need_some h
      have f72 : x45.2.1.length + 1 + x67.2.length ≤ 1073741824 := by first | omega | (simp only [List.length_append, List.length_cons, List.length_nil] at f71 ⊢; omega)
      refine SW_drawK (tbl := [0, 0, 2, 0, 14, 0, 62, 127, 255]) (ord := [(1, 0), (2, 0), (3, 0), (4, 0), (5, 0), (6, 0), (0, 2), (7, 0), (8, 0)]) 65 rfl (by kernel_rfl) (by kernel_rfl) fun K hK => ?_
      simp only [go_sem, ↓reduceIte, Nat.reduceEqDiff, Nat.reduceAdd, Nat.reduceLT, Nat.reduceLeDiff, reduceCtorEq, f70, f72]
      apply hK
      simp only [thenQ_normal]
      refine SW_ret ?_
      try simp only []
      obtain rfl := some_eq h
      refine ⟨by first | exact .inl rfl | exact .inl trivial | exact .inr rfl | exact .inr trivial, ?_⟩
      simp only [go_sem, ↓reduceIte, Nat.reduceEqDiff, Nat.reduceAdd, back_set, back_tokset, back_self]

def remontoireref10_Parse_C (f : Str → Option ((List T_remontoireref10_N) × Int × Int)) : Prop := ∀ (a0 : Str) (r : ((List T_remontoireref10_N) × Int × Int)), f a0 = some r → ∀ (q : Pa) (m : M) (vs : List V), vs.map V.weak1 = [.list .none (byteRows a0)] → SC Tryd.prog 16 vs q m (fun v m' => v = .tup [.list .none (r.1.map T_remontoireref10_N.C), .lit (.int .i64 r.2.1), .lit (.int .i64 r.2.2)] ∧ m' = m)

theorem remontoireref10_Parse_ok (n : Nat) : remontoireref10_Parse_C (remontoireref10_Parse n) := by
  intro a0 r h q m vs hv
  refine SC.weak ?_
  rw [hv]
  refine SC_of Tryd.func16 rfl (fun xs w => Tryd.call16 xs w) Tryd.ntmps16 (by kernel_rfl) (congrArg Array.toList Tryd.results16) V.weak (fun _ _ _ => V.weak_ok) ?_
  unfold remontoireref10_Parse at h
  refine SW_seq ?_
  refine SW_reg fun K hK => ?_
  simp only [go_sem, Nat.reduceAdd]
  apply hK
  simp only [thenQ_normal]
  refine SW_seq ?_
  obtain ⟨x1, h2, h⟩ := bind_some h
  refine SW_reg fun K hK => ?_
  simp only [go_sem, ↓reduceIte, Nat.reduceAdd, reduceCtorEq]
  refine SC.by_ (remontoireref09_Tokens_ok n a0 _ h2 _ _ _ (by simp only [go_sem])) ?_
  simp only [go_sem, ↓reduceIte, Nat.reduceEqDiff, Nat.reduceAdd]
  apply hK
  simp only [thenQ_normal]
  refine SW_seq ?_
  refine SW_seq ?_
  refine SW_reg fun K hK => ?_
  simp only [go_sem, ↓reduceIte, Nat.reduceEqDiff, Nat.reduceAdd]
  apply hK
  simp only [thenQ_normal]
  refine SW_if (x1.2.1 != (0 : Int)) (by simp only [go_sem, ↓reduceIte]) (fun c3 => ?_) (fun c3 => ?_)
  · replace h := ite_t c3 h
    refine SW_seq ?_
    refine SW_reg fun K hK => ?_
    simp only [go_sem, ↓reduceIte, Nat.reduceEqDiff, Nat.reduceAdd, c3]
    apply hK
    simp only [thenQ_normal]
    refine SW_ret ?_
    try simp only [thenQ_ret]
    obtain rfl := some_eq h
    refine ⟨by first | exact .inl rfl | exact .inl trivial | exact .inr rfl | exact .inr trivial, ?_⟩
    simp only [go_sem, ↓reduceIte, Nat.reduceEqDiff, back_self]
  · replace h := ite_f c3 h
    refine SW_skip ?_
    try simp only [thenQ_normal]
    refine SW_seq ?_
    refine SW_reg fun K hK => ?_
    simp only [go_sem, ↓reduceIte, Nat.reduceEqDiff, Nat.reduceAdd, Nat.reduceLeDiff, c3]
    apply hK
    simp only [thenQ_normal]
    refine SW_seq ?_
    obtain ⟨x5, h10, h⟩ := bind_some h
    obtain ⟨f7, f8, f9⟩ := idxL_some h10
    have f11 : x1.1[0]? = some x5 := f9
    refine SW_reg fun K hK => ?_
    simp only [go_sem, ↓reduceIte, Nat.reduceEqDiff, Nat.reduceAdd, Nat.reduceLeDiff, f7, f8, f11]
    apply hK
    simp only [thenQ_normal]
    refine SW_seq ?_
    refine SW_reg fun K hK => ?_
    simp only [go_sem, Nat.reduceAdd]
    apply hK
    simp only [thenQ_normal]
    refine SW_seq ?_
    refine SW_block ?_
    obtain ⟨y16, hy16, h⟩ := bind_some h
    refine SW_stamp 10 ([].map T_remontoireref10_N.C) rfl (by simp only [go_sem, ↓reduceIte]) ?_
    refine SW_countW [] [] rfl (fun c E' m' => ∃ (v13 : (List T_remontoireref10_N)), ∃ (v14 : T_remontoireref10_P), ∃ (v15 : T_remontoireref10_N), ∃ (o_v13 : Pa) (j_v13 : Nat), remontoireref10_Parse_l1 n c v13 v14 v15 = some y16 ∧ E' 8 = .ptr (16 :: q) 0 ∧ E' 9 = .ptr (23 :: q) 0 ∧ E' 10 = .list (.st (.anon o_v13 j_v13)) (v13.map T_remontoireref10_N.C) ∧ m'.tok o_v13 j_v13 = true ∧ q <:+ o_v13 ∧ m'.blk (16 :: q) = some ((T_remontoireref10_P.C v14)) ∧ m'.blk (23 :: q) = some ((T_remontoireref10_N.C v15)) ∧ m'.gl = m.gl ∧ m.back q m' = m) n ⟨[], (T_remontoireref10_P.mk x1.1 (0 : Int) (1 : Int) (0 : Int) (0 : Int)), (T_remontoireref10_N.mk (1 : Int) x5.At_ [] (0 : Int) (0 : Int)), (26 :: q), 0, hy16, ?_⟩ ?_
    · simp only [go_sem, ↓reduceIte, Nat.reduceEqDiff, back_set, back_tokset, back_self]
    rintro i12 c17 E18 m19 ⟨v13, v14, v15, o_v13, j_v13, hy16, e20⟩ _
    rcases c17 with _ | c17
    · exact absurd hy16 (by rw [remontoireref10_Parse_l1]; exact fun e => nomatch e)
    rw [remontoireref10_Parse_l1] at hy16
    refine SW_seq ?_
    refine SW_seq ?_
    obtain ⟨y21, hy21, hy16⟩ := bind_some hy16
    refine SW_joinK 13 [] [] rfl (fun E' m' => E' 8 = .ptr (16 :: q) 0 ∧ E' 9 = .ptr (23 :: q) 0 ∧ E' 10 = .list (.st (.anon o_v13 j_v13)) (v13.map T_remontoireref10_N.C) ∧ m'.tok o_v13 j_v13 = true ∧ q <:+ o_v13 ∧ E' 42 = .lit (.bool y21) ∧ m'.blk (16 :: q) = some ((T_remontoireref10_P.C v14)) ∧ m'.blk (23 :: q) = some ((T_remontoireref10_N.C v15)) ∧ m'.gl = m.gl ∧ m.back q m' = m) ?_ ?_
    · rcases bool_or (v14.E_ == (0 : Int)) with c22 | c22
      · replace hy21 := ite_t c22 hy21
        obtain ⟨x23, h27, hy21⟩ := bind_some hy21
        obtain ⟨f24, f25, f26⟩ := idxL_some h27
        refine SW_reg fun K hK => ?_
        simp only [go_sem, ↓reduceIte, Nat.reduceEqDiff, Nat.reduceAdd, c22, f24, f25, f26, e20]
        apply hK
        simp only [thenQ_normal]
        obtain rfl := some_eq hy21
        refine ⟨by decide, ?_⟩
        simp only [go_sem, ↓reduceIte, Nat.reduceEqDiff, e20]
      · replace hy21 := ite_f c22 hy21
        refine SW_reg fun K hK => ?_
        simp only [go_sem, ↓reduceIte, Nat.reduceEqDiff, Nat.reduceAdd, c22, e20]
        apply hK
        simp only [thenQ_normal]
        obtain rfl := some_eq hy21
        refine ⟨by decide, ?_⟩
        simp only [go_sem, ↓reduceIte, Nat.reduceEqDiff, e20]
    · intro E28 m29 e30 _
      simp only [thenQ_normal]
      refine SW_if y21 (by simp only [go_sem, e30]) (fun c31 => ?_) (fun c31 => ?_)
      · replace hy16 := ite_t c31 hy16
        refine SW_skip ?_
        try simp only [thenQ_normal]
        refine SW_block ?_
        refine SW_seq ?_
        obtain ⟨x32, h34, hy16⟩ := bind_some hy16
        refine SW_reg fun K hK => ?_
        simp only [go_sem, ↓reduceIte, Nat.reduceAdd, e30]
        refine SC.by_ (remontoireref10_P_function_ok n v14 _ h34 _ _ _ (by simp only [go_sem])) ?_
        simp only [go_sem, ↓reduceIte, Nat.reduceEqDiff, Nat.reduceAdd]
        apply hK
        simp only [thenQ_normal]
        refine SW_seq ?_
        refine SW_reg fun K hK => ?_
        simp only [go_sem, ↓reduceIte, Nat.reduceEqDiff, Nat.reduceAdd, e30]
        apply hK
        simp only [thenQ_normal]
        refine SW_seq ?_
        obtain ⟨f35, hy16⟩ := need_some hy16
        have f36 : v13.length + x32.2.length ≤ 1073741824 := by first | omega | (simp only [List.length_append, List.length_cons, List.length_nil] at f35 ⊢; omega)
        refine SW_reg fun K hK => ?_
        simp only [go_sem, ↓reduceIte, Nat.reduceEqDiff, Nat.reduceAdd, Nat.reduceLT, Nat.reduceLeDiff, f35, e30]
        apply hK
        simp only [thenQ_normal]
        refine SW_reg fun K hK => ?_
        simp only [go_sem, ↓reduceIte, Nat.reduceEqDiff, Nat.reduceAdd, e30]
        apply hK
        simp only [thenQ_normal, blockQ_normal]
        refine ⟨c17, Nat.lt_succ_self _, (v13 ++ x32.2), x32.1, ({ v15 with Kids_ := (IntKind.i64.wrap (v15.Kids_ + (1 : Int))) } : T_remontoireref10_N), (25 :: i12 :: 27 :: q), 0, hy16, ?_⟩
        simp only [go_sem, ↓reduceIte, Nat.reduceEqDiff, back_set, back_tokset, e30]
      · replace hy16 := ite_f c31 hy16
        refine SW_exit ?_
        try simp only [thenQ_exit, blockQ_exit, ↓reduceIte, thenQ_normal]
        obtain rfl := some_eq hy16
        refine SW_seq ?_
        refine SW_seq ?_
        refine SW_reg fun K hK => ?_
        simp only [go_sem, ↓reduceIte, Nat.reduceAdd, e30]
        apply hK
        simp only [thenQ_normal]
        refine SW_if (v14.E_ != (0 : Int)) (by simp only [go_sem, ↓reduceIte]) (fun c37 => ?_) (fun c37 => ?_)
        · replace h := ite_t c37 h
          refine SW_seq ?_
          refine SW_drawK (tbl := [0, 1, 0, 4, 0, 19, 63]) (ord := [(0, 0), (1, 0), (2, 0), (3, 0), (4, 0), (5, 0), (6, 0)]) 38 rfl (by kernel_rfl) (by kernel_rfl) fun K hK => ?_
          simp only [go_sem, ↓reduceIte, Nat.reduceEqDiff, c37, e30]
          apply hK
          simp only [thenQ_normal]
          refine SW_ret ?_
          try simp only [thenQ_ret]
          obtain rfl := some_eq h
          refine ⟨by first | exact .inl rfl | exact .inl trivial | exact .inr rfl | exact .inr trivial, ?_⟩
          simp only [go_sem, ↓reduceIte, Nat.reduceEqDiff, e30]
        · replace h := ite_f c37 h
          refine SW_skip ?_
          try simp only [thenQ_normal]
          refine SW_seq ?_
          obtain ⟨f38, h⟩ := need_some h
          have f39 : 1 + v13.length ≤ 1073741824 := by first | omega | (simp only [List.length_append, List.length_cons, List.length_nil] at f38 ⊢; omega)
          refine SW_reg fun K hK => ?_
          simp only [go_sem, ↓reduceIte, Nat.reduceEqDiff, Nat.reduceAdd, Nat.reduceLT, Nat.reduceLeDiff, c37, f39, e30]
          apply hK
          simp only [thenQ_normal]
          refine SW_ret ?_
          try simp only []
          obtain rfl := some_eq h
          refine ⟨by first | exact .inl rfl | exact .inl trivial | exact .inr rfl | exact .inr trivial, ?_⟩
          simp only [go_sem, ↓reduceIte, Nat.reduceEqDiff, back_tokset, e30]

def parse_Count_C (f : T_parse_Node → Option Int) : Prop := ∀ (a0 : T_parse_Node) (r : Int), f a0 = some r → ∀ (q : Pa) (m : M) (vs : List V), vs.map V.weak1 = [.agg ((T_parse_Node.C a0))] → SC Tryd.prog 17 vs q m (fun v m' => v = .lit (.int .i64 r) ∧ m' = m)

theorem parse_Count_b_ok {rec_parse_Count : T_parse_Node → Option Int} (hrec_parse_Count : parse_Count_C rec_parse_Count) (n : Nat) : parse_Count_C (parse_Count_b rec_parse_Count n) := by
  intro a0 r h q m vs hv
  refine SC.weak ?_
  rw [hv]
  refine SC_of Tryd.func17 rfl (fun xs w => Tryd.call17 xs w) Tryd.ntmps17 (by kernel_rfl) (congrArg Array.toList Tryd.results17) V.weak (fun _ _ _ => V.weak_ok) ?_
  unfold parse_Count_b at h
  refine SW_seq ?_
  refine SW_reg fun K hK => ?_
  simp only [go_sem, Nat.reduceAdd]
  apply hK
  simp only [thenQ_normal]
  refine SW_seq ?_
  refine SW_reg fun K hK => ?_
  simp only [go_sem, Nat.reduceAdd]
  apply hK
  simp only [thenQ_normal]
  refine SW_seq ?_
  refine SW_seq ?_
  refine SW_reg fun K hK => ?_
  simp only [go_sem, ↓reduceIte, Nat.reduceEqDiff, Nat.reduceAdd]
  apply hK
  simp only [thenQ_normal]
  refine SW_block ?_
  obtain ⟨y5, hy5, h⟩ := bind_some h
  refine SW_countW [] [] rfl (fun c E' m' => ∃ (v3 : Int), ∃ (v4 : Int), parse_Count_l1 rec_parse_Count a0 c v3 v4 = some y5 ∧ E' 3 = .lit (.int .i64 v3) ∧ E' 7 = .list .none (a0.List_.map T_parse_Node.C) ∧ E' 8 = .lit (.int .i64 (a0.List_.length : Int)) ∧ E' 9 = .lit (.int .i64 v4) ∧ m'.gl = m.gl ∧ m.back q m' = m) n ⟨(1 : Int), (0 : Int), hy5, ?_⟩ ?_
  · simp only [go_sem, ↓reduceIte, Nat.reduceEqDiff, back_set, back_self]
  rintro i2 c6 E7 m8 ⟨v3, v4, hy5, e9⟩ _
  rcases c6 with _ | c6
  · exact absurd hy5 (by rw [parse_Count_l1]; exact fun e => nomatch e)
  rw [parse_Count_l1] at hy5
  refine SW_seq ?_
  refine SW_reg fun K hK => ?_
  simp only [go_sem, e9]
  apply hK
  simp only [thenQ_normal]
  refine SW_seq ?_
  refine SW_if (decide (v4 < (a0.List_.length : Int))) (by simp only [go_sem, ↓reduceIte]) (fun c10 => ?_) (fun c10 => ?_)
  · replace hy5 := ite_t c10 hy5
    refine SW_skip ?_
    try simp only [thenQ_normal]
    refine SW_seq ?_
    refine SW_block ?_
    refine SW_seq ?_
    obtain ⟨x11, h16, hy5⟩ := bind_some hy5
    obtain ⟨f13, f14, f15⟩ := idxL_some h16
    refine SW_reg fun K hK => ?_
    simp only [go_sem, ↓reduceIte, Nat.reduceEqDiff, Nat.reduceAdd, f13, f14, f15, e9]
    apply hK
    simp only [thenQ_normal]
    obtain ⟨x17, h18, hy5⟩ := bind_some hy5
    refine SW_reg fun K hK => ?_
    simp only [go_sem, ↓reduceIte, Nat.reduceEqDiff, Nat.reduceAdd, e9]
    refine SC.by_ (hrec_parse_Count x11 _ h18 _ _ _ (by simp only [go_sem])) ?_
    simp only [go_sem, ↓reduceIte, Nat.reduceEqDiff, Nat.reduceAdd]
    apply hK
    simp only [thenQ_normal, blockQ_normal]
    refine SW_reg fun K hK => ?_
    simp only [go_sem, ↓reduceIte, Nat.reduceEqDiff, Nat.reduceAdd, e9]
    apply hK
    simp only [thenQ_normal]
    refine ⟨c6, Nat.lt_succ_self _, (IntKind.i64.wrap (v3 + x17)), (IntKind.i64.wrap (v4 + (1 : Int))), hy5, ?_⟩
    simp only [go_sem, ↓reduceIte, Nat.reduceEqDiff, back_set, e9]
  · replace hy5 := ite_f c10 hy5
    refine SW_exit ?_
    try simp only [thenQ_exit, blockQ_exit, ↓reduceIte, thenQ_normal]
    obtain rfl := some_eq hy5
    refine SW_seq ?_
    refine SW_reg fun K hK => ?_
    simp only [go_sem, ↓reduceIte, Nat.reduceEqDiff, Nat.reduceAdd, c10, e9]
    apply hK
    simp only [thenQ_normal]
    refine SW_ret ?_
    try simp only []
    obtain rfl := some_eq h
    refine ⟨by first | exact .inl rfl | exact .inl trivial | exact .inr rfl | exact .inr trivial, ?_⟩
    simp only [go_sem, ↓reduceIte, e9]

theorem parse_Count_ok : ∀ n, parse_Count_C (parse_Count n)
  | 0 => fun _ _ h => none_some_ h
  | n + 1 => parse_Count_b_ok (parse_Count_ok n) n

def remontoirelaw10_ParseTrees_C (f : Str → Option Bool) : Prop := ∀ (a0 : Str) (r : Bool), f a0 = some r → ∀ (q : Pa) (m : M) (vs : List V), vs.map V.weak1 = [.list .none (byteRows a0)] ∧ m.gl 0 = .eptr [(cA cS g_parse_words)] 0 0 ∧ m.gl 3 = .eptr [(cA cS g_lex_signs)] 0 0 ∧ m.gl 6 = .eptr [(cA (cA cS) g_parse_levels)] 0 0 → SC Tryd.prog 5 vs q m (fun v m' => v = .lit (.bool r) ∧ m' = m)

theorem remontoirelaw10_ParseTrees_ok (n : Nat) : remontoirelaw10_ParseTrees_C (remontoirelaw10_ParseTrees n) := by
  rintro a0 r h q m vs ⟨hv, hg0, hg3, hg6⟩
  refine SC.weak ?_
  rw [hv]
  refine SC_of Tryd.func5 rfl (fun xs w => Tryd.call5 xs w) Tryd.ntmps5 (by kernel_rfl) (congrArg Array.toList Tryd.results5) V.weak (fun _ _ _ => V.weak_ok) ?_
  unfold remontoirelaw10_ParseTrees at h
  refine SW_seq ?_
  refine SW_reg fun K hK => ?_
  simp only [go_sem]
  apply hK
  simp only [thenQ_normal]
  refine SW_seq ?_
  refine SW_seq ?_
  obtain ⟨x1, h2, h⟩ := bind_some h
  refine SW_reg fun K hK => ?_
  simp only [go_sem]
  refine SC.by_ (remontoirelaw10_anchor_ok n _ h2 _ _ _ (by simp only [go_sem, hg0, hg3, hg6])) ?_
  simp only [go_sem, ↓reduceIte, Nat.reduceAdd]
  apply hK
  simp only [thenQ_normal]
  refine SW_if (!x1) (by simp only [go_sem, ↓reduceIte]) (fun c3 => ?_) (fun c3 => ?_)
  · replace h := ite_t c3 h
    refine SW_seq ?_
    refine SW_reg fun K hK => ?_
    simp only [go_sem, Nat.reduceAdd, c3]
    apply hK
    simp only [thenQ_normal]
    refine SW_ret ?_
    try simp only [thenQ_ret]
    obtain rfl := some_eq h
    refine ⟨by first | exact .inl rfl | exact .inl trivial | exact .inr rfl | exact .inr trivial, ?_⟩
    simp only [go_sem, ↓reduceIte, back_self]
  · replace h := ite_f c3 h
    refine SW_skip ?_
    try simp only [thenQ_normal]
    refine SW_seq ?_
    refine SW_seq ?_
    refine SW_reg fun K hK => ?_
    simp only [go_sem, ↓reduceIte, Nat.reduceAdd, reduceCtorEq, c3]
    apply hK
    simp only [thenQ_normal]
    refine SW_if (decide ((40000 : Int) < (a0.length : Int))) (by simp only [go_sem, ↓reduceIte]) (fun c4 => ?_) (fun c4 => ?_)
    · replace h := ite_t c4 h
      refine SW_seq ?_
      refine SW_reg fun K hK => ?_
      simp only [go_sem, Nat.reduceAdd, c4]
      apply hK
      simp only [thenQ_normal]
      refine SW_ret ?_
      try simp only [thenQ_ret]
      obtain rfl := some_eq h
      refine ⟨by first | exact .inl rfl | exact .inl trivial | exact .inr rfl | exact .inr trivial, ?_⟩
      simp only [go_sem, ↓reduceIte, back_self]
    · replace h := ite_f c4 h
      refine SW_skip ?_
      try simp only [thenQ_normal]
      refine SW_seq ?_
      obtain ⟨x5, h7, h⟩ := bind_some h
      refine SW_reg fun K hK => ?_
      simp only [go_sem, ↓reduceIte, Nat.reduceAdd, reduceCtorEq, c4]
      refine SC.by_ (parse_Parse_ok n a0 _ h7 _ _ _ (by simp only [go_sem, hg0, hg3, hg6])) ?_
      simp only [go_sem, ↓reduceIte, Nat.reduceEqDiff, Nat.reduceAdd]
      apply hK
      simp only [thenQ_normal]
      refine SW_seq ?_
      obtain ⟨x8, h9, h⟩ := bind_some h
      refine SW_reg fun K hK => ?_
      simp only [go_sem, ↓reduceIte, Nat.reduceAdd, reduceCtorEq]
      refine SC.by_ (remontoireref10_Parse_ok n a0 _ h9 _ _ _ (by simp only [go_sem])) ?_
      simp only [go_sem, ↓reduceIte, Nat.reduceEqDiff, Nat.reduceAdd]
      apply hK
      simp only [thenQ_normal]
      refine SW_seq ?_
      refine SW_seq ?_
      obtain ⟨y10, hy10, h⟩ := bind_some h
      refine SW_joinK 33 [] [] rfl (fun E' m' => E' 3 = .ptr (12 :: q) 0 ∧ E' 6 = .list .none (x8.1.map T_remontoireref10_N.C) ∧ E' 7 = .lit (.int .i64 x8.2.1) ∧ E' 35 = .lit (.bool y10) ∧ m'.blk (12 :: q) = some ((T_parse_Node.C x5.1)) ∧ m'.gl = m.gl ∧ m.back q m' = m) ?_ ?_
      · rcases bool_or (x5.2.1 != x8.2.1) with c11 | c11
        · replace hy10 := ite_t c11 hy10
          refine SW_reg fun K hK => ?_
          simp only [go_sem, ↓reduceIte, Nat.reduceEqDiff, Nat.reduceAdd, c11]
          apply hK
          simp only [thenQ_normal]
          obtain rfl := some_eq hy10
          refine ⟨by decide, ?_⟩
          simp only [go_sem, ↓reduceIte, Nat.reduceEqDiff, back_set, back_self]
        · replace hy10 := ite_f c11 hy10
          refine SW_reg fun K hK => ?_
          simp only [go_sem, ↓reduceIte, Nat.reduceEqDiff, Nat.reduceAdd, c11]
          apply hK
          simp only [thenQ_normal]
          obtain rfl := some_eq hy10
          refine ⟨by decide, ?_⟩
          simp only [go_sem, ↓reduceIte, Nat.reduceEqDiff, back_set, back_self]
      · intro E12 m13 e14 _
        simp only [thenQ_normal]
        refine SW_if y10 (by simp only [go_sem, e14]) (fun c15 => ?_) (fun c15 => ?_)
        · replace h := ite_t c15 h
          refine SW_seq ?_
          refine SW_reg fun K hK => ?_
          simp only [go_sem, Nat.reduceAdd]
          apply hK
          simp only [thenQ_normal]
          refine SW_ret ?_
          try simp only [thenQ_ret]
          obtain rfl := some_eq h
          refine ⟨by first | exact .inl rfl | exact .inl trivial | exact .inr rfl | exact .inr trivial, ?_⟩
          simp only [go_sem, ↓reduceIte, e14]
        · replace h := ite_f c15 h
          refine SW_skip ?_
          try simp only [thenQ_normal]
          refine SW_seq ?_
          refine SW_seq ?_
          refine SW_reg fun K hK => ?_
          simp only [go_sem, ↓reduceIte, Nat.reduceAdd, e14]
          apply hK
          simp only [thenQ_normal]
          refine SW_if (x8.2.1 != (0 : Int)) (by simp only [go_sem, ↓reduceIte]) (fun c16 => ?_) (fun c16 => ?_)
          · replace h := ite_t c16 h
            refine SW_seq ?_
            obtain ⟨y17, hy17, h⟩ := bind_some h
            refine SW_joinK 45 [] [] rfl (fun E' m' => E' 2 = .lit (.bool y17) ∧ m'.gl = m.gl ∧ m.back q m' = m) ?_ ?_
            · rcases bool_or (x5.1.Kind_ == (0 : Int)) with c18 | c18
              · replace hy17 := ite_t c18 hy17
                refine SW_reg fun K hK => ?_
                simp only [go_sem, ↓reduceIte, Nat.reduceEqDiff, Nat.reduceAdd, c16, c18, e14]
                apply hK
                simp only [thenQ_normal]
                obtain rfl := some_eq hy17
                refine ⟨by decide, ?_⟩
                simp only [go_sem, ↓reduceIte, e14]
              · replace hy17 := ite_f c18 hy17
                refine SW_reg fun K hK => ?_
                simp only [go_sem, ↓reduceIte, Nat.reduceEqDiff, Nat.reduceAdd, c16, c18, e14]
                apply hK
                simp only [thenQ_normal]
                obtain rfl := some_eq hy17
                refine ⟨by decide, ?_⟩
                simp only [go_sem, ↓reduceIte, e14]
            · intro E19 m20 e21 _
              simp only [thenQ_normal]
              refine SW_ret ?_
              try simp only [thenQ_ret]
              obtain rfl := some_eq h
              refine ⟨by first | exact .inl rfl | exact .inl trivial | exact .inr rfl | exact .inr trivial, ?_⟩
              simp only [go_sem, e21]
          · replace h := ite_f c16 h
            refine SW_skip ?_
            try simp only [thenQ_normal]
            refine SW_seq ?_
            obtain ⟨x22, h23, h⟩ := bind_some h
            refine SW_reg fun K hK => ?_
            simp only [go_sem, ↓reduceIte, Nat.reduceEqDiff, Nat.reduceAdd, c16, e14]
            refine SC.by_ (remontoirelaw10_flat_ok n x5.1 (0 : Int) _ h23 _ _ _ (by simp only [go_sem])) ?_
            simp only [go_sem, ↓reduceIte, Nat.reduceAdd]
            apply hK
            simp only [thenQ_normal]
            refine SW_seq ?_
            refine SW_seq ?_
            obtain ⟨y24, hy24, h⟩ := bind_some h
            refine SW_joinK 50 [] [] rfl (fun E' m' => E' 6 = .list .none (x8.1.map T_remontoireref10_N.C) ∧ E' 9 = .list .none (x22.map T_remontoireref10_N.C) ∧ E' 60 = .lit (.bool y24) ∧ m'.gl = m.gl ∧ m.back q m' = m) ?_ ?_
            · rcases bool_or ((x22.length : Int) != (x8.1.length : Int)) with c25 | c25
              · replace hy24 := ite_t c25 hy24
                refine SW_reg fun K hK => ?_
                simp only [go_sem, ↓reduceIte, Nat.reduceEqDiff, Nat.reduceAdd, c25, e14]
                apply hK
                simp only [thenQ_normal]
                obtain rfl := some_eq hy24
                refine ⟨by decide, ?_⟩
                simp only [go_sem, ↓reduceIte, Nat.reduceEqDiff, e14]
              · replace hy24 := ite_f c25 hy24
                obtain ⟨x26, h27, hy24⟩ := bind_some hy24
                refine SW_reg fun K hK => ?_
                simp only [go_sem, ↓reduceIte, Nat.reduceEqDiff, Nat.reduceAdd, c25, e14]
                refine SC.by_ (parse_Count_ok n x5.1 _ h27 _ _ _ (by simp only [go_sem])) ?_
                simp only [go_sem, ↓reduceIte, Nat.reduceEqDiff, Nat.reduceAdd, e14]
                apply hK
                simp only [thenQ_normal]
                obtain rfl := some_eq hy24
                refine ⟨by decide, ?_⟩
                simp only [go_sem, ↓reduceIte, Nat.reduceEqDiff, e14]
            · intro E28 m29 e30 _
              simp only [thenQ_normal]
              refine SW_if y24 (by simp only [go_sem, e30]) (fun c31 => ?_) (fun c31 => ?_)
              · replace h := ite_t c31 h
                refine SW_seq ?_
                refine SW_reg fun K hK => ?_
                simp only [go_sem, Nat.reduceAdd]
                apply hK
                simp only [thenQ_normal]
                refine SW_ret ?_
                try simp only [thenQ_ret]
                obtain rfl := some_eq h
                refine ⟨by first | exact .inl rfl | exact .inl trivial | exact .inr rfl | exact .inr trivial, ?_⟩
                simp only [go_sem, ↓reduceIte, e30]
              · replace h := ite_f c31 h
                refine SW_skip ?_
                try simp only [thenQ_normal]
                refine SW_seq ?_
                refine SW_seq ?_
                refine SW_reg fun K hK => ?_
                simp only [go_sem, ↓reduceIte, Nat.reduceAdd, e30]
                apply hK
                simp only [thenQ_normal]
                refine SW_block ?_
                obtain ⟨y34, hy34, h⟩ := bind_some h
                refine SW_countW [] [] rfl (fun c E' m' => ∃ (v33 : Int), remontoirelaw10_ParseTrees_l1 x22 x8 c v33 = some y34 ∧ E' 6 = .list .none (x8.1.map T_remontoireref10_N.C) ∧ E' 9 = .list .none (x22.map T_remontoireref10_N.C) ∧ E' 62 = .lit (.int .i64 (x22.length : Int)) ∧ E' 63 = .lit (.int .i64 v33) ∧ m'.gl = m.gl ∧ m.back q m' = m) n ⟨(0 : Int), hy34, ?_⟩ ?_
                · simp only [go_sem, ↓reduceIte, Nat.reduceEqDiff, e30]
                rintro i32 c35 E36 m37 ⟨v33, hy34, e38⟩ _
                rcases c35 with _ | c35
                · exact absurd hy34 (by rw [remontoirelaw10_ParseTrees_l1]; exact fun e => nomatch e)
                rw [remontoirelaw10_ParseTrees_l1] at hy34
                refine SW_seq ?_
                refine SW_reg fun K hK => ?_
                simp only [go_sem, e38]
                apply hK
                simp only [thenQ_normal]
                refine SW_seq ?_
                refine SW_if (decide (v33 < (x22.length : Int))) (by simp only [go_sem, ↓reduceIte]) (fun c39 => ?_) (fun c39 => ?_)
                · replace hy34 := ite_t c39 hy34
                  refine SW_skip ?_
                  try simp only [thenQ_normal]
                  refine SW_seq ?_
                  refine SW_block ?_
                  refine SW_seq ?_
                  refine SW_reg fun K hK => ?_
                  simp only [go_sem, ↓reduceIte, Nat.reduceEqDiff, Nat.reduceAdd, c39, e38]
                  apply hK
                  simp only [thenQ_normal]
                  refine SW_seq ?_
                  obtain ⟨x40, h45, hy34⟩ := bind_some hy34
                  obtain ⟨f42, f43, f44⟩ := idxL_some h45
                  obtain ⟨x41, h49, hy34⟩ := bind_some hy34
                  obtain ⟨f46, f47, f48⟩ := idxL_some h49
                  refine SW_drawK (tbl := [0, 0, 3, 7, 0, 0, 48, 112, 255]) (ord := [(0, 0), (1, 0), (2, 0), (3, 0), (4, 0), (5, 0), (6, 0), (7, 0), (8, 0)]) 12 rfl (by kernel_rfl) (by kernel_rfl) fun K hK => ?_
                  simp only [go_sem, ↓reduceIte, Nat.reduceEqDiff, Nat.reduceAdd, f42, f43, f44, f47, f48, e38]
                  apply hK
                  simp only [thenQ_normal]
                  refine SW_if (!((x40.Kind_ == x41.Kind_) && ((x40.At_ == x41.At_) && ((decide (x40.Text_ = x41.Text_)) && ((x40.Num_ == x41.Num_) && (x40.Kids_ == x41.Kids_)))))) (by simp only [go_sem, ↓reduceIte]) (fun c50 => ?_) (fun c50 => ?_)
                  · replace hy34 := ite_t c50 hy34
                    refine SW_seq ?_
                    refine SW_reg fun K hK => ?_
                    simp only [go_sem, Nat.reduceAdd, c50]
                    apply hK
                    simp only [thenQ_normal]
                    refine SW_ret ?_
                    try simp only [thenQ_ret, blockQ_ret]
                    obtain rfl := some_eq hy34
                    simp only [Sum.elim_inr] at h
                    obtain rfl := some_eq h
                    refine ⟨by first | exact .inl rfl | exact .inl trivial | exact .inr rfl | exact .inr trivial, ?_⟩
                    simp only [go_sem, ↓reduceIte, e38]
                  · replace hy34 := ite_f c50 hy34
                    refine SW_skip ?_
                    try simp only [thenQ_normal, blockQ_normal]
                    refine SW_reg fun K hK => ?_
                    simp only [go_sem, ↓reduceIte, Nat.reduceEqDiff, Nat.reduceAdd, c50, e38]
                    apply hK
                    simp only [thenQ_normal]
                    refine ⟨c35, Nat.lt_succ_self _, (IntKind.i64.wrap (v33 + (1 : Int))), hy34, ?_⟩
                    simp only [go_sem, ↓reduceIte, Nat.reduceEqDiff, e38]
                · replace hy34 := ite_f c39 hy34
                  refine SW_exit ?_
                  try simp only [thenQ_exit, blockQ_exit, ↓reduceIte, thenQ_normal]
                  obtain rfl := some_eq hy34
                  simp only [Sum.elim_inl] at h
                  refine SW_seq ?_
                  refine SW_reg fun K hK => ?_
                  simp only [go_sem, Nat.reduceAdd, c39]
                  apply hK
                  simp only [thenQ_normal]
                  refine SW_ret ?_
                  try simp only []
                  obtain rfl := some_eq h
                  refine ⟨by first | exact .inl rfl | exact .inl trivial | exact .inr rfl | exact .inr trivial, ?_⟩
                  simp only [go_sem, ↓reduceIte, e38]

end Go.Proofs.YtolhahlnccekcaaDoor.Abs
