/-
  A walk: texts, each with a line's end.
-/
import Derived.Test.YtolhahlnccekcaaDoorPwGMm
import Derived.Test.YtolhahlnccekcaaDoorPwSv5
namespace Go.Proofs.YtolhahlnccekcaaDoor.Abs
open Go.RowKit
set_option linter.unusedVariables false
set_option linter.unusedSimpArgs false
attribute [go_sem] List.map_take List.map_drop
theorem zT_bld : zT Tryd.prog 145 = some (.agg #[.pointer none, .slice none 0 0]) := by kernel_rfl
set_option maxRecDepth 100000 in
theorem several_sc {f : T_parse_Node → Option Str} {q : Pa} {m : M} {l : List T_parse_Node} {r : Str} (ht : ∀ x y, f x = some y → ∀ q' m', m'.gl = m.gl → SC Tryd.prog 34 [.agg (T_parse_Node.C x)] q' m' (fun v m'' => v = .lit (.string (bs y)) ∧ m'' = m')) (h : severalL f l [] = some r) :
    SC Tryd.prog 64 [.list .none (l.map T_parse_Node.C)] q m (fun v m' => v = .lit (.string (bs r)) ∧ m' = m) := by
  refine SC_raw Tryd.func64 rfl (fun xs w => Tryd.call64 xs w) Tryd.ntmps64 (congrArg Array.toList Tryd.results64) ?_
  intro c0 a0 w0 h0 hd0
  refine wp_seq ?_
  refine h0.reg rfl fun K hK => ?_
  simp only [go_sem, ↓reduceIte, Nat.reduceEqDiff, Nat.reduceAdd, Nat.reduceSub, Nat.reduceMul, Nat.reduceLT, Nat.reduceLeDiff, Nat.reduceBEq, Nat.reduceBNe, reduceCtorEq, Nat.zero_ne_one, Nat.one_ne_zero, List.map_cons, List.map_nil, List.toList_toArray, Option.map_some, Option.map_none, List.nil_append, List.append_nil, List.cons_append, true_and, and_true, List.drop_succ_cons, List.drop_zero, List.take_succ_cons, List.take_zero, List.set_cons_zero, List.set_cons_succ, List.length_cons, List.length_nil, List.length_map, List.getElem?_cons_zero, List.getElem?_cons_succ, List.getElem?_map, List.forall_mem_cons, List.not_mem_nil, false_implies, implies_true, Bool.not_true, Bool.not_false, beq_self_eq_true, Bool.or_true, Bool.true_or, Bool.and_true, Bool.true_and]
  refine hK _ _ _ fun c1 a1 w1 h1 => ?_
  show Code.wp _ _ _ _ _
  refine wp_seq ?_
  refine wp_region_list ?_
  refine wpList_plain rfl fun K hK => ?_
  unfold Oper.wp
  simp only [execOp, Instr.alloc, newVar, newRow, run_zT zT_bld, Sem.run_bind, Sem.run_pure, Result.andThen_ok]
  refine hK _ _ ?_
  clear hK
  show Code.wp _ _ _ (a1.put (some 3) (.pointer (some ⟨w1.heap.size, 0, none⟩))) (w1.alloc (.cells #[.pointer none, .slice none 0 0] 145 (0, 0)))
  have h2 := At.new (U := fun _ => False) h1.rep h1.env h1.ext h1.fr (fun _ h => h.elim) h1.df (d := some 3) (by intro i hi; cases hi; decide)
  generalize a1.put (some 3) (.pointer (some ⟨w1.heap.size, 0, none⟩)) = a2 at h2 ⊢
  generalize w1.alloc (.cells #[.pointer none, .slice none 0 0] 145 (0, 0)) = w2 at h2 ⊢
  generalize w1.heap.size = b at h2
  refine wp_seq ?_
  refine wp_seq ?_
  refine h2.reg suf_self (fun _ h => h.elim) (by rfl) fun K hK => ?_
  simp only [go_sem, ↓reduceIte, Nat.reduceEqDiff, Nat.reduceAdd, Nat.reduceSub, Nat.reduceMul, Nat.reduceLT, Nat.reduceLeDiff, Nat.reduceBEq, Nat.reduceBNe, reduceCtorEq, Nat.zero_ne_one, Nat.one_ne_zero, List.map_cons, List.map_nil, List.toList_toArray, Option.map_some, Option.map_none, List.nil_append, List.append_nil, List.cons_append, true_and, and_true, List.drop_succ_cons, List.drop_zero, List.take_succ_cons, List.take_zero, List.set_cons_zero, List.set_cons_succ, List.length_cons, List.length_nil, List.length_map, List.getElem?_cons_zero, List.getElem?_cons_succ, List.getElem?_map, List.forall_mem_cons, List.not_mem_nil, false_implies, implies_true, Bool.not_true, Bool.not_false, beq_self_eq_true, Bool.or_true, Bool.true_or, Bool.and_true, Bool.true_and]
  refine hK _ _ _ fun c3 a3 w3 h3 => ?_
  clear hK
  show Code.wp _ _ _ _ _
  refine wp_block ?_
  refine wp_loop_rounds (l.length + 1) ?_
  refine rounds_list (fun rest a w => ∃ (i v : Nat) (S : Str) (k : Nat) (E : Env) (m' : M) (c : Conc), v + rest.length = l.length ∧ l.drop v = rest ∧ severalL f rest S = some r ∧ v ≤ S.length ∧
      At 18 q c0 m w0 a0 b S (UL 4 i q) (i :: 4 :: q) 0 E m' c a w ∧ E 3 = .lit (.pointer (some ⟨b, 0, none⟩)) ∧ E 6 = .list .none (l.map T_parse_Node.C) ∧ E 7 = .lit (.int .i64 (l.length : Int)) ∧ E 8 = .lit (.int .i64 (v : Int)) ∧ m'.gl = m.gl ∧ m.back q m' = m) ?_ ?_ l _ _ ?_
  · rintro x rest a w ⟨i, v, S, k, E, m', c, hv, hdr, hs, hvS, h4, e3, e6, e7, e8, hg, hb⟩
    have hvl : (v : Int) < (l.length : Int) := by simp at hv; omega
    obtain ⟨y, hy, hs⟩ := bind_some hs
    obtain ⟨hn, hs⟩ := need_some hs
    have hlx : l[v]? = some x := by
      have := congrArg List.head? hdr
      simpa [List.head?_drop] using this
    refine wp_seq ?_
    refine h4.reg (suf_cons (suf_cons suf_self)) (fun _ h => h.off) (by rfl) fun K hK => ?_
    simp only [go_sem, ↓reduceIte, Nat.reduceEqDiff, Nat.reduceAdd, Nat.reduceSub, Nat.reduceMul, Nat.reduceLT, Nat.reduceLeDiff, Nat.reduceBEq, Nat.reduceBNe, reduceCtorEq, Nat.zero_ne_one, Nat.one_ne_zero, List.map_cons, List.map_nil, List.toList_toArray, Option.map_some, Option.map_none, List.nil_append, List.append_nil, List.cons_append, true_and, and_true, List.drop_succ_cons, List.drop_zero, List.take_succ_cons, List.take_zero, List.set_cons_zero, List.set_cons_succ, List.length_cons, List.length_nil, List.length_map, List.getElem?_cons_zero, List.getElem?_cons_succ, List.getElem?_map, List.forall_mem_cons, List.not_mem_nil, false_implies, implies_true, Bool.not_true, Bool.not_false, beq_self_eq_true, Bool.or_true, Bool.true_or, Bool.and_true, Bool.true_and, e3, e6, e7, e8]
    refine hK _ _ _ fun c5 a5 w5 h5 => ?_
    clear hK
    show Code.wp _ _ _ _ _
    refine wp_seq ?_
    refine wp_cond (t := true) (h5.ev (by simp only [go_sem, ↓reduceIte, Nat.reduceEqDiff, Nat.reduceAdd, Nat.reduceSub, Nat.reduceMul, Nat.reduceLT, Nat.reduceLeDiff, Nat.reduceBEq, Nat.reduceBNe, reduceCtorEq, Nat.zero_ne_one, Nat.one_ne_zero, List.map_cons, List.map_nil, List.toList_toArray, Option.map_some, Option.map_none, List.nil_append, List.append_nil, List.cons_append, true_and, and_true, List.drop_succ_cons, List.drop_zero, List.take_succ_cons, List.take_zero, List.set_cons_zero, List.set_cons_succ, List.length_cons, List.length_nil, List.length_map, List.getElem?_cons_zero, List.getElem?_cons_succ, List.getElem?_map, List.forall_mem_cons, List.not_mem_nil, false_implies, implies_true, Bool.not_true, Bool.not_false, beq_self_eq_true, Bool.or_true, Bool.true_or, Bool.and_true, Bool.true_and]; simp [hvl])) ?_
    rw [if_pos rfl]
    refine wp_skip ?_
    show Code.wp _ _ _ _ _
    refine wp_seq ?_
    refine wp_block ?_
    refine wp_seq ?_
    refine h5.reg (suf_cons (suf_cons suf_self)) (fun _ h => h.off) (by rfl) fun K hK => ?_
    simp only [go_sem, ↓reduceIte, Nat.reduceEqDiff, Nat.reduceAdd, Nat.reduceSub, Nat.reduceMul, Nat.reduceLT, Nat.reduceLeDiff, Nat.reduceBEq, Nat.reduceBNe, reduceCtorEq, Nat.zero_ne_one, Nat.one_ne_zero, List.map_cons, List.map_nil, List.toList_toArray, Option.map_some, Option.map_none, List.nil_append, List.append_nil, List.cons_append, true_and, and_true, List.drop_succ_cons, List.drop_zero, List.take_succ_cons, List.take_zero, List.set_cons_zero, List.set_cons_succ, List.length_cons, List.length_nil, List.length_map, List.getElem?_cons_zero, List.getElem?_cons_succ, List.getElem?_map, List.forall_mem_cons, List.not_mem_nil, false_implies, implies_true, Bool.not_true, Bool.not_false, beq_self_eq_true, Bool.or_true, Bool.true_or, Bool.and_true, Bool.true_and, e3, e6, e7, e8, hvl, hlx]
    refine hK _ _ _ fun c6 a6 w6 h6 => ?_
    clear hK
    show Code.wp _ _ _ _ _
    refine h6.regs (suf_cons (suf_cons suf_self)) (fun _ h => h.off) 3 (by rfl) fun K hK => ?_
    simp only [go_sem, ↓reduceIte, Nat.reduceEqDiff, Nat.reduceAdd, Nat.reduceSub, Nat.reduceMul, Nat.reduceLT, Nat.reduceLeDiff, Nat.reduceBEq, Nat.reduceBNe, reduceCtorEq, Nat.zero_ne_one, Nat.one_ne_zero, List.map_cons, List.map_nil, List.toList_toArray, Option.map_some, Option.map_none, List.nil_append, List.append_nil, List.cons_append, true_and, and_true, List.drop_succ_cons, List.drop_zero, List.take_succ_cons, List.take_zero, List.set_cons_zero, List.set_cons_succ, List.length_cons, List.length_nil, List.length_map, List.getElem?_cons_zero, List.getElem?_cons_succ, List.getElem?_map, List.forall_mem_cons, List.not_mem_nil, false_implies, implies_true, Bool.not_true, Bool.not_false, beq_self_eq_true, Bool.or_true, Bool.true_or, Bool.and_true, Bool.true_and, e3, e6, e7, e8]
    have htx := ht x y hy (6 :: i :: 4 :: q) (m'.set (3 :: i :: 4 :: q) (T_parse_Node.C x)) hg
    rw [T_parse_Node.C_eq] at htx
    refine SC.by_ htx ?_
    simp only [go_sem, ↓reduceIte, Nat.reduceEqDiff, Nat.reduceAdd, Nat.reduceSub, Nat.reduceMul, Nat.reduceLT, Nat.reduceLeDiff, Nat.reduceBEq, Nat.reduceBNe, reduceCtorEq, Nat.zero_ne_one, Nat.one_ne_zero, List.map_cons, List.map_nil, List.toList_toArray, Option.map_some, Option.map_none, List.nil_append, List.append_nil, List.cons_append, true_and, and_true, List.drop_succ_cons, List.drop_zero, List.take_succ_cons, List.take_zero, List.set_cons_zero, List.set_cons_succ, List.length_cons, List.length_nil, List.length_map, List.getElem?_cons_zero, List.getElem?_cons_succ, List.getElem?_map, List.forall_mem_cons, List.not_mem_nil, false_implies, implies_true, Bool.not_true, Bool.not_false, beq_self_eq_true, Bool.or_true, Bool.true_or, Bool.and_true, Bool.true_and, e3, e6, e7, e8]
    refine ⟨by omega, hK _ _ _ fun c7 a7 w7 h7 => ?_⟩
    clear hK
    have k3 : a7.tmps.getD 3 undef = _ := h7.ev (t := 3) (v := .pointer (some ⟨b, 0, none⟩)) (by simp only [go_sem, ↓reduceIte, Nat.reduceEqDiff, Nat.reduceAdd, Nat.reduceSub, Nat.reduceMul, Nat.reduceLT, Nat.reduceLeDiff, Nat.reduceBEq, Nat.reduceBNe, reduceCtorEq, Nat.zero_ne_one, Nat.one_ne_zero, List.map_cons, List.map_nil, List.toList_toArray, Option.map_some, Option.map_none, List.nil_append, List.append_nil, List.cons_append, true_and, and_true, List.drop_succ_cons, List.drop_zero, List.take_succ_cons, List.take_zero, List.set_cons_zero, List.set_cons_succ, List.length_cons, List.length_nil, List.length_map, List.getElem?_cons_zero, List.getElem?_cons_succ, List.getElem?_map, List.forall_mem_cons, List.not_mem_nil, false_implies, implies_true, Bool.not_true, Bool.not_false, beq_self_eq_true, Bool.or_true, Bool.true_or, Bool.and_true, Bool.true_and, e3])
    have k14 : a7.tmps.getD 14 undef = _ := h7.ev (t := 14) (v := .string (bs (y ++ [10]))) (by simp only [go_sem, ↓reduceIte, Nat.reduceEqDiff, Nat.reduceAdd, Nat.reduceSub, Nat.reduceMul, Nat.reduceLT, Nat.reduceLeDiff, Nat.reduceBEq, Nat.reduceBNe, reduceCtorEq, Nat.zero_ne_one, Nat.one_ne_zero, List.map_cons, List.map_nil, List.toList_toArray, Option.map_some, Option.map_none, List.nil_append, List.append_nil, List.cons_append, true_and, and_true, List.drop_succ_cons, List.drop_zero, List.take_succ_cons, List.take_zero, List.set_cons_zero, List.set_cons_succ, List.length_cons, List.length_nil, List.length_map, List.getElem?_cons_zero, List.getElem?_cons_succ, List.getElem?_map, List.forall_mem_cons, List.not_mem_nil, false_implies, implies_true, Bool.not_true, Bool.not_false, beq_self_eq_true, Bool.or_true, Bool.true_or, Bool.and_true, Bool.true_and])
    refine wpList_call rfl (f := 94) (xs := #[.pointer (some ⟨b, 0, none⟩), .string (bs (y ++ [10]))]) ?_ ?_
    · simp only [execOp, resolve, Deferred.ofValue, Sem.run_bind, Sem.run_pure, Result.andThen_ok, invoke, Act.eval, List.map_toArray, List.map_cons, List.map_nil]
      rw [k3, k14]
      exact Tryd.call94 _ _
    refine (h7.write (y ++ [10]) (by simp only [List.length_append, List.length_cons, List.length_nil]; omega) (d := some 15) (by intro i hi; cases hi; decide)).mono ?_
    rintro e w8 ⟨x', rfl, h8⟩
    refine ⟨x', rfl, ?_⟩
    show Code.wp _ _ _ _ _
    refine h8.reg (suf_cons (suf_cons suf_self)) (fun _ h => h.off) (by rfl) fun K hK => ?_
    simp only [go_sem, ↓reduceIte, Nat.reduceEqDiff, Nat.reduceAdd, Nat.reduceSub, Nat.reduceMul, Nat.reduceLT, Nat.reduceLeDiff, Nat.reduceBEq, Nat.reduceBNe, reduceCtorEq, Nat.zero_ne_one, Nat.one_ne_zero, List.map_cons, List.map_nil, List.toList_toArray, Option.map_some, Option.map_none, List.nil_append, List.append_nil, List.cons_append, true_and, and_true, List.drop_succ_cons, List.drop_zero, List.take_succ_cons, List.take_zero, List.set_cons_zero, List.set_cons_succ, List.length_cons, List.length_nil, List.length_map, List.getElem?_cons_zero, List.getElem?_cons_succ, List.getElem?_map, List.forall_mem_cons, List.not_mem_nil, false_implies, implies_true, Bool.not_true, Bool.not_false, beq_self_eq_true, Bool.or_true, Bool.true_or, Bool.and_true, Bool.true_and, e3, e6, e7, e8]
    refine hK _ _ _ fun c9 a9 w9 h9 => ?_
    clear hK
    refine ⟨i + 1, v + 1, S ++ (y ++ [10]), 0, _, _, c9, by simp at hv; omega, ?_, hs, ?_, h9.next, by simp only [go_sem, ↓reduceIte, Nat.reduceEqDiff, Nat.reduceAdd, Nat.reduceSub, Nat.reduceMul, Nat.reduceLT, Nat.reduceLeDiff, Nat.reduceBEq, Nat.reduceBNe, reduceCtorEq, Nat.zero_ne_one, Nat.one_ne_zero, List.map_cons, List.map_nil, List.toList_toArray, Option.map_some, Option.map_none, List.nil_append, List.append_nil, List.cons_append, true_and, and_true, List.drop_succ_cons, List.drop_zero, List.take_succ_cons, List.take_zero, List.set_cons_zero, List.set_cons_succ, List.length_cons, List.length_nil, List.length_map, List.getElem?_cons_zero, List.getElem?_cons_succ, List.getElem?_map, List.forall_mem_cons, List.not_mem_nil, false_implies, implies_true, Bool.not_true, Bool.not_false, beq_self_eq_true, Bool.or_true, Bool.true_or, Bool.and_true, Bool.true_and, e3], by simp only [go_sem, ↓reduceIte, Nat.reduceEqDiff, Nat.reduceAdd, Nat.reduceSub, Nat.reduceMul, Nat.reduceLT, Nat.reduceLeDiff, Nat.reduceBEq, Nat.reduceBNe, reduceCtorEq, Nat.zero_ne_one, Nat.one_ne_zero, List.map_cons, List.map_nil, List.toList_toArray, Option.map_some, Option.map_none, List.nil_append, List.append_nil, List.cons_append, true_and, and_true, List.drop_succ_cons, List.drop_zero, List.take_succ_cons, List.take_zero, List.set_cons_zero, List.set_cons_succ, List.length_cons, List.length_nil, List.length_map, List.getElem?_cons_zero, List.getElem?_cons_succ, List.getElem?_map, List.forall_mem_cons, List.not_mem_nil, false_implies, implies_true, Bool.not_true, Bool.not_false, beq_self_eq_true, Bool.or_true, Bool.true_or, Bool.and_true, Bool.true_and, e6], by simp only [go_sem, ↓reduceIte, Nat.reduceEqDiff, Nat.reduceAdd, Nat.reduceSub, Nat.reduceMul, Nat.reduceLT, Nat.reduceLeDiff, Nat.reduceBEq, Nat.reduceBNe, reduceCtorEq, Nat.zero_ne_one, Nat.one_ne_zero, List.map_cons, List.map_nil, List.toList_toArray, Option.map_some, Option.map_none, List.nil_append, List.append_nil, List.cons_append, true_and, and_true, List.drop_succ_cons, List.drop_zero, List.take_succ_cons, List.take_zero, List.set_cons_zero, List.set_cons_succ, List.length_cons, List.length_nil, List.length_map, List.getElem?_cons_zero, List.getElem?_cons_succ, List.getElem?_map, List.forall_mem_cons, List.not_mem_nil, false_implies, implies_true, Bool.not_true, Bool.not_false, beq_self_eq_true, Bool.or_true, Bool.true_or, Bool.and_true, Bool.true_and, e7], ?_, hg, ?_⟩
    · rw [← List.drop_drop, hdr]; rfl
    · simp only [List.length_append, List.length_cons, List.length_nil]; omega
    · simp only [go_sem, ↓reduceIte, Nat.reduceEqDiff, Nat.reduceAdd, Nat.reduceSub, Nat.reduceMul, Nat.reduceLT, Nat.reduceLeDiff, Nat.reduceBEq, Nat.reduceBNe, reduceCtorEq, Nat.zero_ne_one, Nat.one_ne_zero, List.map_cons, List.map_nil, List.toList_toArray, Option.map_some, Option.map_none, List.nil_append, List.append_nil, List.cons_append, true_and, and_true, List.drop_succ_cons, List.drop_zero, List.take_succ_cons, List.take_zero, List.set_cons_zero, List.set_cons_succ, List.length_cons, List.length_nil, List.length_map, List.getElem?_cons_zero, List.getElem?_cons_succ, List.getElem?_map, List.forall_mem_cons, List.not_mem_nil, false_implies, implies_true, Bool.not_true, Bool.not_false, beq_self_eq_true, Bool.or_true, Bool.true_or, Bool.and_true, Bool.true_and]
      rw [show IntKind.i64.wrap ((v : Int) + 1) = ((v + 1 : Nat) : Int) by rw [IntKind.wrap_i64]; omega]
    · exact (back_set (suf_cons (suf_cons (suf_cons suf_self)))).trans hb
  · rintro a w ⟨i, v, S, k, E, m', c, hv, hdr, hs, hvS, h4, e3, e6, e7, e8, hg, hb⟩
    refine wp_seq ?_
    refine h4.reg (suf_cons (suf_cons suf_self)) (fun _ h => h.off) (by rfl) fun K hK => ?_
    simp only [go_sem, ↓reduceIte, Nat.reduceEqDiff, Nat.reduceAdd, Nat.reduceSub, Nat.reduceMul, Nat.reduceLT, Nat.reduceLeDiff, Nat.reduceBEq, Nat.reduceBNe, reduceCtorEq, Nat.zero_ne_one, Nat.one_ne_zero, List.map_cons, List.map_nil, List.toList_toArray, Option.map_some, Option.map_none, List.nil_append, List.append_nil, List.cons_append, true_and, and_true, List.drop_succ_cons, List.drop_zero, List.take_succ_cons, List.take_zero, List.set_cons_zero, List.set_cons_succ, List.length_cons, List.length_nil, List.length_map, List.getElem?_cons_zero, List.getElem?_cons_succ, List.getElem?_map, List.forall_mem_cons, List.not_mem_nil, false_implies, implies_true, Bool.not_true, Bool.not_false, beq_self_eq_true, Bool.or_true, Bool.true_or, Bool.and_true, Bool.true_and, e3, e6, e7, e8]
    refine hK _ _ _ fun c5 a5 w5 h5 => ?_
    clear hK
    show Code.wp _ _ _ _ _
    have hvl : ¬ (v : Int) < (l.length : Int) := by simp at hv; omega
    refine wp_seq ?_
    refine wp_cond (t := false) (h5.ev (by simp only [go_sem, ↓reduceIte, Nat.reduceEqDiff, Nat.reduceAdd, Nat.reduceSub, Nat.reduceMul, Nat.reduceLT, Nat.reduceLeDiff, Nat.reduceBEq, Nat.reduceBNe, reduceCtorEq, Nat.zero_ne_one, Nat.one_ne_zero, List.map_cons, List.map_nil, List.toList_toArray, Option.map_some, Option.map_none, List.nil_append, List.append_nil, List.cons_append, true_and, and_true, List.drop_succ_cons, List.drop_zero, List.take_succ_cons, List.take_zero, List.set_cons_zero, List.set_cons_succ, List.length_cons, List.length_nil, List.length_map, List.getElem?_cons_zero, List.getElem?_cons_succ, List.getElem?_map, List.forall_mem_cons, List.not_mem_nil, false_implies, implies_true, Bool.not_true, Bool.not_false, beq_self_eq_true, Bool.or_true, Bool.true_or, Bool.and_true, Bool.true_and]; simp [hvl])) ?_
    rw [if_neg (by decide)]
    refine wp_exit ?_
    show Code.wp _ _ _ _ _
    refine wp_seq ?_
    refine h5.leave.regs suf_self (fun _ h => h.elim) 0 (by rfl) fun K hK => ?_
    simp only [go_sem, ↓reduceIte, Nat.reduceEqDiff, Nat.reduceAdd, Nat.reduceSub, Nat.reduceMul, Nat.reduceLT, Nat.reduceLeDiff, Nat.reduceBEq, Nat.reduceBNe, reduceCtorEq, Nat.zero_ne_one, Nat.one_ne_zero, List.map_cons, List.map_nil, List.toList_toArray, Option.map_some, Option.map_none, List.nil_append, List.append_nil, List.cons_append, true_and, and_true, List.drop_succ_cons, List.drop_zero, List.take_succ_cons, List.take_zero, List.set_cons_zero, List.set_cons_succ, List.length_cons, List.length_nil, List.length_map, List.getElem?_cons_zero, List.getElem?_cons_succ, List.getElem?_map, List.forall_mem_cons, List.not_mem_nil, false_implies, implies_true, Bool.not_true, Bool.not_false, beq_self_eq_true, Bool.or_true, Bool.true_or, Bool.and_true, Bool.true_and, e3, e6, e7, e8]
    refine hK _ _ _ fun c6 a6 w6 h6 => ?_
    clear hK
    have k3 : a6.tmps.getD 3 undef = _ := h6.ev (t := 3) (v := .pointer (some ⟨b, 0, none⟩)) (by simp only [go_sem, ↓reduceIte, Nat.reduceEqDiff, Nat.reduceAdd, Nat.reduceSub, Nat.reduceMul, Nat.reduceLT, Nat.reduceLeDiff, Nat.reduceBEq, Nat.reduceBNe, reduceCtorEq, Nat.zero_ne_one, Nat.one_ne_zero, List.map_cons, List.map_nil, List.toList_toArray, Option.map_some, Option.map_none, List.nil_append, List.append_nil, List.cons_append, true_and, and_true, List.drop_succ_cons, List.drop_zero, List.take_succ_cons, List.take_zero, List.set_cons_zero, List.set_cons_succ, List.length_cons, List.length_nil, List.length_map, List.getElem?_cons_zero, List.getElem?_cons_succ, List.getElem?_map, List.forall_mem_cons, List.not_mem_nil, false_implies, implies_true, Bool.not_true, Bool.not_false, beq_self_eq_true, Bool.or_true, Bool.true_or, Bool.and_true, Bool.true_and, e3])
    refine wpList_call rfl (f := 95) (xs := #[.pointer (some ⟨b, 0, none⟩)]) ?_ ?_
    · simp only [execOp, resolve, Deferred.ofValue, Sem.run_bind, Sem.run_pure, Result.andThen_ok, invoke, Act.eval, List.map_toArray, List.map_cons, List.map_nil]
      rw [k3]
      exact Tryd.call95 _ _
    refine (h6.told (d := some 17) (by intro i hi; cases hi; decide)).mono ?_
    rintro e w7 ⟨x', rfl, rfl, h7⟩
    refine ⟨_, rfl, ?_⟩
    refine h7.ops (by rfl) fun K hK => ?_
    simp only [go_sem, ↓reduceIte, Nat.reduceEqDiff, Nat.reduceAdd, Nat.reduceSub, Nat.reduceMul, Nat.reduceLT, Nat.reduceLeDiff, Nat.reduceBEq, Nat.reduceBNe, reduceCtorEq, Nat.zero_ne_one, Nat.one_ne_zero, List.map_cons, List.map_nil, List.toList_toArray, Option.map_some, Option.map_none, List.nil_append, List.append_nil, List.cons_append, true_and, and_true, List.drop_succ_cons, List.drop_zero, List.take_succ_cons, List.take_zero, List.set_cons_zero, List.set_cons_succ, List.length_cons, List.length_nil, List.length_map, List.getElem?_cons_zero, List.getElem?_cons_succ, List.getElem?_map, List.forall_mem_cons, List.not_mem_nil, false_implies, implies_true, Bool.not_true, Bool.not_false, beq_self_eq_true, Bool.or_true, Bool.true_or, Bool.and_true, Bool.true_and, e3, e6, e7, e8]
    refine hK _ _ _ fun c8 a8 w8 h8 => ?_
    clear hK
    refine wp_ret ?_
    obtain rfl := some_eq hs
    exact ⟨.inl rfl, h8.df.trans hd0, c8, _, _, _, rfl, ⟨by simp only [go_sem, ↓reduceIte, Nat.reduceEqDiff, Nat.reduceAdd, Nat.reduceSub, Nat.reduceMul, Nat.reduceLT, Nat.reduceLeDiff, Nat.reduceBEq, Nat.reduceBNe, reduceCtorEq, Nat.zero_ne_one, Nat.one_ne_zero, List.map_cons, List.map_nil, List.toList_toArray, Option.map_some, Option.map_none, List.nil_append, List.append_nil, List.cons_append, true_and, and_true, List.drop_succ_cons, List.drop_zero, List.take_succ_cons, List.take_zero, List.set_cons_zero, List.set_cons_succ, List.length_cons, List.length_nil, List.length_map, List.getElem?_cons_zero, List.getElem?_cons_succ, List.getElem?_map, List.forall_mem_cons, List.not_mem_nil, false_implies, implies_true, Bool.not_true, Bool.not_false, beq_self_eq_true, Bool.or_true, Bool.true_or, Bool.and_true, Bool.true_and], hb⟩, h8.rep, h8.ext, h8.env⟩
  · exact ⟨0, 0, [], 0, _, _, _, by simp, rfl, h, Nat.le_refl _, h3.enter, by simp only [go_sem, ↓reduceIte, Nat.reduceEqDiff, Nat.reduceAdd, Nat.reduceSub, Nat.reduceMul, Nat.reduceLT, Nat.reduceLeDiff, Nat.reduceBEq, Nat.reduceBNe, reduceCtorEq, Nat.zero_ne_one, Nat.one_ne_zero, List.map_cons, List.map_nil, List.toList_toArray, Option.map_some, Option.map_none, List.nil_append, List.append_nil, List.cons_append, true_and, and_true, List.drop_succ_cons, List.drop_zero, List.take_succ_cons, List.take_zero, List.set_cons_zero, List.set_cons_succ, List.length_cons, List.length_nil, List.length_map, List.getElem?_cons_zero, List.getElem?_cons_succ, List.getElem?_map, List.forall_mem_cons, List.not_mem_nil, false_implies, implies_true, Bool.not_true, Bool.not_false, beq_self_eq_true, Bool.or_true, Bool.true_or, Bool.and_true, Bool.true_and], by simp only [go_sem, ↓reduceIte, Nat.reduceEqDiff, Nat.reduceAdd, Nat.reduceSub, Nat.reduceMul, Nat.reduceLT, Nat.reduceLeDiff, Nat.reduceBEq, Nat.reduceBNe, reduceCtorEq, Nat.zero_ne_one, Nat.one_ne_zero, List.map_cons, List.map_nil, List.toList_toArray, Option.map_some, Option.map_none, List.nil_append, List.append_nil, List.cons_append, true_and, and_true, List.drop_succ_cons, List.drop_zero, List.take_succ_cons, List.take_zero, List.set_cons_zero, List.set_cons_succ, List.length_cons, List.length_nil, List.length_map, List.getElem?_cons_zero, List.getElem?_cons_succ, List.getElem?_map, List.forall_mem_cons, List.not_mem_nil, false_implies, implies_true, Bool.not_true, Bool.not_false, beq_self_eq_true, Bool.or_true, Bool.true_or, Bool.and_true, Bool.true_and], by simp only [go_sem, ↓reduceIte, Nat.reduceEqDiff, Nat.reduceAdd, Nat.reduceSub, Nat.reduceMul, Nat.reduceLT, Nat.reduceLeDiff, Nat.reduceBEq, Nat.reduceBNe, reduceCtorEq, Nat.zero_ne_one, Nat.one_ne_zero, List.map_cons, List.map_nil, List.toList_toArray, Option.map_some, Option.map_none, List.nil_append, List.append_nil, List.cons_append, true_and, and_true, List.drop_succ_cons, List.drop_zero, List.take_succ_cons, List.take_zero, List.set_cons_zero, List.set_cons_succ, List.length_cons, List.length_nil, List.length_map, List.getElem?_cons_zero, List.getElem?_cons_succ, List.getElem?_map, List.forall_mem_cons, List.not_mem_nil, false_implies, implies_true, Bool.not_true, Bool.not_false, beq_self_eq_true, Bool.or_true, Bool.true_or, Bool.and_true, Bool.true_and], by simp only [go_sem, ↓reduceIte, Nat.reduceEqDiff, Nat.reduceAdd, Nat.reduceSub, Nat.reduceMul, Nat.reduceLT, Nat.reduceLeDiff, Nat.reduceBEq, Nat.reduceBNe, reduceCtorEq, Nat.zero_ne_one, Nat.one_ne_zero, List.map_cons, List.map_nil, List.toList_toArray, Option.map_some, Option.map_none, List.nil_append, List.append_nil, List.cons_append, true_and, and_true, List.drop_succ_cons, List.drop_zero, List.take_succ_cons, List.take_zero, List.set_cons_zero, List.set_cons_succ, List.length_cons, List.length_nil, List.length_map, List.getElem?_cons_zero, List.getElem?_cons_succ, List.getElem?_map, List.forall_mem_cons, List.not_mem_nil, false_implies, implies_true, Bool.not_true, Bool.not_false, beq_self_eq_true, Bool.or_true, Bool.true_or, Bool.and_true, Bool.true_and], rfl, back_self _ _⟩
end Go.Proofs.YtolhahlnccekcaaDoor.Abs
