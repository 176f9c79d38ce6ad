/-
  remontoirelaw10.ParseSame: its model and its walk.
-/
import Derived.Test.YtolhahlnccekcaaDoorPsV3
import Derived.Test.YtolhahlnccekcaaDoorPsV4
import Derived.Test.YtolhahlnccekcaaDoorPsGMw3
namespace Go.Proofs.YtolhahlnccekcaaDoor.Abs
open Go.RowKit
set_option linter.unusedVariables false
set_option linter.unusedSimpArgs false
set_option maxRecDepth 10000
def eqN (x y : T_remontoireref10_N) : Bool := (x.Kind_ == y.Kind_) && ((x.At_ == y.At_) && ((decide (x.Text_ = y.Text_)) && ((x.Num_ == y.Num_) && (x.Kids_ == y.Kids_))))
def Psame_l1 (mm : List T_remontoireref10_N) (k : Int) : Nat → List T_remontoireref10_N → Int → Bool → Option (List T_remontoireref10_N × Bool)
  | 0, _, _, _ => none
  | c + 1, l, i, s =>
    if (decide (i < k)) = true then
      (idxL mm i).bind fun x =>
      (idxL l i).bind fun y =>
      Psame_l1 mm k c (l.set i.toNat { y with At_ := x.At_ }) (IntKind.i64.wrap (i + (1 : Int))) (s && eqN { y with At_ := x.At_ } x)
    else
      some (l, s)
def remontoirelaw10_ParseSame (n : Nat) (a0 : Str) (a1 : Str) : Option Bool :=
  (remontoirelaw10_anchor n).bind fun x1 =>
  if (!x1) = true then
    some false
  else
    (if (decide ((2000 : Int) < (a0.length : Int))) = true then
        some true
      else
        some (decide ((2000 : Int) < (a1.length : Int)))).bind fun y4 =>
    if y4 = true then
      some true
    else
      (parse_Parse n a0).bind fun x10 =>
      (parse_Parse n a1).bind fun x13 =>
      (if (x10.2.1 != (0 : Int)) = true then
          some true
        else
          some (x13.2.1 != (0 : Int))).bind fun y26 =>
      if y26 = true then
        some true
      else
        (remontoirelaw10_flat n x10.1 (0 : Int)).bind fun l =>
        (remontoirelaw10_flat n x13.1 (0 : Int)).bind fun mm =>
        (Psame_l1 mm (min (l.length : Int) (mm.length : Int)) n l (0 : Int) ((l.length : Int) == (mm.length : Int))).bind fun z =>
        (parse_Same n x10.1 x13.1).bind fun x =>
        if (x == z.2) = true then
          (parse_Same n x10.1 x10.1).bind fun y => some y
        else
          some false
@[go_sem high] theorem eqT_37_eql {x y : Operand} {C : V → Prop} {a0 b0 : Int} {a1 b1 : Int} {a2 b2 : Str} {a3 b3 : Int} {a4 b4 : Int} : sbin Tryd.prog .eql 37 x y (.agg [.lit (.int .i64 a0), .lit (.int .i64 a1), .lit (.string (bs a2)), .lit (.int .u32 a3), .lit (.int .i64 a4)]) (.agg [.lit (.int .i64 b0), .lit (.int .i64 b1), .lit (.string (bs b2)), .lit (.int .u32 b3), .lit (.int .i64 b4)]) C = C (.lit (.bool (eqN ⟨a0, a1, a2, a3, a4⟩ ⟨b0, b1, b2, b3, b4⟩))) := by
  have h := sbin_sagg (P := Tryd.prog) (T := 37) (x := x) (y := y) (C := C) (xs := [.int .i64 a0, .int .i64 a1, .string (bs a2), .int .u32 a3, .int .i64 a4]) (ys := [.int .i64 b0, .int .i64 b1, .string (bs b2), .int .u32 b3, .int .i64 b4]) (es := [a0 == b0, a1 == b1, bs a2 == bs b2, a3 == b3, a4 == b4]) (by kernel_rfl) (by kernel_rfl) (by kernel_rfl) (by kernel_rfl) (by kernel_rfl)
  simp only [List.map_cons, List.map_nil, List.all_cons, List.all_nil, Bool.and_true, id, bs_beq] at h
  exact h
theorem PAny_step {P : Program} {full : Array Oper} {π : Pa} {k n : Nat} {K : Nat → Env → M → Prop} {listed : Array Bool} {E : Env} {m : M} (l : List Nat) (hr : Region.ready .any full listed = l) (hg : (!l.isEmpty && l.all fun i => match full.toList[i]? with | some o => o.guard.isNone | none => false) = true)
    (h : ∀ i ∈ l, POps P full.toList π (fun _ E' m' => PAny P full π k K n (listed.setIfInBounds i true) E' m') ((full.toList.drop i).take 1) (k + i) E m) : PAny P full π k K (n + 1) listed E m := by
  simp only [Bool.and_eq_true, Bool.not_eq_true', List.all_eq_true] at hg
  refine ⟨fun h0 => ?_, fun i hi => ?_⟩
  · rw [hr] at h0
    rw [h0] at hg
    cases hg.1
  · rw [hr] at hi
    have h1 := hg.2 i hi
    have h2 := h i hi
    cases ho : full.toList[i]? with
    | none => rw [ho] at h1; cases h1
    | some o =>
      rw [ho] at h1
      obtain ⟨h3, h4⟩ := List.getElem?_eq_some_iff.1 ho
      rw [List.drop_eq_getElem_cons h3, List.take_succ_cons, List.take_zero, h4] at h2
      exact ⟨o, by rw [← Array.getElem?_toList]; exact ho, by simpa using h1, h2⟩
theorem suf_ne {j k n : Nat} {q id : Pa} (h : (j :: k :: q) <:+ id) : n :: q ≠ id := by
  rintro rfl
  have := h.length_le
  simp at this
  omega
theorem drop_row {l : List T_remontoireref10_N} {i : Nat} {x : T_remontoireref10_N} (h : l[i]? = some x) (junk : List V) : ((l.map T_remontoireref10_N.C).flatten ++ junk).drop (i * 5) = T_remontoireref10_N.C x ++ (((l.drop (i + 1)).map T_remontoireref10_N.C).flatten ++ junk) := by
  obtain ⟨hi, rfl⟩ := List.getElem?_eq_some_iff.1 h
  have e : l = l.take i ++ l[i] :: l.drop (i + 1) := by rw [← List.drop_eq_getElem_cons hi, List.take_append_drop]
  have hl : ((l.take i).map T_remontoireref10_N.C).flatten.length = i * 5 := by rw [len_Ns, List.length_take]; congr 1; omega
  conv => lhs; rw [e]
  rw [List.map_append, List.flatten_append, List.append_assoc, List.drop_append, hl, Nat.sub_self, List.drop_zero, List.drop_of_length_le (by omega), List.nil_append, List.map_cons, List.flatten_cons, List.append_assoc]
theorem drop_row1 {l : List T_remontoireref10_N} {i : Nat} {x : T_remontoireref10_N} (h : l[i]? = some x) (junk : List V) : ((l.map T_remontoireref10_N.C).flatten ++ junk).drop (i * 5 + 1) = .lit (.int .i64 x.At_) :: .lit (.string (bs x.Text_)) :: .lit (.int .u32 x.Num_) :: .lit (.int .i64 x.Kids_) :: (((l.drop (i + 1)).map T_remontoireref10_N.C).flatten ++ junk) := by
  rw [← List.drop_drop, drop_row h]; rfl
theorem drop_row0 {l : List T_remontoireref10_N} {i : Nat} {x : T_remontoireref10_N} (h : l[i]? = some x) (junk : List V) : ((l.map T_remontoireref10_N.C).flatten ++ junk).drop (i * 5) = .lit (.int .i64 x.Kind_) :: .lit (.int .i64 x.At_) :: .lit (.string (bs x.Text_)) :: .lit (.int .u32 x.Num_) :: .lit (.int .i64 x.Kids_) :: (((l.drop (i + 1)).map T_remontoireref10_N.C).flatten ++ junk) := by
  rw [drop_row h]; rfl
theorem set_row {l : List T_remontoireref10_N} {i : Nat} {x : T_remontoireref10_N} (h : l[i]? = some x) (a : Int) (junk : List V) : ((l.map T_remontoireref10_N.C).flatten ++ junk).set (i * 5 + 1) (.lit (.int .i64 a)) = ((l.set i { x with At_ := a }).map T_remontoireref10_N.C).flatten ++ junk := by
  obtain ⟨hi, rfl⟩ := List.getElem?_eq_some_iff.1 h
  have e : l = l.take i ++ l[i] :: l.drop (i + 1) := by rw [← List.drop_eq_getElem_cons hi, List.take_append_drop]
  have hl : ((l.take i).map T_remontoireref10_N.C).flatten.length = i * 5 := by rw [len_Ns, List.length_take]; congr 1; omega
  have e2 : l.set i { l[i] with At_ := a } = l.take i ++ ({ l[i] with At_ := a } : T_remontoireref10_N) :: l.drop (i + 1) := List.set_eq_take_append_cons_drop.trans (if_pos hi)
  rw [e2]
  conv => lhs; rw [e]
  rw [List.map_append, List.flatten_append, List.map_cons, List.flatten_cons, List.append_assoc, List.append_assoc, List.set_append_right _ _ (by omega), hl, Nat.add_sub_cancel_left, List.map_append, List.flatten_append, List.map_cons, List.flatten_cons, List.append_assoc, List.append_assoc]
  rfl
def remontoirelaw10_ParseSame_C (f : Str → Str → Option Bool) : Prop := ∀ (a0 : Str) (a1 : Str) (r : Bool), f a0 a1 = some r → ∀ (q : Pa) (m : M) (vs : List V), vs.map V.weak1 = [.list .none (byteRows a0), .list .none (byteRows a1)] ∧ m.gl 0 = .eptr [(cA cS g_parse_words)] 0 0 ∧ m.gl 3 = .eptr [(cA cS g_lex_signs)] 0 0 ∧ m.gl 6 = .eptr [(cA (cA cS) g_parse_levels)] 0 0 → SC Tryd.prog 6 vs q m (fun v m' => v = .lit (.bool r) ∧ m' = m)
theorem remontoirelaw10_ParseSame_ok (n : Nat) : remontoirelaw10_ParseSame_C (remontoirelaw10_ParseSame n) := by
  rintro a0 a1 r h q m vs ⟨hv, hg0, hg3, hg6⟩
  refine SC.weak ?_
  rw [hv]
  refine SC_of Tryd.func6 rfl (fun xs w => Tryd.call6 xs w) Tryd.ntmps6 (by kernel_rfl) (congrArg Array.toList Tryd.results6) V.weak (fun _ _ _ => V.weak_ok) ?_
  unfold remontoirelaw10_ParseSame at h
  refine SW_seq ?_
  refine SW_reg fun K hK => ?_
  simp only [go_sem]
  apply hK
  simp only [thenQ_normal]
  refine SW_seq ?_
  refine SW_seq ?_
  obtain ⟨x1, h2, h⟩ := bind_some h
  refine SW_reg fun K hK => ?_
  simp only [go_sem]
  refine SC.by_ (remontoirelaw10_anchor_ok n _ h2 _ _ _ (by simp only [go_sem, hg0, hg3, hg6])) ?_
  simp only [go_sem, ↓reduceIte, Nat.reduceAdd]
  apply hK
  simp only [thenQ_normal]
  refine SW_if (!x1) (by simp only [go_sem, ↓reduceIte]) (fun c3 => ?_) (fun c3 => ?_)
  · replace h := ite_t c3 h
    refine SW_seq ?_
    refine SW_reg fun K hK => ?_
    simp only [go_sem, Nat.reduceAdd, c3]
    apply hK
    simp only [thenQ_normal]
    refine SW_ret ?_
    try simp only [thenQ_ret]
    obtain rfl := some_eq h
    refine ⟨by first | exact .inl rfl | exact .inl trivial | exact .inr rfl | exact .inr trivial, ?_⟩
    simp only [go_sem, ↓reduceIte, back_self]
  · replace h := ite_f c3 h
    refine SW_skip ?_
    try simp only [thenQ_normal]
    refine SW_seq ?_
    refine SW_seq ?_
    obtain ⟨y4, hy4, h⟩ := bind_some h
    refine SW_joinK 11 [] [] rfl (fun E' m' => E' 0 = .list .none (byteRows a0) ∧ E' 1 = .list .none (byteRows a1) ∧ E' 24 = .lit (.bool y4) ∧ m'.gl = m.gl ∧ m.back q m' = m) ?_ ?_
    · rcases bool_or (decide ((2000 : Int) < (a0.length : Int))) with c5 | c5
      · replace hy4 := ite_t c5 hy4
        refine SW_reg fun K hK => ?_
        simp only [go_sem, ↓reduceIte, Nat.reduceEqDiff, Nat.reduceAdd, reduceCtorEq, c3, c5]
        apply hK
        simp only [thenQ_normal]
        obtain rfl := some_eq hy4
        refine ⟨by decide, ?_⟩
        simp only [go_sem, ↓reduceIte, Nat.reduceEqDiff, reduceCtorEq, back_self]
      · replace hy4 := ite_f c5 hy4
        refine SW_reg fun K hK => ?_
        simp only [go_sem, ↓reduceIte, Nat.reduceEqDiff, Nat.reduceAdd, reduceCtorEq, c3, c5]
        apply hK
        simp only [thenQ_normal]
        obtain rfl := some_eq hy4
        refine ⟨by decide, ?_⟩
        simp only [go_sem, ↓reduceIte, Nat.reduceEqDiff, reduceCtorEq, back_self]
    · intro E6 m7 e8 _
      simp only [thenQ_normal]
      refine SW_if y4 (by simp only [go_sem, e8]) (fun c9 => ?_) (fun c9 => ?_)
      · replace h := ite_t c9 h
        refine SW_seq ?_
        refine SW_reg fun K hK => ?_
        simp only [go_sem, Nat.reduceAdd]
        apply hK
        simp only [thenQ_normal]
        refine SW_ret ?_
        try simp only [thenQ_ret]
        obtain rfl := some_eq h
        refine ⟨by first | exact .inl rfl | exact .inl trivial | exact .inr rfl | exact .inr trivial, ?_⟩
        simp only [go_sem, ↓reduceIte, e8]
      · replace h := ite_f c9 h
        refine SW_skip ?_
        try simp only [thenQ_normal]
        refine SW_seq ?_
        obtain ⟨x10, h12, h⟩ := bind_some h
        refine SW_reg fun K hK => ?_
        simp only [go_sem, ↓reduceIte, Nat.reduceAdd, e8]
        refine SC.by_ (parse_Parse_ok n a0 _ h12 _ _ _ (by simp only [go_sem, e8, hg0, hg3, hg6])) ?_
        simp only [go_sem, ↓reduceIte, Nat.reduceEqDiff, Nat.reduceAdd]
        apply hK
        simp only [thenQ_normal]
        refine SW_seq ?_
        obtain ⟨x13, h15, h⟩ := bind_some h
        refine SW_reg fun K hK => ?_
        simp only [go_sem, ↓reduceIte, Nat.reduceEqDiff, Nat.reduceAdd, e8]
        refine SC.by_ (parse_Parse_ok n a1 _ h15 _ _ _ (by simp only [go_sem, e8, hg0, hg3, hg6])) ?_
        simp only [go_sem, ↓reduceIte, Nat.reduceEqDiff, Nat.reduceAdd]
        apply hK
        simp only [thenQ_normal]
        refine SW_seq ?_
        refine SW_seq ?_
        obtain ⟨y26, hy26, h⟩ := bind_some h
        refine SW_joinK 37 [] [] rfl (fun E' m' => E' 5 = .ptr (17 :: q) 0 ∧ E' 8 = .ptr (27 :: q) 0 ∧ E' 42 = .lit (.bool y26) ∧ m'.blk (17 :: q) = some ((T_parse_Node.C x10.1)) ∧ m'.blk (27 :: q) = some ((T_parse_Node.C x13.1)) ∧ m'.gl = m.gl ∧ m.back q m' = m) ?_ ?_
        · rcases bool_or (x10.2.1 != (0 : Int)) with c27 | c27
          · replace hy26 := ite_t c27 hy26
            refine SW_reg fun K hK => ?_
            simp only [go_sem, ↓reduceIte, Nat.reduceEqDiff, Nat.reduceAdd, c27]
            apply hK
            simp only [thenQ_normal]
            obtain rfl := some_eq hy26
            refine ⟨by decide, ?_⟩
            simp only [go_sem, ↓reduceIte, Nat.reduceEqDiff, back_set, back_tokset, e8]
          · replace hy26 := ite_f c27 hy26
            refine SW_reg fun K hK => ?_
            simp only [go_sem, ↓reduceIte, Nat.reduceEqDiff, Nat.reduceAdd, c27]
            apply hK
            simp only [thenQ_normal]
            obtain rfl := some_eq hy26
            refine ⟨by decide, ?_⟩
            simp only [go_sem, ↓reduceIte, Nat.reduceEqDiff, back_set, back_tokset, e8]
        · intro E28 m29 e30 _
          simp only [thenQ_normal]
          refine SW_if y26 (by simp only [go_sem, e30]) (fun c31 => ?_) (fun c31 => ?_)
          · replace h := ite_t c31 h
            refine SW_seq ?_
            refine SW_reg fun K hK => ?_
            simp only [go_sem, Nat.reduceAdd]
            apply hK
            simp only [thenQ_normal]
            refine SW_ret ?_
            try simp only [thenQ_ret]
            obtain rfl := some_eq h
            refine ⟨by first | exact .inl rfl | exact .inl trivial | exact .inr rfl | exact .inr trivial, ?_⟩
            simp only [go_sem, ↓reduceIte, e30]
          · replace h := ite_f c31 h
            refine SW_skip ?_
            try simp only [thenQ_normal]
            obtain ⟨l, hl, h⟩ := bind_some h
            obtain ⟨mm, hmm, h⟩ := bind_some h
            refine SW_seq ?_
            refine SW_fresh fun hfr => ?_
            refine SW_joinK 43 [] [] rfl (fun E' m' => ∃ id1 cap1 junk1 id2 cap2 junk2, E' 5 = .ptr (17 :: q) 0 ∧ E' 8 = .ptr (27 :: q) 0 ∧ E' 11 = .arr id1 0 l.length cap1 ∧ E' 12 = .arr id2 0 mm.length cap2 ∧ m'.gl = m.gl ∧ m.back q m' = m ∧
              m'.blk (17 :: q) = some (T_parse_Node.C x10.1) ∧ m'.blk (27 :: q) = some (T_parse_Node.C x13.1) ∧ m'.blk id1 = some ((l.map T_remontoireref10_N.C).flatten ++ junk1) ∧ m'.blk id2 = some ((mm.map T_remontoireref10_N.C).flatten ++ junk2) ∧
              (∃ j, (j :: 38 :: q) <:+ id1) ∧ (∃ j, (j :: 40 :: q) <:+ id2)) ?_ ?_
            · refine SW_any (by kernel_rfl) ?_
              refine PAny_step [0, 2] (by kernel_rfl) (by kernel_rfl) fun i hi => ?_
              simp only [List.mem_cons, List.not_mem_nil, or_false] at hi
              rcases hi with rfl | rfl
              · simp only [go_sem, ↓reduceIte, Nat.reduceEqDiff, Nat.reduceAdd, List.drop_succ_cons, List.drop_zero, List.take_succ_cons, List.take_zero, e30]
                refine PAny_step [1, 2] (by kernel_rfl) (by kernel_rfl) fun i hi => ?_
                simp only [List.mem_cons, List.not_mem_nil, or_false] at hi
                rcases hi with rfl | rfl
                · simp only [go_sem, ↓reduceIte, Nat.reduceEqDiff, Nat.reduceAdd, List.drop_succ_cons, List.drop_zero, List.take_succ_cons, List.take_zero, e30]
                  refine SC.mono (flatV_ok n x10.1 (0 : Int) _ hl _ _ _ (by simp only [go_sem])) ?_
                  rintro v m' ⟨id1, cap1, junk1, ⟨j1, hs1⟩, rfl, rfl, hp1, hl1, hv1⟩
                  have hn17 : ¬ 17 :: q = id1 := suf_ne hs1
                  have hn27 : ¬ 27 :: q = id1 := suf_ne hs1
                  simp only [go_sem, ↓reduceIte, Nat.reduceEqDiff, Nat.reduceAdd, List.drop_succ_cons, List.drop_zero, List.take_succ_cons, List.take_zero, e30]
                  refine PAny_step [2] (by kernel_rfl) (by kernel_rfl) fun i hi => ?_
                  obtain rfl : i = 2 := by simpa using hi
                  simp only [go_sem, ↓reduceIte, Nat.reduceEqDiff, Nat.reduceAdd, List.drop_succ_cons, List.drop_zero, List.take_succ_cons, List.take_zero, e30, hn17, hn27]
                  refine PAny_step [3] (by kernel_rfl) (by kernel_rfl) fun i hi => ?_
                  obtain rfl : i = 3 := by simpa using hi
                  simp only [go_sem, ↓reduceIte, Nat.reduceEqDiff, Nat.reduceAdd, List.drop_succ_cons, List.drop_zero, List.take_succ_cons, List.take_zero, e30, hn17, hn27]
                  refine SC.mono (flatV_ok n x13.1 (0 : Int) _ hmm _ _ _ (by simp only [go_sem])) ?_
                  rintro v m' ⟨id2, cap2, junk2, ⟨j2, hs2⟩, rfl, rfl, hp2, hl2, hv2⟩
                  have hne12 : ¬ id1 = id2 := fun e => not_under (under_tail hs1) (show 38 ≠ 40 by decide) (e ▸ under_tail hs2)
                  simp only [go_sem, ↓reduceIte, Nat.reduceEqDiff, Nat.reduceAdd, List.drop_succ_cons, List.drop_zero, List.take_succ_cons, List.take_zero, e30, hn17, hn27]
                  refine PAny_step [4] (by kernel_rfl) (by kernel_rfl) fun i hi => ?_
                  obtain rfl : i = 4 := by simpa using hi
                  simp only [go_sem, ↓reduceIte, Nat.reduceEqDiff, Nat.reduceAdd, List.drop_succ_cons, List.drop_zero, List.take_succ_cons, List.take_zero, e30, hn17, hn27]
                  refine PAny_step [5] (by kernel_rfl) (by kernel_rfl) fun i hi => ?_
                  obtain rfl : i = 5 := by simpa using hi
                  simp only [go_sem, ↓reduceIte, Nat.reduceEqDiff, Nat.reduceAdd, List.drop_succ_cons, List.drop_zero, List.take_succ_cons, List.take_zero, e30, hn17, hn27]
                  refine ⟨by kernel_rfl, ?_⟩
                  simp only [thenQ_normal]
                  refine ⟨by decide, id1, cap1, junk1, id2, cap2, junk2, ?_, ?_, ?_, ?_, ?_, ?_, ?_, ?_, ?_, ?_, ⟨j1, hs1⟩, ⟨j2, hs2⟩⟩
                  · simp only [go_sem, ↓reduceIte, Nat.reduceEqDiff, e30]
                  · simp only [go_sem, ↓reduceIte, Nat.reduceEqDiff, e30]
                  · simp only [go_sem, ↓reduceIte, Nat.reduceEqDiff, e30]
                  · simp only [go_sem, ↓reduceIte, Nat.reduceEqDiff, e30]
                  · simp only [go_sem, ↓reduceIte, Nat.reduceEqDiff, e30]
                  · rw [back_set (under_tail (under_tail hs2)), back_set (under_tail (under_tail hs1))]; exact e30.2.2.2.2.2.2
                  · show (if 17 :: q = id2 then _ else if 17 :: q = id1 then _ else m29.blk (17 :: q)) = _
                    rw [if_neg (suf_ne hs2), if_neg (suf_ne hs1)]; have hz := e30.2.2.2.1; rw [T_parse_Node.C_eq] at hz; exact hz
                  · show (if 27 :: q = id2 then _ else if 27 :: q = id1 then _ else m29.blk (27 :: q)) = _
                    rw [if_neg (suf_ne hs2), if_neg (suf_ne hs1)]; have hz := e30.2.2.2.2.1; rw [T_parse_Node.C_eq] at hz; exact hz
                  · show (if id1 = id2 then _ else if id1 = id1 then _ else m29.blk id1) = _
                    rw [if_neg hne12, if_pos rfl]
                  · show (if id2 = id2 then _ else _) = _
                    rw [if_pos rfl]
                · simp only [go_sem, ↓reduceIte, Nat.reduceEqDiff, Nat.reduceAdd, List.drop_succ_cons, List.drop_zero, List.take_succ_cons, List.take_zero, e30]
                  refine PAny_step [1] (by kernel_rfl) (by kernel_rfl) fun i hi => ?_
                  obtain rfl : i = 1 := by simpa using hi
                  simp only [go_sem, ↓reduceIte, Nat.reduceEqDiff, Nat.reduceAdd, List.drop_succ_cons, List.drop_zero, List.take_succ_cons, List.take_zero, e30]
                  refine SC.mono (flatV_ok n x10.1 (0 : Int) _ hl _ _ _ (by simp only [go_sem])) ?_
                  rintro v m' ⟨id1, cap1, junk1, ⟨j1, hs1⟩, rfl, rfl, hp1, hl1, hv1⟩
                  have hn17 : ¬ 17 :: q = id1 := suf_ne hs1
                  have hn27 : ¬ 27 :: q = id1 := suf_ne hs1
                  simp only [go_sem, ↓reduceIte, Nat.reduceEqDiff, Nat.reduceAdd, List.drop_succ_cons, List.drop_zero, List.take_succ_cons, List.take_zero, e30]
                  refine PAny_step [3] (by kernel_rfl) (by kernel_rfl) fun i hi => ?_
                  obtain rfl : i = 3 := by simpa using hi
                  simp only [go_sem, ↓reduceIte, Nat.reduceEqDiff, Nat.reduceAdd, List.drop_succ_cons, List.drop_zero, List.take_succ_cons, List.take_zero, e30, hn17, hn27]
                  refine SC.mono (flatV_ok n x13.1 (0 : Int) _ hmm _ _ _ (by simp only [go_sem])) ?_
                  rintro v m' ⟨id2, cap2, junk2, ⟨j2, hs2⟩, rfl, rfl, hp2, hl2, hv2⟩
                  have hne12 : ¬ id1 = id2 := fun e => not_under (under_tail hs1) (show 38 ≠ 40 by decide) (e ▸ under_tail hs2)
                  simp only [go_sem, ↓reduceIte, Nat.reduceEqDiff, Nat.reduceAdd, List.drop_succ_cons, List.drop_zero, List.take_succ_cons, List.take_zero, e30, hn17, hn27]
                  refine PAny_step [4] (by kernel_rfl) (by kernel_rfl) fun i hi => ?_
                  obtain rfl : i = 4 := by simpa using hi
                  simp only [go_sem, ↓reduceIte, Nat.reduceEqDiff, Nat.reduceAdd, List.drop_succ_cons, List.drop_zero, List.take_succ_cons, List.take_zero, e30, hn17, hn27]
                  refine PAny_step [5] (by kernel_rfl) (by kernel_rfl) fun i hi => ?_
                  obtain rfl : i = 5 := by simpa using hi
                  simp only [go_sem, ↓reduceIte, Nat.reduceEqDiff, Nat.reduceAdd, List.drop_succ_cons, List.drop_zero, List.take_succ_cons, List.take_zero, e30, hn17, hn27]
                  refine ⟨by kernel_rfl, ?_⟩
                  simp only [thenQ_normal]
                  refine ⟨by decide, id1, cap1, junk1, id2, cap2, junk2, ?_, ?_, ?_, ?_, ?_, ?_, ?_, ?_, ?_, ?_, ⟨j1, hs1⟩, ⟨j2, hs2⟩⟩
                  · simp only [go_sem, ↓reduceIte, Nat.reduceEqDiff, e30]
                  · simp only [go_sem, ↓reduceIte, Nat.reduceEqDiff, e30]
                  · simp only [go_sem, ↓reduceIte, Nat.reduceEqDiff, e30]
                  · simp only [go_sem, ↓reduceIte, Nat.reduceEqDiff, e30]
                  · simp only [go_sem, ↓reduceIte, Nat.reduceEqDiff, e30]
                  · rw [back_set (under_tail (under_tail hs2)), back_set (under_tail (under_tail hs1))]; exact e30.2.2.2.2.2.2
                  · show (if 17 :: q = id2 then _ else if 17 :: q = id1 then _ else m29.blk (17 :: q)) = _
                    rw [if_neg (suf_ne hs2), if_neg (suf_ne hs1)]; have hz := e30.2.2.2.1; rw [T_parse_Node.C_eq] at hz; exact hz
                  · show (if 27 :: q = id2 then _ else if 27 :: q = id1 then _ else m29.blk (27 :: q)) = _
                    rw [if_neg (suf_ne hs2), if_neg (suf_ne hs1)]; have hz := e30.2.2.2.2.1; rw [T_parse_Node.C_eq] at hz; exact hz
                  · show (if id1 = id2 then _ else if id1 = id1 then _ else m29.blk id1) = _
                    rw [if_neg hne12, if_pos rfl]
                  · show (if id2 = id2 then _ else _) = _
                    rw [if_pos rfl]
              · simp only [go_sem, ↓reduceIte, Nat.reduceEqDiff, Nat.reduceAdd, List.drop_succ_cons, List.drop_zero, List.take_succ_cons, List.take_zero, e30]
                refine PAny_step [0] (by kernel_rfl) (by kernel_rfl) fun i hi => ?_
                obtain rfl : i = 0 := by simpa using hi
                simp only [go_sem, ↓reduceIte, Nat.reduceEqDiff, Nat.reduceAdd, List.drop_succ_cons, List.drop_zero, List.take_succ_cons, List.take_zero, e30]
                refine PAny_step [1] (by kernel_rfl) (by kernel_rfl) fun i hi => ?_
                obtain rfl : i = 1 := by simpa using hi
                simp only [go_sem, ↓reduceIte, Nat.reduceEqDiff, Nat.reduceAdd, List.drop_succ_cons, List.drop_zero, List.take_succ_cons, List.take_zero, e30]
                refine SC.mono (flatV_ok n x10.1 (0 : Int) _ hl _ _ _ (by simp only [go_sem])) ?_
                rintro v m' ⟨id1, cap1, junk1, ⟨j1, hs1⟩, rfl, rfl, hp1, hl1, hv1⟩
                have hn17 : ¬ 17 :: q = id1 := suf_ne hs1
                have hn27 : ¬ 27 :: q = id1 := suf_ne hs1
                simp only [go_sem, ↓reduceIte, Nat.reduceEqDiff, Nat.reduceAdd, List.drop_succ_cons, List.drop_zero, List.take_succ_cons, List.take_zero, e30]
                refine PAny_step [3] (by kernel_rfl) (by kernel_rfl) fun i hi => ?_
                obtain rfl : i = 3 := by simpa using hi
                simp only [go_sem, ↓reduceIte, Nat.reduceEqDiff, Nat.reduceAdd, List.drop_succ_cons, List.drop_zero, List.take_succ_cons, List.take_zero, e30, hn17, hn27]
                refine SC.mono (flatV_ok n x13.1 (0 : Int) _ hmm _ _ _ (by simp only [go_sem])) ?_
                rintro v m' ⟨id2, cap2, junk2, ⟨j2, hs2⟩, rfl, rfl, hp2, hl2, hv2⟩
                have hne12 : ¬ id1 = id2 := fun e => not_under (under_tail hs1) (show 38 ≠ 40 by decide) (e ▸ under_tail hs2)
                simp only [go_sem, ↓reduceIte, Nat.reduceEqDiff, Nat.reduceAdd, List.drop_succ_cons, List.drop_zero, List.take_succ_cons, List.take_zero, e30, hn17, hn27]
                refine PAny_step [4] (by kernel_rfl) (by kernel_rfl) fun i hi => ?_
                obtain rfl : i = 4 := by simpa using hi
                simp only [go_sem, ↓reduceIte, Nat.reduceEqDiff, Nat.reduceAdd, List.drop_succ_cons, List.drop_zero, List.take_succ_cons, List.take_zero, e30, hn17, hn27]
                refine PAny_step [5] (by kernel_rfl) (by kernel_rfl) fun i hi => ?_
                obtain rfl : i = 5 := by simpa using hi
                simp only [go_sem, ↓reduceIte, Nat.reduceEqDiff, Nat.reduceAdd, List.drop_succ_cons, List.drop_zero, List.take_succ_cons, List.take_zero, e30, hn17, hn27]
                refine ⟨by kernel_rfl, ?_⟩
                simp only [thenQ_normal]
                refine ⟨by decide, id1, cap1, junk1, id2, cap2, junk2, ?_, ?_, ?_, ?_, ?_, ?_, ?_, ?_, ?_, ?_, ⟨j1, hs1⟩, ⟨j2, hs2⟩⟩
                · simp only [go_sem, ↓reduceIte, Nat.reduceEqDiff, e30]
                · simp only [go_sem, ↓reduceIte, Nat.reduceEqDiff, e30]
                · simp only [go_sem, ↓reduceIte, Nat.reduceEqDiff, e30]
                · simp only [go_sem, ↓reduceIte, Nat.reduceEqDiff, e30]
                · simp only [go_sem, ↓reduceIte, Nat.reduceEqDiff, e30]
                · rw [back_set (under_tail (under_tail hs2)), back_set (under_tail (under_tail hs1))]; exact e30.2.2.2.2.2.2
                · show (if 17 :: q = id2 then _ else if 17 :: q = id1 then _ else m29.blk (17 :: q)) = _
                  rw [if_neg (suf_ne hs2), if_neg (suf_ne hs1)]; have hz := e30.2.2.2.1; rw [T_parse_Node.C_eq] at hz; exact hz
                · show (if 27 :: q = id2 then _ else if 27 :: q = id1 then _ else m29.blk (27 :: q)) = _
                  rw [if_neg (suf_ne hs2), if_neg (suf_ne hs1)]; have hz := e30.2.2.2.2.1; rw [T_parse_Node.C_eq] at hz; exact hz
                · show (if id1 = id2 then _ else if id1 = id1 then _ else m29.blk id1) = _
                  rw [if_neg hne12, if_pos rfl]
                · show (if id2 = id2 then _ else _) = _
                  rw [if_pos rfl]
            · rintro E40 m41 ⟨id1, cap1, junk1, id2, cap2, junk2, e5, e8', e11, e12, egl, ebk, b17, b27, bk1, bk2, ⟨j1, hs1⟩, ⟨j2, hs2⟩⟩ _
              simp only [thenQ_normal]
              have hne12 : ¬ id1 = id2 := fun e => not_under (under_tail hs1) (show 38 ≠ 40 by decide) (e ▸ under_tail hs2)
              have hn17 : ¬ 17 :: q = id1 := suf_ne hs1
              have hn27 : ¬ 27 :: q = id1 := suf_ne hs1
              refine SW_seq ?_
              refine SW_reg fun K hK => ?_
              simp only [go_sem, ↓reduceIte, Nat.reduceEqDiff, Nat.reduceAdd, e11, e12]
              apply hK
              simp only [thenQ_normal]
              refine SW_seq ?_
              refine SW_seq ?_
              refine SW_reg fun K hK => ?_
              simp only [go_sem, ↓reduceIte, Nat.reduceEqDiff, Nat.reduceAdd, e11, e12]
              apply hK
              simp only [thenQ_normal]
              refine SW_block ?_
              obtain ⟨z, hz, h⟩ := bind_some h
              refine SW_countW [] [] rfl (fun c E' m' => ∃ (lc : List T_remontoireref10_N) (s : Bool) (i : Int), Psame_l1 mm (min (l.length : Int) (mm.length : Int)) c lc i s = some z ∧ lc.length = l.length ∧ (E' 5 = .ptr (17 :: q) 0 ∧ E' 8 = .ptr (27 :: q) 0 ∧ E' 11 = .arr id1 0 l.length cap1 ∧ E' 12 = .arr id2 0 mm.length cap2 ∧ E' 13 = .lit (.bool s) ∧ E' 56 = .lit (.int .i64 (min (l.length : Int) (mm.length : Int))) ∧ E' 57 = .lit (.int .i64 i)) ∧ m'.gl = m.gl ∧ m.back q m' = m ∧
                m'.blk (17 :: q) = some (T_parse_Node.C x10.1) ∧ m'.blk (27 :: q) = some (T_parse_Node.C x13.1) ∧ m'.blk id1 = some ((lc.map T_remontoireref10_N.C).flatten ++ junk1) ∧ m'.blk id2 = some ((mm.map T_remontoireref10_N.C).flatten ++ junk2)) n ⟨l, (l.length : Int) == (mm.length : Int), 0, hz, rfl, ?_, egl, ebk, b17, b27, bk1, bk2⟩ ?_
              · simp only [go_sem, ↓reduceIte, Nat.reduceEqDiff, e5, e8', e11, e12]
              rintro i3 c7 E8 m9 ⟨lc, s, i, hz, hlc, e10, egl', ebk', b17', b27', bk1', bk2'⟩ _
              rcases c7 with _ | c7
              · cases hz
              rw [Psame_l1] at hz
              refine SW_seq ?_
              refine SW_reg fun K hK => ?_
              simp only [go_sem, Nat.reduceAdd, e10]
              apply hK
              simp only [thenQ_normal]
              refine SW_seq ?_
              refine SW_if (decide (i < (min (l.length : Int) (mm.length : Int)))) (by simp only [go_sem, ↓reduceIte]) (fun c11 => ?_) (fun c11 => ?_)
              · replace hz := ite_t c11 hz
                refine SW_skip ?_
                try simp only [thenQ_normal]
                obtain ⟨x, hx, hz⟩ := bind_some hz
                obtain ⟨y, hy, hz⟩ := bind_some hz
                obtain ⟨f1, f2, f3⟩ := idxL_some hx
                obtain ⟨g1, g2, g3⟩ := idxL_some hy
                rw [hlc] at g2
                refine SW_seq ?_
                refine SW_block ?_
                refine SW_seq ?_
                refine SW_reg fun K hK => ?_
                simp only [go_sem, ↓reduceIte, Nat.reduceEqDiff, Nat.reduceAdd, e10]
                apply hK
                simp only [thenQ_normal]
                refine SW_seq ?_
                have d1 := drop_row1 f3 junk2
                have d2 := drop_row1 g3 junk1
                have s2 := set_row g3 x.At_ junk1
                refine SW_reg fun K hK => ?_
                simp only [go_sem, ↓reduceIte, Nat.reduceEqDiff, Nat.reduceAdd, f1, f2, g2, e10, bk1', bk2', d1, d2, s2]
                refine ⟨by rw [len_Ns]; omega, ?_⟩
                apply hK
                simp only [thenQ_normal]
                have g3' : (lc.set i.toNat { y with At_ := x.At_ })[i.toNat]? = some { y with At_ := x.At_ } := by rw [List.getElem?_set_self (by omega)]
                have d3 := drop_row0 f3 junk2
                have d4 := drop_row0 g3' junk1
                have hne21 : ¬ id2 = id1 := fun e => hne12 e.symm
                refine SW_drawK (tbl := [0, 1, 3, 3, 15, 31, 3, 3, 195, 451, 1023, 2047, 4095]) (ord := [(0, 0), (1, 0), (2, 0), (3, 0), (4, 0), (5, 0), (6, 0), (7, 0), (8, 0), (9, 0), (10, 0), (11, 0), (12, 0)]) 26 rfl (by kernel_rfl) (by kernel_rfl) fun K hK => ?_
                cases s
                · simp only [go_sem, ↓reduceIte, Nat.reduceEqDiff, Nat.reduceAdd, reduceCtorEq, f1, f2, g2, e10, bk1', bk2', d3, d4, hne21]
                  apply hK
                  simp only [thenQ_normal, blockQ_normal]
                  refine SW_reg fun K hK => ?_
                  simp only [go_sem, ↓reduceIte, Nat.reduceEqDiff, Nat.reduceAdd, e10]
                  apply hK
                  simp only [thenQ_normal]
                  refine ⟨c7, Nat.lt_succ_self _, lc.set i.toNat { y with At_ := x.At_ }, _, IntKind.i64.wrap (i + (1 : Int)), hz, by rw [List.length_set]; exact hlc, ?_, egl', ?_, ?_, ?_, ?_, ?_⟩
                  · simp only [go_sem, ↓reduceIte, Nat.reduceEqDiff, Bool.false_and, Bool.true_and, e10]
                  · rw [unselfs_nil, back_set (under_tail (under_tail hs1))]; exact ebk'
                  · show (if 17 :: q = id1 then _ else m9.blk (17 :: q)) = _
                    rw [if_neg hn17]; exact b17'
                  · show (if 27 :: q = id1 then _ else m9.blk (27 :: q)) = _
                    rw [if_neg hn27]; exact b27'
                  · show (if id1 = id1 then _ else _) = _
                    rw [if_pos rfl]
                  · show (if id2 = id1 then _ else m9.blk id2) = _
                    rw [if_neg hne21]; exact bk2'
                · simp only [go_sem, ↓reduceIte, Nat.reduceEqDiff, Nat.reduceAdd, reduceCtorEq, f1, f2, g2, e10, bk1', bk2', d3, d4, hne21]
                  refine ⟨by omega, ?_⟩
                  try simp only [go_sem, ↓reduceIte, Nat.reduceEqDiff, Nat.reduceAdd, reduceCtorEq, f1, f2, g2, e10, bk1', bk2', d3, d4, hne21]
                  refine ⟨by omega, ?_⟩
                  try simp only [go_sem, ↓reduceIte, Nat.reduceEqDiff, Nat.reduceAdd, reduceCtorEq, f1, f2, g2, e10, bk1', bk2', d3, d4, hne21]
                  apply hK
                  simp only [thenQ_normal, blockQ_normal]
                  refine SW_reg fun K hK => ?_
                  simp only [go_sem, ↓reduceIte, Nat.reduceEqDiff, Nat.reduceAdd, e10]
                  apply hK
                  simp only [thenQ_normal]
                  refine ⟨c7, Nat.lt_succ_self _, lc.set i.toNat { y with At_ := x.At_ }, _, IntKind.i64.wrap (i + (1 : Int)), hz, by rw [List.length_set]; exact hlc, ?_, egl', ?_, ?_, ?_, ?_, ?_⟩
                  · simp only [go_sem, ↓reduceIte, Nat.reduceEqDiff, Bool.false_and, Bool.true_and, e10]
                  · rw [unselfs_nil, back_set (under_tail (under_tail hs1))]; exact ebk'
                  · show (if 17 :: q = id1 then _ else m9.blk (17 :: q)) = _
                    rw [if_neg hn17]; exact b17'
                  · show (if 27 :: q = id1 then _ else m9.blk (27 :: q)) = _
                    rw [if_neg hn27]; exact b27'
                  · show (if id1 = id1 then _ else _) = _
                    rw [if_pos rfl]
                  · show (if id2 = id1 then _ else m9.blk id2) = _
                    rw [if_neg hne21]; exact bk2'
              · replace hz := ite_f c11 hz
                refine SW_exit ?_
                try simp only [thenQ_exit, blockQ_exit, ↓reduceIte, thenQ_normal]
                obtain rfl := some_eq hz
                obtain ⟨x, h30, h⟩ := bind_some h
                refine SW_seq ?_
                rcases bool_or (x == s) with c40 | c40
                · replace h := ite_t c40 h
                  obtain ⟨y, h31, h⟩ := bind_some h
                  obtain rfl := some_eq h
                  refine SW_reg fun K hK => ?_
                  simp only [go_sem, ↓reduceIte, Nat.reduceEqDiff, Nat.reduceAdd, e10, b17', b27']
                  refine SC.by_ (parse_Same_ok n x10.1 x13.1 _ h30 _ _ _ (by simp only [go_sem])) ?_
                  simp only [go_sem, ↓reduceIte, Nat.reduceEqDiff, Nat.reduceAdd, e10, b17', b27', c40]
                  refine SC.by_ (parse_Same_ok n x10.1 x10.1 _ h31 _ _ _ (by simp only [go_sem])) ?_
                  simp only [go_sem, ↓reduceIte, Nat.reduceEqDiff, Nat.reduceAdd, e10, b17', b27', c40]
                  apply hK
                  simp only [thenQ_normal]
                  refine SW_ret ?_
                  try simp only []
                  refine ⟨by first | exact .inl rfl | exact .inl trivial | exact .inr rfl | exact .inr trivial, ?_⟩
                  simp only [go_sem, ↓reduceIte, ebk']
                · replace h := ite_f c40 h
                  obtain rfl := some_eq h
                  refine SW_reg fun K hK => ?_
                  simp only [go_sem, ↓reduceIte, Nat.reduceEqDiff, Nat.reduceAdd, e10, b17', b27']
                  refine SC.by_ (parse_Same_ok n x10.1 x13.1 _ h30 _ _ _ (by simp only [go_sem])) ?_
                  simp only [go_sem, ↓reduceIte, Nat.reduceEqDiff, Nat.reduceAdd, e10, b17', b27', c40]
                  apply hK
                  simp only [thenQ_normal]
                  refine SW_ret ?_
                  try simp only []
                  refine ⟨by first | exact .inl rfl | exact .inl trivial | exact .inr rfl | exact .inr trivial, ?_⟩
                  simp only [go_sem, ↓reduceIte, ebk']
end Go.Proofs.YtolhahlnccekcaaDoor.Abs
