/-
  Walks: each function does what its model says. Written by a program of mine (gen.py) for this claim.
-/
import Derived.Test.YtolhahlnccekcaaDoorPwGMm
import Derived.Test.YtolhahlnccekcaaDoorPwFacts
import Derived.Test.YtolhahlnccekcaaDoorPwSv7
namespace Go.Proofs.YtolhahlnccekcaaDoor.Abs
open Go.RowKit
set_option linter.unusedVariables false
set_option maxRecDepth 10000
def lex_blank_C (f : Int → Option Bool) : Prop := ∀ (a0 : Int) (r : Bool), f a0 = some r → ∀ (q : Pa) (m : M) (vs : List V), vs.map V.weak1 = [.lit (.int .u8 a0)] → SC Tryd.prog 78 vs q m (fun v m' => v = .lit (.bool r) ∧ m' = m)

theorem lex_blank_ok : lex_blank_C (lex_blank) := by
  intro a0 r h q m vs hv
  refine SC.weak ?_
  rw [hv]
  refine SC_of Tryd.func78 rfl (fun xs w => Tryd.call78 xs w) Tryd.ntmps78 (by kernel_rfl) (congrArg Array.toList Tryd.results78) V.weak (fun _ _ _ => V.weak_ok) ?_
  unfold lex_blank at h
  refine SW_seq ?_
  refine SW_reg fun K hK => ?_
  simp only [go_sem]
  apply hK
  simp only [thenQ_normal]
  refine SW_seq ?_
  obtain ⟨y1, hy1, h⟩ := bind_some h
  refine SW_joinK 16 [] [] rfl (fun E' m' => E' 2 = .lit (.bool y1) ∧ m'.gl = m.gl ∧ m.back q m' = m) ?_ ?_
  · rcases bool_or (a0 == (32 : Int)) with c2 | c2
    · replace hy1 := ite_t c2 hy1
      refine SW_reg fun K hK => ?_
      simp only [go_sem, ↓reduceIte, Nat.reduceEqDiff, Nat.reduceAdd, reduceCtorEq, c2]
      apply hK
      simp only [thenQ_normal]
      obtain rfl := some_eq hy1
      refine ⟨by decide, ?_⟩
      simp only [go_sem, ↓reduceIte, back_self]
    · replace hy1 := ite_f c2 hy1
      rcases bool_or (a0 == (9 : Int)) with c3 | c3
      · replace hy1 := ite_t c3 hy1
        refine SW_reg fun K hK => ?_
        simp only [go_sem, ↓reduceIte, Nat.reduceEqDiff, Nat.reduceAdd, reduceCtorEq, c2, c3]
        apply hK
        simp only [thenQ_normal]
        obtain rfl := some_eq hy1
        refine ⟨by decide, ?_⟩
        simp only [go_sem, ↓reduceIte, back_self]
      · replace hy1 := ite_f c3 hy1
        rcases bool_or (a0 == (13 : Int)) with c4 | c4
        · replace hy1 := ite_t c4 hy1
          refine SW_reg fun K hK => ?_
          simp only [go_sem, ↓reduceIte, Nat.reduceEqDiff, Nat.reduceAdd, reduceCtorEq, c2, c3, c4]
          apply hK
          simp only [thenQ_normal]
          obtain rfl := some_eq hy1
          refine ⟨by decide, ?_⟩
          simp only [go_sem, ↓reduceIte, back_self]
        · replace hy1 := ite_f c4 hy1
          refine SW_reg fun K hK => ?_
          simp only [go_sem, ↓reduceIte, Nat.reduceEqDiff, Nat.reduceAdd, reduceCtorEq, c2, c3, c4]
          apply hK
          simp only [thenQ_normal]
          obtain rfl := some_eq hy1
          refine ⟨by decide, ?_⟩
          simp only [go_sem, ↓reduceIte, back_self]
  · intro E5 m6 e7 _
    simp only [thenQ_normal]
    refine SW_ret ?_
    try simp only []
    obtain rfl := some_eq h
    refine ⟨by first | exact .inl rfl | exact .inl trivial | exact .inr rfl | exact .inr trivial, ?_⟩
    simp only [go_sem, e7]

def internal_stringslite_HasPrefix_C (f : Str → Str → Option Bool) : Prop := ∀ (a0 : Str) (a1 : Str) (r : Bool), f a0 a1 = some r → ∀ (q : Pa) (m : M) (vs : List V), vs.map V.weak1 = [.lit (.string (bs a0)), .lit (.string (bs a1))] → SC Tryd.prog 101 vs q m (fun v m' => v = .lit (.bool r) ∧ m' = m)

theorem internal_stringslite_HasPrefix_ok : internal_stringslite_HasPrefix_C (internal_stringslite_HasPrefix) := by
  intro a0 a1 r h q m vs hv
  refine SC.weak ?_
  rw [hv]
  refine SC_of Tryd.func101 rfl (fun xs w => Tryd.call101 xs w) Tryd.ntmps101 (by kernel_rfl) (congrArg Array.toList Tryd.results101) V.weak (fun _ _ _ => V.weak_ok) ?_
  unfold internal_stringslite_HasPrefix at h
  refine SW_seq ?_
  refine SW_reg fun K hK => ?_
  simp only [go_sem]
  apply hK
  simp only [thenQ_normal]
  refine SW_seq ?_
  obtain ⟨y1, hy1, h⟩ := bind_some h
  refine SW_joinK 15 [] [] rfl (fun E' m' => E' 4 = .lit (.bool y1) ∧ m'.gl = m.gl ∧ m.back q m' = m) ?_ ?_
  · rcases bool_or (decide ((a1.length : Int) ≤ (a0.length : Int))) with c2 | c2
    · replace hy1 := ite_t c2 hy1
      obtain ⟨⟨f3, f4⟩, hy1⟩ := need_some hy1
      refine SW_reg fun K hK => ?_
      simp only [go_sem, ↓reduceIte, Nat.reduceEqDiff, Nat.reduceAdd, reduceCtorEq, f3, f4]
      apply hK
      simp only [thenQ_normal]
      obtain rfl := some_eq hy1
      refine ⟨by decide, ?_⟩
      simp only [go_sem, ↓reduceIte, back_self]
    · replace hy1 := ite_f c2 hy1
      refine SW_reg fun K hK => ?_
      simp only [go_sem, ↓reduceIte, Nat.reduceEqDiff, Nat.reduceAdd, reduceCtorEq, c2]
      apply hK
      simp only [thenQ_normal]
      obtain rfl := some_eq hy1
      refine ⟨by decide, ?_⟩
      simp only [go_sem, ↓reduceIte, back_self]
  · intro E5 m6 e7 _
    simp only [thenQ_normal]
    refine SW_ret ?_
    try simp only []
    obtain rfl := some_eq h
    refine ⟨by first | exact .inl rfl | exact .inl trivial | exact .inr rfl | exact .inr trivial, ?_⟩
    simp only [go_sem, e7]

def strings_HasPrefix_C (f : Str → Str → Option Bool) : Prop := ∀ (a0 : Str) (a1 : Str) (r : Bool), f a0 a1 = some r → ∀ (q : Pa) (m : M) (vs : List V), vs.map V.weak1 = [.lit (.string (bs a0)), .lit (.string (bs a1))] → SC Tryd.prog 79 vs q m (fun v m' => v = .lit (.bool r) ∧ m' = m)

theorem strings_HasPrefix_ok : strings_HasPrefix_C (strings_HasPrefix) := by
  intro a0 a1 r h q m vs hv
  refine SC.weak ?_
  rw [hv]
  refine SC_of Tryd.func79 rfl (fun xs w => Tryd.call79 xs w) Tryd.ntmps79 (by kernel_rfl) (congrArg Array.toList Tryd.results79) V.weak (fun _ _ _ => V.weak_ok) ?_
  unfold strings_HasPrefix at h
  refine SW_seq ?_
  refine SW_reg fun K hK => ?_
  simp only [go_sem]
  apply hK
  simp only [thenQ_normal]
  refine SW_seq ?_
  obtain ⟨x1, h2, h⟩ := bind_some h
  refine SW_reg fun K hK => ?_
  simp only [go_sem, ↓reduceIte, Nat.reduceEqDiff, Nat.reduceAdd, reduceCtorEq]
  refine SC.by_ (internal_stringslite_HasPrefix_ok a0 a1 _ h2 _ _ _ (by simp only [go_sem])) ?_
  simp only [go_sem, ↓reduceIte, Nat.reduceAdd]
  apply hK
  simp only [thenQ_normal]
  refine SW_ret ?_
  try simp only []
  obtain rfl := some_eq h
  refine ⟨by first | exact .inl rfl | exact .inl trivial | exact .inr rfl | exact .inr trivial, ?_⟩
  simp only [go_sem, ↓reduceIte, back_self]

def internal_bytealg_IndexByteString_C (f : Str → Int → Option Int) : Prop := ∀ (a0 : Str) (a1 : Int) (r : Int), f a0 a1 = some r → ∀ (q : Pa) (m : M) (vs : List V), vs.map V.weak1 = [.lit (.string (bs a0)), .lit (.int .u8 a1)] → SC Tryd.prog 125 vs q m (fun v m' => v = .lit (.int .i64 r) ∧ m' = m)
theorem internal_bytealg_IndexByteString_ok : internal_bytealg_IndexByteString_C internal_bytealg_IndexByteString := by
  intro a0 a1 r h q m vs hv
  refine SC.weak ?_
  rw [hv]
  obtain rfl := some_eq h
  intro c xs w h1 h2 h3
  obtain ⟨x, xs, rfl, k1, k2⟩ := h2.uncons
  obtain ⟨y, rfl, k3⟩ := k2.inv_one
  obtain rfl := k1.inv_lit
  obtain rfl := k3.inv_lit
  refine .inr ⟨.int .i64 (Lib.indexByte a0 a1.toNat.toUInt8), w, ?_, _, c, _, m, rfl, ⟨rfl, rfl⟩, h1, .refl q c m w, .lit .nil⟩
  rw [run_callFunc_extern (fn := Tryd.f125) (e := Extern.BytealgIndexByte.indexByte) Tryd.func125 (by kernel_rfl) (by kernel_rfl) (by kernel_rfl) (by rfl)]
  have := Lib.run_indexByteString (P := Tryd.prog) (bs a0) a1 w
  rw [this]
  rfl

def internal_stringslite_IndexByte_C (f : Str → Int → Option Int) : Prop := ∀ (a0 : Str) (a1 : Int) (r : Int), f a0 a1 = some r → ∀ (q : Pa) (m : M) (vs : List V), vs.map V.weak1 = [.lit (.string (bs a0)), .lit (.int .u8 a1)] → SC Tryd.prog 102 vs q m (fun v m' => v = .lit (.int .i64 r) ∧ m' = m)

theorem internal_stringslite_IndexByte_ok : internal_stringslite_IndexByte_C (internal_stringslite_IndexByte) := by
  intro a0 a1 r h q m vs hv
  refine SC.weak ?_
  rw [hv]
  refine SC_of Tryd.func102 rfl (fun xs w => Tryd.call102 xs w) Tryd.ntmps102 (by kernel_rfl) (congrArg Array.toList Tryd.results102) V.weak (fun _ _ _ => V.weak_ok) ?_
  unfold internal_stringslite_IndexByte at h
  refine SW_seq ?_
  refine SW_reg fun K hK => ?_
  simp only [go_sem]
  apply hK
  simp only [thenQ_normal]
  refine SW_seq ?_
  obtain ⟨x1, h2, h⟩ := bind_some h
  refine SW_reg fun K hK => ?_
  simp only [go_sem, ↓reduceIte, Nat.reduceEqDiff, Nat.reduceAdd, reduceCtorEq]
  refine SC.by_ (internal_bytealg_IndexByteString_ok a0 a1 _ h2 _ _ _ (by simp only [go_sem])) ?_
  simp only [go_sem, ↓reduceIte, Nat.reduceAdd]
  apply hK
  simp only [thenQ_normal]
  refine SW_ret ?_
  try simp only []
  obtain rfl := some_eq h
  refine ⟨by first | exact .inl rfl | exact .inl trivial | exact .inr rfl | exact .inr trivial, ?_⟩
  simp only [go_sem, ↓reduceIte, back_self]

def strings_IndexByte_C (f : Str → Int → Option Int) : Prop := ∀ (a0 : Str) (a1 : Int) (r : Int), f a0 a1 = some r → ∀ (q : Pa) (m : M) (vs : List V), vs.map V.weak1 = [.lit (.string (bs a0)), .lit (.int .u8 a1)] → SC Tryd.prog 80 vs q m (fun v m' => v = .lit (.int .i64 r) ∧ m' = m)

theorem strings_IndexByte_ok : strings_IndexByte_C (strings_IndexByte) := by
  intro a0 a1 r h q m vs hv
  refine SC.weak ?_
  rw [hv]
  refine SC_of Tryd.func80 rfl (fun xs w => Tryd.call80 xs w) Tryd.ntmps80 (by kernel_rfl) (congrArg Array.toList Tryd.results80) V.weak (fun _ _ _ => V.weak_ok) ?_
  unfold strings_IndexByte at h
  refine SW_seq ?_
  refine SW_reg fun K hK => ?_
  simp only [go_sem]
  apply hK
  simp only [thenQ_normal]
  refine SW_seq ?_
  obtain ⟨x1, h2, h⟩ := bind_some h
  refine SW_reg fun K hK => ?_
  simp only [go_sem, ↓reduceIte, Nat.reduceEqDiff, Nat.reduceAdd, reduceCtorEq]
  refine SC.by_ (internal_stringslite_IndexByte_ok a0 a1 _ h2 _ _ _ (by simp only [go_sem])) ?_
  simp only [go_sem, ↓reduceIte, Nat.reduceAdd]
  apply hK
  simp only [thenQ_normal]
  refine SW_ret ?_
  try simp only []
  obtain rfl := some_eq h
  refine ⟨by first | exact .inl rfl | exact .inl trivial | exact .inr rfl | exact .inr trivial, ?_⟩
  simp only [go_sem, ↓reduceIte, back_self]

def lex_skip_C (f : Str → Int → Option Int) : Prop := ∀ (a0 : Str) (a1 : Int) (r : Int), f a0 a1 = some r → ∀ (q : Pa) (m : M) (vs : List V), vs.map V.weak1 = [.lit (.string (bs a0)), .lit (.int .i64 a1)] → SC Tryd.prog 44 vs q m (fun v m' => v = .lit (.int .i64 r) ∧ m' = m)

theorem lex_skip_ok (n : Nat) : lex_skip_C (lex_skip n) := by
  intro a0 a1 r h q m vs hv
  refine SC.weak ?_
  rw [hv]
  refine SC_of Tryd.func44 rfl (fun xs w => Tryd.call44 xs w) Tryd.ntmps44 (by kernel_rfl) (congrArg Array.toList Tryd.results44) V.weak (fun _ _ _ => V.weak_ok) ?_
  unfold lex_skip at h
  refine SW_seq ?_
  refine SW_reg fun K hK => ?_
  simp only [go_sem]
  apply hK
  simp only [thenQ_normal]
  refine SW_seq ?_
  refine SW_block ?_
  obtain ⟨y3, hy3, h⟩ := bind_some h
  refine SW_countW [] [] rfl (fun c E' m' => ∃ (v2 : Int), lex_skip_l1 a0 c v2 = some y3 ∧ E' 0 = .lit (.string (bs a0)) ∧ E' 1 = .lit (.int .i64 v2) ∧ m'.gl = m.gl ∧ m.back q m' = m) n ⟨a1, hy3, ?_⟩ ?_
  · simp only [go_sem, ↓reduceIte, Nat.reduceEqDiff, reduceCtorEq, back_self]
  rintro i1 c4 E5 m6 ⟨v2, hy3, e7⟩ _
  rcases c4 with _ | c4
  · exact absurd hy3 (by rw [lex_skip_l1]; exact fun e => nomatch e)
  rw [lex_skip_l1] at hy3
  refine SW_seq ?_
  refine SW_seq ?_
  refine SW_reg fun K hK => ?_
  simp only [go_sem, ↓reduceIte, Nat.reduceEqDiff, Nat.reduceAdd, reduceCtorEq, e7]
  apply hK
  simp only [thenQ_normal]
  refine SW_if (decide (v2 < (a0.length : Int))) (by simp only [go_sem, ↓reduceIte]) (fun c8 => ?_) (fun c8 => ?_)
  · replace hy3 := ite_t c8 hy3
    refine SW_skip ?_
    try simp only [thenQ_normal]
    refine SW_block ?_
    refine SW_block ?_
    refine SW_seq ?_
    obtain ⟨x9, h14, hy3⟩ := bind_some hy3
    obtain ⟨f11, f12, f13⟩ := idxL_some h14
    obtain ⟨x10, h15, hy3⟩ := bind_some hy3
    refine SW_reg fun K hK => ?_
    simp only [go_sem, ↓reduceIte, Nat.reduceEqDiff, Nat.reduceAdd, reduceCtorEq, f11, f12, f13, e7]
    refine SC.by_ (lex_blank_ok (x9.toNat : Int) _ h15 _ _ _ (by simp only [go_sem])) ?_
    simp only [go_sem, ↓reduceIte, Nat.reduceAdd]
    apply hK
    simp only [thenQ_normal]
    refine SW_if x10 (by simp only [go_sem, ↓reduceIte]) (fun c16 => ?_) (fun c16 => ?_)
    · replace hy3 := ite_t c16 hy3
      refine SW_reg fun K hK => ?_
      simp only [go_sem, ↓reduceIte, Nat.reduceEqDiff, Nat.reduceAdd, c16, e7]
      apply hK
      simp only [thenQ_normal, blockQ_normal]
      refine ⟨c4, Nat.lt_succ_self _, (IntKind.i64.wrap (v2 + (1 : Int))), hy3, ?_⟩
      simp only [go_sem, ↓reduceIte, reduceCtorEq, e7]
    · replace hy3 := ite_f c16 hy3
      refine SW_seq ?_
      obtain ⟨⟨f18, f19⟩, hy3⟩ := need_some hy3
      obtain ⟨x17, h20, hy3⟩ := bind_some hy3
      refine SW_reg fun K hK => ?_
      simp only [go_sem, ↓reduceIte, Nat.reduceEqDiff, Nat.reduceAdd, reduceCtorEq, f11, c16, f19, e7]
      refine SC.by_ (strings_HasPrefix_ok (a0.drop v2.toNat) ([47, 47] : Str) _ h20 _ _ _ (by simp only [go_sem])) ?_
      simp only [go_sem, ↓reduceIte, Nat.reduceAdd]
      apply hK
      simp only [thenQ_normal]
      refine SW_if x17 (by simp only [go_sem, ↓reduceIte]) (fun c21 => ?_) (fun c21 => ?_)
      · replace hy3 := ite_t c21 hy3
        refine SW_seq ?_
        obtain ⟨⟨f23, f24⟩, hy3⟩ := need_some hy3
        obtain ⟨x22, h25, hy3⟩ := bind_some hy3
        refine SW_reg fun K hK => ?_
        simp only [go_sem, ↓reduceIte, Nat.reduceEqDiff, Nat.reduceAdd, reduceCtorEq, f11, f19, c21, e7]
        refine SC.by_ (strings_IndexByte_ok (a0.drop v2.toNat) (10 : Int) _ h25 _ _ _ (by simp only [go_sem])) ?_
        simp only [go_sem, ↓reduceIte, Nat.reduceAdd]
        apply hK
        simp only [thenQ_normal]
        refine SW_seq ?_
        refine SW_seq ?_
        refine SW_reg fun K hK => ?_
        simp only [go_sem, ↓reduceIte, Nat.reduceAdd]
        apply hK
        simp only [thenQ_normal]
        refine SW_if (decide (x22 < (0 : Int))) (by simp only [go_sem, ↓reduceIte]) (fun c26 => ?_) (fun c26 => ?_)
        · replace hy3 := ite_t c26 hy3
          refine SW_seq ?_
          refine SW_reg fun K hK => ?_
          simp only [go_sem, ↓reduceIte, Nat.reduceAdd, reduceCtorEq, c26, e7]
          apply hK
          simp only [thenQ_normal]
          refine SW_ret ?_
          try simp only [thenQ_ret, blockQ_ret]
          obtain rfl := some_eq hy3
          simp only [Sum.elim_inr] at h
          obtain rfl := some_eq h
          refine ⟨by first | exact .inl rfl | exact .inl trivial | exact .inr rfl | exact .inr trivial, ?_⟩
          simp only [go_sem, ↓reduceIte, e7]
        · replace hy3 := ite_f c26 hy3
          refine SW_skip ?_
          try simp only [thenQ_normal]
          refine SW_reg fun K hK => ?_
          simp only [go_sem, ↓reduceIte, Nat.reduceEqDiff, Nat.reduceAdd, c26, e7]
          apply hK
          simp only [thenQ_normal, blockQ_normal]
          refine ⟨c4, Nat.lt_succ_self _, (IntKind.i64.wrap (v2 + x22)), hy3, ?_⟩
          simp only [go_sem, ↓reduceIte, reduceCtorEq, e7]
      · replace hy3 := ite_f c21 hy3
        refine SW_seq ?_
        refine SW_reg fun K hK => ?_
        simp only [go_sem, ↓reduceIte, Nat.reduceEqDiff, Nat.reduceAdd, c21, e7]
        apply hK
        simp only [thenQ_normal]
        refine SW_ret ?_
        try simp only [thenQ_ret, blockQ_ret]
        obtain rfl := some_eq hy3
        simp only [Sum.elim_inr] at h
        obtain rfl := some_eq h
        refine ⟨by first | exact .inl rfl | exact .inl trivial | exact .inr rfl | exact .inr trivial, ?_⟩
        simp only [go_sem, ↓reduceIte, e7]
  · replace hy3 := ite_f c8 hy3
    refine SW_exit ?_
    try simp only [thenQ_exit, blockQ_exit, ↓reduceIte, thenQ_normal]
    obtain rfl := some_eq hy3
    simp only [Sum.elim_inl] at h
    refine SW_seq ?_
    refine SW_reg fun K hK => ?_
    simp only [go_sem, ↓reduceIte, Nat.reduceEqDiff, Nat.reduceAdd, c8, e7]
    apply hK
    simp only [thenQ_normal]
    refine SW_ret ?_
    try simp only []
    obtain rfl := some_eq h
    refine ⟨by first | exact .inl rfl | exact .inl trivial | exact .inr rfl | exact .inr trivial, ?_⟩
    simp only [go_sem, ↓reduceIte, e7]

def lex_Letter_C (f : Int → Option Bool) : Prop := ∀ (a0 : Int) (r : Bool), f a0 = some r → ∀ (q : Pa) (m : M) (vs : List V), vs.map V.weak1 = [.lit (.int .u8 a0)] → SC Tryd.prog 82 vs q m (fun v m' => v = .lit (.bool r) ∧ m' = m)

theorem lex_Letter_ok : lex_Letter_C (lex_Letter) := by
  intro a0 r h q m vs hv
  refine SC.weak ?_
  rw [hv]
  refine SC_of Tryd.func82 rfl (fun xs w => Tryd.call82 xs w) Tryd.ntmps82 (by kernel_rfl) (congrArg Array.toList Tryd.results82) V.weak (fun _ _ _ => V.weak_ok) ?_
  unfold lex_Letter at h
  refine SW_seq ?_
  refine SW_reg fun K hK => ?_
  simp only [go_sem]
  apply hK
  simp only [thenQ_normal]
  refine SW_seq ?_
  obtain ⟨y1, hy1, h⟩ := bind_some h
  refine SW_joinK 12 [] [] rfl (fun E' m' => E' 2 = .lit (.bool y1) ∧ m'.gl = m.gl ∧ m.back q m' = m) ?_ ?_
  · rcases bool_or (decide ((97 : Int) ≤ a0)) with c2 | c2
    · replace hy1 := ite_t c2 hy1
      rcases bool_or (decide (a0 ≤ (122 : Int))) with c3 | c3
      · replace hy1 := ite_t c3 hy1
        refine SW_reg fun K hK => ?_
        simp only [go_sem, ↓reduceIte, Nat.reduceEqDiff, Nat.reduceAdd, reduceCtorEq, c2, c3]
        apply hK
        simp only [thenQ_normal]
        obtain rfl := some_eq hy1
        refine ⟨by decide, ?_⟩
        simp only [go_sem, ↓reduceIte, back_self]
      · replace hy1 := ite_f c3 hy1
        refine SW_reg fun K hK => ?_
        simp only [go_sem, ↓reduceIte, Nat.reduceEqDiff, Nat.reduceAdd, reduceCtorEq, c2, c3]
        apply hK
        simp only [thenQ_normal]
        obtain rfl := some_eq hy1
        refine ⟨by decide, ?_⟩
        simp only [go_sem, ↓reduceIte, back_self]
    · replace hy1 := ite_f c2 hy1
      refine SW_reg fun K hK => ?_
      simp only [go_sem, ↓reduceIte, Nat.reduceEqDiff, Nat.reduceAdd, reduceCtorEq, c2]
      apply hK
      simp only [thenQ_normal]
      obtain rfl := some_eq hy1
      refine ⟨by decide, ?_⟩
      simp only [go_sem, ↓reduceIte, back_self]
  · intro E4 m5 e6 _
    simp only [thenQ_normal]
    refine SW_ret ?_
    try simp only []
    obtain rfl := some_eq h
    refine ⟨by first | exact .inl rfl | exact .inl trivial | exact .inr rfl | exact .inr trivial, ?_⟩
    simp only [go_sem, e6]

def lex_Digit_C (f : Int → Option Bool) : Prop := ∀ (a0 : Int) (r : Bool), f a0 = some r → ∀ (q : Pa) (m : M) (vs : List V), vs.map V.weak1 = [.lit (.int .u8 a0)] → SC Tryd.prog 83 vs q m (fun v m' => v = .lit (.bool r) ∧ m' = m)

theorem lex_Digit_ok : lex_Digit_C (lex_Digit) := by
  intro a0 r h q m vs hv
  refine SC.weak ?_
  rw [hv]
  refine SC_of Tryd.func83 rfl (fun xs w => Tryd.call83 xs w) Tryd.ntmps83 (by kernel_rfl) (congrArg Array.toList Tryd.results83) V.weak (fun _ _ _ => V.weak_ok) ?_
  unfold lex_Digit at h
  refine SW_seq ?_
  refine SW_reg fun K hK => ?_
  simp only [go_sem]
  apply hK
  simp only [thenQ_normal]
  refine SW_seq ?_
  obtain ⟨y1, hy1, h⟩ := bind_some h
  refine SW_joinK 8 [] [] rfl (fun E' m' => E' 2 = .lit (.bool y1) ∧ m'.gl = m.gl ∧ m.back q m' = m) ?_ ?_
  · rcases bool_or (decide ((48 : Int) ≤ a0)) with c2 | c2
    · replace hy1 := ite_t c2 hy1
      refine SW_reg fun K hK => ?_
      simp only [go_sem, ↓reduceIte, Nat.reduceEqDiff, Nat.reduceAdd, reduceCtorEq, c2]
      apply hK
      simp only [thenQ_normal]
      obtain rfl := some_eq hy1
      refine ⟨by decide, ?_⟩
      simp only [go_sem, ↓reduceIte, back_self]
    · replace hy1 := ite_f c2 hy1
      refine SW_reg fun K hK => ?_
      simp only [go_sem, ↓reduceIte, Nat.reduceEqDiff, Nat.reduceAdd, reduceCtorEq, c2]
      apply hK
      simp only [thenQ_normal]
      obtain rfl := some_eq hy1
      refine ⟨by decide, ?_⟩
      simp only [go_sem, ↓reduceIte, back_self]
  · intro E3 m4 e5 _
    simp only [thenQ_normal]
    refine SW_ret ?_
    try simp only []
    obtain rfl := some_eq h
    refine ⟨by first | exact .inl rfl | exact .inl trivial | exact .inr rfl | exact .inr trivial, ?_⟩
    simp only [go_sem, e5]

def lex_word_C (f : Str → Option Str) : Prop := ∀ (a0 : Str) (r : Str), f a0 = some r → ∀ (q : Pa) (m : M) (vs : List V), vs.map V.weak1 = [.lit (.string (bs a0))] → SC Tryd.prog 81 vs q m (fun v m' => v = .lit (.string (bs r)) ∧ m' = m)

theorem lex_word_ok (n : Nat) : lex_word_C (lex_word n) := by
  intro a0 r h q m vs hv
  refine SC.weak ?_
  rw [hv]
  refine SC_of Tryd.func81 rfl (fun xs w => Tryd.call81 xs w) Tryd.ntmps81 (by kernel_rfl) (congrArg Array.toList Tryd.results81) V.weak (fun _ _ _ => V.weak_ok) ?_
  unfold lex_word at h
  refine SW_seq ?_
  refine SW_reg fun K hK => ?_
  simp only [go_sem]
  apply hK
  simp only [thenQ_normal]
  refine SW_seq ?_
  refine SW_seq ?_
  refine SW_reg fun K hK => ?_
  simp only [go_sem, ↓reduceIte, Nat.reduceAdd, reduceCtorEq]
  apply hK
  simp only [thenQ_normal]
  refine SW_block ?_
  obtain ⟨y3, hy3, h⟩ := bind_some h
  refine SW_countW [] [] rfl (fun c E' m' => ∃ (v2 : Int), lex_word_l1 a0 c v2 = some y3 ∧ E' 0 = .lit (.string (bs a0)) ∧ E' 5 = .lit (.int .i64 (a0.length : Int)) ∧ E' 6 = .lit (.int .i64 v2) ∧ m'.gl = m.gl ∧ m.back q m' = m) n ⟨(0 : Int), hy3, ?_⟩ ?_
  · simp only [go_sem, ↓reduceIte, Nat.reduceEqDiff, reduceCtorEq, back_self]
  rintro i1 c4 E5 m6 ⟨v2, hy3, e7⟩ _
  rcases c4 with _ | c4
  · exact absurd hy3 (by rw [lex_word_l1]; exact fun e => nomatch e)
  rw [lex_word_l1] at hy3
  refine SW_seq ?_
  refine SW_reg fun K hK => ?_
  simp only [go_sem, e7]
  apply hK
  simp only [thenQ_normal]
  refine SW_seq ?_
  refine SW_if (decide (v2 < (a0.length : Int))) (by simp only [go_sem, ↓reduceIte]) (fun c8 => ?_) (fun c8 => ?_)
  · replace hy3 := ite_t c8 hy3
    refine SW_skip ?_
    try simp only [thenQ_normal]
    refine SW_seq ?_
    refine SW_block ?_
    refine SW_seq ?_
    refine SW_reg fun K hK => ?_
    simp only [go_sem, ↓reduceIte, Nat.reduceEqDiff, Nat.reduceAdd, c8, e7]
    apply hK
    simp only [thenQ_normal]
    refine SW_seq ?_
    obtain ⟨y9, hy9, hy3⟩ := bind_some hy3
    refine SW_joinK 15 [] [] rfl (fun E' m' => E' 0 = .lit (.string (bs a0)) ∧ E' 3 = .lit (.int .i64 v2) ∧ E' 5 = .lit (.int .i64 (a0.length : Int)) ∧ E' 6 = .lit (.int .i64 v2) ∧ E' 20 = .lit (.bool y9) ∧ m'.gl = m.gl ∧ m.back q m' = m) ?_ ?_
    · obtain ⟨x10, h15, hy9⟩ := bind_some hy9
      obtain ⟨f12, f13, f14⟩ := idxL_some h15
      obtain ⟨x11, h16, hy9⟩ := bind_some hy9
      rcases bool_or (!x11) with c17 | c17
      · replace hy9 := ite_t c17 hy9
        obtain ⟨x18, h19, hy9⟩ := bind_some hy9
        refine SW_reg fun K hK => ?_
        simp only [go_sem, ↓reduceIte, Nat.reduceEqDiff, Nat.reduceAdd, reduceCtorEq, f12, f14, e7]
        refine SC.by_ (lex_Letter_ok (x10.toNat : Int) _ h16 _ _ _ (by simp only [go_sem])) ?_
        simp only [go_sem, ↓reduceIte, Nat.reduceEqDiff, Nat.reduceAdd, reduceCtorEq, f12, f14, c17, e7]
        refine SC.by_ (lex_Digit_ok (x10.toNat : Int) _ h19 _ _ _ (by simp only [go_sem])) ?_
        simp only [go_sem, ↓reduceIte, Nat.reduceEqDiff, Nat.reduceAdd]
        apply hK
        simp only [thenQ_normal]
        obtain rfl := some_eq hy9
        refine ⟨by decide, ?_⟩
        simp only [go_sem, ↓reduceIte, Nat.reduceEqDiff, reduceCtorEq, e7]
      · replace hy9 := ite_f c17 hy9
        refine SW_reg fun K hK => ?_
        simp only [go_sem, ↓reduceIte, Nat.reduceEqDiff, Nat.reduceAdd, reduceCtorEq, f12, f14, e7]
        refine SC.by_ (lex_Letter_ok (x10.toNat : Int) _ h16 _ _ _ (by simp only [go_sem])) ?_
        simp only [go_sem, ↓reduceIte, Nat.reduceEqDiff, Nat.reduceAdd, c17]
        apply hK
        simp only [thenQ_normal]
        obtain rfl := some_eq hy9
        refine ⟨by decide, ?_⟩
        simp only [go_sem, ↓reduceIte, Nat.reduceEqDiff, reduceCtorEq, e7]
    · intro E20 m21 e22 _
      simp only [thenQ_normal]
      refine SW_if y9 (by simp only [go_sem, e22]) (fun c23 => ?_) (fun c23 => ?_)
      · replace hy3 := ite_t c23 hy3
        refine SW_seq ?_
        obtain ⟨⟨f24, f25⟩, hy3⟩ := need_some hy3
        refine SW_reg fun K hK => ?_
        simp only [go_sem, ↓reduceIte, Nat.reduceEqDiff, Nat.reduceAdd, f24, f25, e22]
        apply hK
        simp only [thenQ_normal]
        refine SW_ret ?_
        try simp only [thenQ_ret, blockQ_ret]
        obtain rfl := some_eq hy3
        simp only [Sum.elim_inr] at h
        obtain rfl := some_eq h
        refine ⟨by first | exact .inl rfl | exact .inl trivial | exact .inr rfl | exact .inr trivial, ?_⟩
        simp only [go_sem, ↓reduceIte, e22]
      · replace hy3 := ite_f c23 hy3
        refine SW_skip ?_
        try simp only [thenQ_normal, blockQ_normal]
        refine SW_reg fun K hK => ?_
        simp only [go_sem, ↓reduceIte, Nat.reduceAdd, e22]
        apply hK
        simp only [thenQ_normal]
        refine ⟨c4, Nat.lt_succ_self _, (IntKind.i64.wrap (v2 + (1 : Int))), hy3, ?_⟩
        simp only [go_sem, ↓reduceIte, Nat.reduceEqDiff, reduceCtorEq, e22]
  · replace hy3 := ite_f c8 hy3
    refine SW_exit ?_
    try simp only [thenQ_exit, blockQ_exit, ↓reduceIte, thenQ_normal]
    obtain rfl := some_eq hy3
    simp only [Sum.elim_inl] at h
    refine SW_seq ?_
    refine SW_reg fun K hK => ?_
    simp only [go_sem, ↓reduceIte, Nat.reduceAdd, reduceCtorEq, c8, e7]
    apply hK
    simp only [thenQ_normal]
    refine SW_ret ?_
    try simp only []
    obtain rfl := some_eq h
    refine ⟨by first | exact .inl rfl | exact .inl trivial | exact .inr rfl | exact .inr trivial, ?_⟩
    simp only [go_sem, ↓reduceIte, e7]

def internal_stringslite_CutPrefix_C (f : Str → Str → Option (Str × Bool)) : Prop := ∀ (a0 : Str) (a1 : Str) (r : (Str × Bool)), f a0 a1 = some r → ∀ (q : Pa) (m : M) (vs : List V), vs.map V.weak1 = [.lit (.string (bs a0)), .lit (.string (bs a1))] → SC Tryd.prog 126 vs q m (fun v m' => v = .tup [.lit (.string (bs r.1)), .lit (.bool r.2)] ∧ m' = m)

theorem internal_stringslite_CutPrefix_ok : internal_stringslite_CutPrefix_C (internal_stringslite_CutPrefix) := by
  intro a0 a1 r h q m vs hv
  refine SC.weak ?_
  rw [hv]
  refine SC_of Tryd.func126 rfl (fun xs w => Tryd.call126 xs w) Tryd.ntmps126 (by kernel_rfl) (congrArg Array.toList Tryd.results126) V.weak (fun _ _ _ => V.weak_ok) ?_
  unfold internal_stringslite_CutPrefix at h
  refine SW_seq ?_
  refine SW_reg fun K hK => ?_
  simp only [go_sem, Nat.reduceAdd]
  apply hK
  simp only [thenQ_normal]
  refine SW_seq ?_
  refine SW_seq ?_
  obtain ⟨x1, h2, h⟩ := bind_some h
  refine SW_reg fun K hK => ?_
  simp only [go_sem, ↓reduceIte, Nat.reduceEqDiff, Nat.reduceAdd, reduceCtorEq]
  refine SC.by_ (internal_stringslite_HasPrefix_ok a0 a1 _ h2 _ _ _ (by simp only [go_sem])) ?_
  simp only [go_sem, ↓reduceIte, Nat.reduceAdd]
  apply hK
  simp only [thenQ_normal]
  refine SW_if (!x1) (by simp only [go_sem, ↓reduceIte]) (fun c3 => ?_) (fun c3 => ?_)
  · replace h := ite_t c3 h
    refine SW_seq ?_
    refine SW_reg fun K hK => ?_
    simp only [go_sem, ↓reduceIte, Nat.reduceAdd, reduceCtorEq, c3]
    apply hK
    simp only [thenQ_normal]
    refine SW_ret ?_
    try simp only [thenQ_ret]
    obtain rfl := some_eq h
    refine ⟨by first | exact .inl rfl | exact .inl trivial | exact .inr rfl | exact .inr trivial, ?_⟩
    simp only [go_sem, ↓reduceIte, Nat.reduceEqDiff, back_self]
  · replace h := ite_f c3 h
    refine SW_skip ?_
    try simp only [thenQ_normal]
    refine SW_seq ?_
    obtain ⟨⟨f4, f5⟩, h⟩ := need_some h
    refine SW_reg fun K hK => ?_
    simp only [go_sem, ↓reduceIte, Nat.reduceEqDiff, Nat.reduceAdd, reduceCtorEq, c3, f4, f5]
    apply hK
    simp only [thenQ_normal]
    refine SW_ret ?_
    try simp only []
    obtain rfl := some_eq h
    refine ⟨by first | exact .inl rfl | exact .inl trivial | exact .inr rfl | exact .inr trivial, ?_⟩
    simp only [go_sem, ↓reduceIte, Nat.reduceEqDiff, back_self]

def strings_CutPrefix_C (f : Str → Str → Option (Str × Bool)) : Prop := ∀ (a0 : Str) (a1 : Str) (r : (Str × Bool)), f a0 a1 = some r → ∀ (q : Pa) (m : M) (vs : List V), vs.map V.weak1 = [.lit (.string (bs a0)), .lit (.string (bs a1))] → SC Tryd.prog 103 vs q m (fun v m' => v = .tup [.lit (.string (bs r.1)), .lit (.bool r.2)] ∧ m' = m)

theorem strings_CutPrefix_ok : strings_CutPrefix_C (strings_CutPrefix) := by
  intro a0 a1 r h q m vs hv
  refine SC.weak ?_
  rw [hv]
  refine SC_of Tryd.func103 rfl (fun xs w => Tryd.call103 xs w) Tryd.ntmps103 (by kernel_rfl) (congrArg Array.toList Tryd.results103) V.weak (fun _ _ _ => V.weak_ok) ?_
  unfold strings_CutPrefix at h
  refine SW_seq ?_
  refine SW_reg fun K hK => ?_
  simp only [go_sem, Nat.reduceAdd]
  apply hK
  simp only [thenQ_normal]
  refine SW_seq ?_
  obtain ⟨x1, h2, h⟩ := bind_some h
  refine SW_reg fun K hK => ?_
  simp only [go_sem, ↓reduceIte, Nat.reduceEqDiff, Nat.reduceAdd, reduceCtorEq]
  refine SC.by_ (internal_stringslite_CutPrefix_ok a0 a1 _ h2 _ _ _ (by simp only [go_sem])) ?_
  simp only [go_sem, ↓reduceIte, Nat.reduceEqDiff, Nat.reduceAdd]
  apply hK
  simp only [thenQ_normal]
  refine SW_ret ?_
  try simp only []
  obtain rfl := some_eq h
  refine ⟨by first | exact .inl rfl | exact .inl trivial | exact .inr rfl | exact .inr trivial, ?_⟩
  simp only [go_sem, ↓reduceIte, Nat.reduceEqDiff, back_self]

def lex_value_C (f : Str → Option (Int × Bool)) : Prop := ∀ (a0 : Str) (r : (Int × Bool)), f a0 = some r → ∀ (q : Pa) (m : M) (vs : List V), vs.map V.weak1 = [.lit (.string (bs a0))] → SC Tryd.prog 84 vs q m (fun v m' => v = .tup [.lit (.int .u32 r.1), .lit (.bool r.2)] ∧ m' = m)

theorem lex_value_ok (n : Nat) : lex_value_C (lex_value n) := by
  intro a0 r h q m vs hv
  refine SC.weak ?_
  rw [hv]
  refine SC_of Tryd.func84 rfl (fun xs w => Tryd.call84 xs w) Tryd.ntmps84 (by kernel_rfl) (congrArg Array.toList Tryd.results84) V.weak (fun _ _ _ => V.weak_ok) ?_
  unfold lex_value at h
  refine SW_seq ?_
  refine SW_reg fun K hK => ?_
  simp only [go_sem, Nat.reduceAdd]
  apply hK
  simp only [thenQ_normal]
  refine SW_seq ?_
  refine SW_reg fun K hK => ?_
  simp only [go_sem, Nat.reduceAdd]
  apply hK
  simp only [thenQ_normal]
  refine SW_seq ?_
  refine SW_seq ?_
  obtain ⟨x1, h2, h⟩ := bind_some h
  refine SW_reg fun K hK => ?_
  simp only [go_sem, ↓reduceIte, Nat.reduceAdd, reduceCtorEq]
  refine SC.by_ (strings_CutPrefix_ok a0 ([48, 120] : Str) _ h2 _ _ _ (by simp only [go_sem])) ?_
  simp only [go_sem, ↓reduceIte, Nat.reduceEqDiff, Nat.reduceAdd]
  apply hK
  simp only [thenQ_normal]
  refine SW_seq ?_
  refine SW_reg fun K hK => ?_
  simp only [go_sem, ↓reduceIte, Nat.reduceAdd]
  apply hK
  simp only [thenQ_normal]
  refine SW_if x1.2 (by simp only [go_sem, ↓reduceIte]) (fun c3 => ?_) (fun c3 => ?_)
  · replace h := ite_t c3 h
    refine SW_reg fun K hK => ?_
    simp only [go_sem, ↓reduceIte, Nat.reduceEqDiff, Nat.reduceAdd, c3]
    apply hK
    simp only [thenQ_normal]
    refine SW_seq ?_
    refine SW_reg fun K hK => ?_
    simp only [go_sem, Nat.reduceAdd]
    apply hK
    simp only [thenQ_normal]
    refine SW_seq ?_
    refine SW_seq ?_
    refine SW_reg fun K hK => ?_
    simp only [go_sem, ↓reduceIte, Nat.reduceAdd, reduceCtorEq]
    apply hK
    simp only [thenQ_normal]
    refine SW_block ?_
    obtain ⟨y7, hy7, h⟩ := bind_some h
    refine SW_countW [] [] rfl (fun c E' m' => ∃ (v5 : Int), ∃ (v6 : Int), lex_value_l1 x1 c v5 v6 = some y7 ∧ E' 0 = .lit (.string (bs x1.1)) ∧ E' 4 = .lit (.int .i64 (16 : Int)) ∧ E' 7 = .lit (.int .i64 v5) ∧ E' 18 = .lit (.int .i64 (x1.1.length : Int)) ∧ E' 19 = .lit (.int .i64 v6) ∧ m'.gl = m.gl ∧ m.back q m' = m) n ⟨(0 : Int), (0 : Int), hy7, ?_⟩ ?_
    · simp only [go_sem, ↓reduceIte, Nat.reduceEqDiff, reduceCtorEq, back_self]
    rintro i4 c8 E9 m10 ⟨v5, v6, hy7, e11⟩ _
    rcases c8 with _ | c8
    · exact absurd hy7 (by rw [lex_value_l1]; exact fun e => nomatch e)
    rw [lex_value_l1] at hy7
    refine SW_seq ?_
    refine SW_reg fun K hK => ?_
    simp only [go_sem, e11]
    apply hK
    simp only [thenQ_normal]
    refine SW_seq ?_
    refine SW_if (decide (v6 < (x1.1.length : Int))) (by simp only [go_sem, ↓reduceIte]) (fun c12 => ?_) (fun c12 => ?_)
    · replace hy7 := ite_t c12 hy7
      refine SW_skip ?_
      try simp only [thenQ_normal]
      refine SW_seq ?_
      refine SW_block ?_
      refine SW_seq ?_
      refine SW_reg fun K hK => ?_
      simp only [go_sem, ↓reduceIte, Nat.reduceEqDiff, Nat.reduceAdd, c12, e11]
      apply hK
      simp only [thenQ_normal]
      refine SW_seq ?_
      obtain ⟨⟨f15, f16⟩, hy7⟩ := need_some hy7
      obtain ⟨x13, h20, hy7⟩ := bind_some hy7
      obtain ⟨f17, f18, f19⟩ := idxL_some h20
      obtain ⟨x14, h21, hy7⟩ := bind_some hy7
      refine SW_drawK (tbl := [0, 1, 0, 0, 12, 31, 63]) (ord := [(0, 0), (1, 0), (2, 0), (3, 0), (4, 0), (5, 0), (6, 0)]) 10 rfl (by kernel_rfl) (by kernel_rfl) fun K hK => ?_
      simp only [go_sem, ↓reduceIte, Nat.reduceEqDiff, Nat.reduceAdd, reduceCtorEq, Int.reduceToNat, f15, f17, f19, e11]
      refine dcall_of (strings_IndexByte_ok (([48, 49, 50, 51, 52, 53, 54, 55, 56, 57, 97, 98, 99, 100, 101, 102] : Str).take (16 : Int).toNat) (x13.toNat : Int) _ h21 _ _ _ (by simp only [go_sem, Int.reduceToNat])) rfl ?_
      simp only [go_sem, ↓reduceIte]
      apply hK
      simp only [thenQ_normal]
      refine SW_seq ?_
      refine SW_reg fun K hK => ?_
      simp only [go_sem, ↓reduceIte, Nat.reduceEqDiff, Nat.reduceAdd, e11]
      apply hK
      simp only [thenQ_normal]
      refine SW_seq ?_
      obtain ⟨y22, hy22, hy7⟩ := bind_some hy7
      refine SW_joinK 22 [] [] rfl (fun E' m' => E' 0 = .lit (.string (bs x1.1)) ∧ E' 4 = .lit (.int .i64 (16 : Int)) ∧ E' 7 = .lit (.int .i64 (IntKind.i64.wrap ((IntKind.i64.wrap (v5 * (16 : Int))) + x14))) ∧ E' 18 = .lit (.int .i64 (x1.1.length : Int)) ∧ E' 19 = .lit (.int .i64 v6) ∧ E' 38 = .lit (.bool y22) ∧ m'.gl = m.gl ∧ m.back q m' = m) ?_ ?_
      · rcases bool_or (decide (x14 < (0 : Int))) with c23 | c23
        · replace hy22 := ite_t c23 hy22
          refine SW_reg fun K hK => ?_
          simp only [go_sem, ↓reduceIte, Nat.reduceEqDiff, Nat.reduceAdd, c23]
          apply hK
          simp only [thenQ_normal]
          obtain rfl := some_eq hy22
          refine ⟨by decide, ?_⟩
          simp only [go_sem, ↓reduceIte, Nat.reduceEqDiff, reduceCtorEq, e11]
        · replace hy22 := ite_f c23 hy22
          refine SW_reg fun K hK => ?_
          simp only [go_sem, ↓reduceIte, Nat.reduceEqDiff, Nat.reduceAdd, c23]
          apply hK
          simp only [thenQ_normal]
          obtain rfl := some_eq hy22
          refine ⟨by decide, ?_⟩
          simp only [go_sem, ↓reduceIte, Nat.reduceEqDiff, reduceCtorEq, e11]
      · intro E24 m25 e26 _
        simp only [thenQ_normal]
        refine SW_if y22 (by simp only [go_sem, e26]) (fun c27 => ?_) (fun c27 => ?_)
        · replace hy7 := ite_t c27 hy7
          refine SW_seq ?_
          refine SW_reg fun K hK => ?_
          simp only [go_sem, Nat.reduceAdd]
          apply hK
          simp only [thenQ_normal]
          refine SW_ret ?_
          try simp only [thenQ_ret, blockQ_ret]
          obtain rfl := some_eq hy7
          simp only [Sum.elim_inr] at h
          obtain rfl := some_eq h
          refine ⟨by first | exact .inl rfl | exact .inl trivial | exact .inr rfl | exact .inr trivial, ?_⟩
          simp only [go_sem, ↓reduceIte, Nat.reduceEqDiff, e26]
        · replace hy7 := ite_f c27 hy7
          refine SW_skip ?_
          try simp only [thenQ_normal, blockQ_normal]
          refine SW_reg fun K hK => ?_
          simp only [go_sem, ↓reduceIte, Nat.reduceAdd, e26]
          apply hK
          simp only [thenQ_normal]
          refine ⟨c8, Nat.lt_succ_self _, (IntKind.i64.wrap ((IntKind.i64.wrap (v5 * (16 : Int))) + x14)), (IntKind.i64.wrap (v6 + (1 : Int))), hy7, ?_⟩
          simp only [go_sem, ↓reduceIte, Nat.reduceEqDiff, reduceCtorEq, e26]
    · replace hy7 := ite_f c12 hy7
      refine SW_exit ?_
      try simp only [thenQ_exit, blockQ_exit, ↓reduceIte, thenQ_normal]
      obtain rfl := some_eq hy7
      simp only [Sum.elim_inl] at h
      refine SW_seq ?_
      refine SW_reg fun K hK => ?_
      simp only [go_sem, ↓reduceIte, Nat.reduceEqDiff, Nat.reduceAdd, reduceCtorEq, c12, e11]
      apply hK
      simp only [thenQ_normal]
      refine SW_ret ?_
      try simp only []
      obtain rfl := some_eq h
      refine ⟨by first | exact .inl rfl | exact .inl trivial | exact .inr rfl | exact .inr trivial, ?_⟩
      simp only [go_sem, ↓reduceIte, Nat.reduceEqDiff, e11]
  · replace h := ite_f c3 h
    refine SW_skip ?_
    try simp only [thenQ_normal]
    refine SW_seq ?_
    refine SW_reg fun K hK => ?_
    simp only [go_sem, Nat.reduceAdd, c3]
    apply hK
    simp only [thenQ_normal]
    refine SW_seq ?_
    refine SW_seq ?_
    refine SW_reg fun K hK => ?_
    simp only [go_sem, ↓reduceIte, Nat.reduceAdd, reduceCtorEq]
    apply hK
    simp only [thenQ_normal]
    refine SW_block ?_
    obtain ⟨y31, hy31, h⟩ := bind_some h
    refine SW_countW [] [] rfl (fun c E' m' => ∃ (v29 : Int), ∃ (v30 : Int), lex_value_l2 a0 c v29 v30 = some y31 ∧ E' 0 = .lit (.string (bs a0)) ∧ E' 4 = .lit (.int .i64 (10 : Int)) ∧ E' 7 = .lit (.int .i64 v29) ∧ E' 18 = .lit (.int .i64 (a0.length : Int)) ∧ E' 19 = .lit (.int .i64 v30) ∧ m'.gl = m.gl ∧ m.back q m' = m) n ⟨(0 : Int), (0 : Int), hy31, ?_⟩ ?_
    · simp only [go_sem, ↓reduceIte, Nat.reduceEqDiff, reduceCtorEq, back_self]
    rintro i28 c32 E33 m34 ⟨v29, v30, hy31, e35⟩ _
    rcases c32 with _ | c32
    · exact absurd hy31 (by rw [lex_value_l2]; exact fun e => nomatch e)
    rw [lex_value_l2] at hy31
    refine SW_seq ?_
    refine SW_reg fun K hK => ?_
    simp only [go_sem, e35]
    apply hK
    simp only [thenQ_normal]
    refine SW_seq ?_
    refine SW_if (decide (v30 < (a0.length : Int))) (by simp only [go_sem, ↓reduceIte]) (fun c36 => ?_) (fun c36 => ?_)
    · replace hy31 := ite_t c36 hy31
      refine SW_skip ?_
      try simp only [thenQ_normal]
      refine SW_seq ?_
      refine SW_block ?_
      refine SW_seq ?_
      refine SW_reg fun K hK => ?_
      simp only [go_sem, ↓reduceIte, Nat.reduceEqDiff, Nat.reduceAdd, c36, e35]
      apply hK
      simp only [thenQ_normal]
      refine SW_seq ?_
      obtain ⟨⟨f39, f40⟩, hy31⟩ := need_some hy31
      obtain ⟨x37, h44, hy31⟩ := bind_some hy31
      obtain ⟨f41, f42, f43⟩ := idxL_some h44
      obtain ⟨x38, h45, hy31⟩ := bind_some hy31
      refine SW_drawK (tbl := [0, 1, 0, 0, 12, 31, 63]) (ord := [(0, 0), (1, 0), (2, 0), (3, 0), (4, 0), (5, 0), (6, 0)]) 10 rfl (by kernel_rfl) (by kernel_rfl) fun K hK => ?_
      simp only [go_sem, ↓reduceIte, Nat.reduceEqDiff, Nat.reduceAdd, reduceCtorEq, Int.reduceLE, Int.reduceToNat, f39, f41, f43, e35]
      refine dcall_of (strings_IndexByte_ok (([48, 49, 50, 51, 52, 53, 54, 55, 56, 57, 97, 98, 99, 100, 101, 102] : Str).take (10 : Int).toNat) (x37.toNat : Int) _ h45 _ _ _ (by simp only [go_sem, Int.reduceToNat])) rfl ?_
      simp only [go_sem, ↓reduceIte]
      apply hK
      simp only [thenQ_normal]
      refine SW_seq ?_
      refine SW_reg fun K hK => ?_
      simp only [go_sem, ↓reduceIte, Nat.reduceEqDiff, Nat.reduceAdd, e35]
      apply hK
      simp only [thenQ_normal]
      refine SW_seq ?_
      obtain ⟨y46, hy46, hy31⟩ := bind_some hy31
      refine SW_joinK 22 [] [] rfl (fun E' m' => E' 0 = .lit (.string (bs a0)) ∧ E' 4 = .lit (.int .i64 (10 : Int)) ∧ E' 7 = .lit (.int .i64 (IntKind.i64.wrap ((IntKind.i64.wrap (v29 * (10 : Int))) + x38))) ∧ E' 18 = .lit (.int .i64 (a0.length : Int)) ∧ E' 19 = .lit (.int .i64 v30) ∧ E' 38 = .lit (.bool y46) ∧ m'.gl = m.gl ∧ m.back q m' = m) ?_ ?_
      · rcases bool_or (decide (x38 < (0 : Int))) with c47 | c47
        · replace hy46 := ite_t c47 hy46
          refine SW_reg fun K hK => ?_
          simp only [go_sem, ↓reduceIte, Nat.reduceEqDiff, Nat.reduceAdd, c47]
          apply hK
          simp only [thenQ_normal]
          obtain rfl := some_eq hy46
          refine ⟨by decide, ?_⟩
          simp only [go_sem, ↓reduceIte, Nat.reduceEqDiff, reduceCtorEq, e35]
        · replace hy46 := ite_f c47 hy46
          refine SW_reg fun K hK => ?_
          simp only [go_sem, ↓reduceIte, Nat.reduceEqDiff, Nat.reduceAdd, c47]
          apply hK
          simp only [thenQ_normal]
          obtain rfl := some_eq hy46
          refine ⟨by decide, ?_⟩
          simp only [go_sem, ↓reduceIte, Nat.reduceEqDiff, reduceCtorEq, e35]
      · intro E48 m49 e50 _
        simp only [thenQ_normal]
        refine SW_if y46 (by simp only [go_sem, e50]) (fun c51 => ?_) (fun c51 => ?_)
        · replace hy31 := ite_t c51 hy31
          refine SW_seq ?_
          refine SW_reg fun K hK => ?_
          simp only [go_sem, Nat.reduceAdd]
          apply hK
          simp only [thenQ_normal]
          refine SW_ret ?_
          try simp only [thenQ_ret, blockQ_ret]
          obtain rfl := some_eq hy31
          simp only [Sum.elim_inr] at h
          obtain rfl := some_eq h
          refine ⟨by first | exact .inl rfl | exact .inl trivial | exact .inr rfl | exact .inr trivial, ?_⟩
          simp only [go_sem, ↓reduceIte, Nat.reduceEqDiff, e50]
        · replace hy31 := ite_f c51 hy31
          refine SW_skip ?_
          try simp only [thenQ_normal, blockQ_normal]
          refine SW_reg fun K hK => ?_
          simp only [go_sem, ↓reduceIte, Nat.reduceAdd, e50]
          apply hK
          simp only [thenQ_normal]
          refine ⟨c32, Nat.lt_succ_self _, (IntKind.i64.wrap ((IntKind.i64.wrap (v29 * (10 : Int))) + x38)), (IntKind.i64.wrap (v30 + (1 : Int))), hy31, ?_⟩
          simp only [go_sem, ↓reduceIte, Nat.reduceEqDiff, reduceCtorEq, e50]
    · replace hy31 := ite_f c36 hy31
      refine SW_exit ?_
      try simp only [thenQ_exit, blockQ_exit, ↓reduceIte, thenQ_normal]
      obtain rfl := some_eq hy31
      simp only [Sum.elim_inl] at h
      refine SW_seq ?_
      refine SW_reg fun K hK => ?_
      simp only [go_sem, ↓reduceIte, Nat.reduceEqDiff, Nat.reduceAdd, reduceCtorEq, c36, e35]
      apply hK
      simp only [thenQ_normal]
      refine SW_ret ?_
      try simp only []
      obtain rfl := some_eq h
      refine ⟨by first | exact .inl rfl | exact .inl trivial | exact .inr rfl | exact .inr trivial, ?_⟩
      simp only [go_sem, ↓reduceIte, Nat.reduceEqDiff, e35]

def lex_sign_C (f : Str → Option Str) : Prop := ∀ (a0 : Str) (r : Str), f a0 = some r → ∀ (q : Pa) (m : M) (vs : List V), vs.map V.weak1 = [.lit (.string (bs a0))] ∧ m.gl 3 = .eptr [(cA cS g_lex_signs)] 0 0 → SC Tryd.prog 85 vs q m (fun v m' => v = .lit (.string (bs r)) ∧ m' = m)

theorem lex_sign_ok (n : Nat) : lex_sign_C (lex_sign n) := by
  rintro a0 r h q m vs ⟨hv, hg3⟩
  refine SC.weak ?_
  rw [hv]
  refine SC_of Tryd.func85 rfl (fun xs w => Tryd.call85 xs w) Tryd.ntmps85 (by kernel_rfl) (congrArg Array.toList Tryd.results85) V.weak (fun _ _ _ => V.weak_ok) ?_
  unfold lex_sign at h
  refine SW_seq ?_
  refine SW_reg fun K hK => ?_
  simp only [go_sem]
  apply hK
  simp only [thenQ_normal]
  refine SW_seq ?_
  refine SW_seq ?_
  refine SW_reg fun K hK => ?_
  simp only [go_sem, Nat.reduceAdd, hg3]
  apply hK
  simp only [thenQ_normal]
  refine SW_block ?_
  obtain ⟨y3, hy3, h⟩ := bind_some h
  refine SW_countW [] [] rfl (fun c E' m' => ∃ (v2 : Int), lex_sign_l1 a0 c v2 = some y3 ∧ E' 0 = .lit (.string (bs a0)) ∧ E' 5 = .agg ((cA cS g_lex_signs)) ∧ E' 6 = .lit (.int .i64 v2) ∧ m'.gl = m.gl ∧ m.back q m' = m) n ⟨(0 : Int), hy3, ?_⟩ ?_
  · simp only [go_sem, ↓reduceIte, Nat.reduceEqDiff, reduceCtorEq, back_self]
  rintro i1 c4 E5 m6 ⟨v2, hy3, e7⟩ _
  rcases c4 with _ | c4
  · exact absurd hy3 (by rw [lex_sign_l1]; exact fun e => nomatch e)
  rw [lex_sign_l1] at hy3
  refine SW_seq ?_
  refine SW_reg fun K hK => ?_
  simp only [go_sem, e7]
  apply hK
  simp only [thenQ_normal]
  refine SW_seq ?_
  refine SW_if (decide (v2 < (26 : Int))) (by simp only [go_sem, ↓reduceIte]) (fun c8 => ?_) (fun c8 => ?_)
  · replace hy3 := ite_t c8 hy3
    refine SW_skip ?_
    try simp only [thenQ_normal]
    refine SW_seq ?_
    refine SW_block ?_
    refine SW_seq ?_
    obtain ⟨x9, h13, hy3⟩ := bind_some hy3
    obtain ⟨f10, f11, f12⟩ := idxL_some h13
    have f14 : v2 < (26 : Int) := f11
    obtain ⟨w15, d16⟩ := cA_drop (f := cS) (s := 1) (fun _ _ => rfl) f12
    simp only [go_sem] at d16
    refine SW_reg fun K hK => ?_
    simp only [go_sem, ↓reduceIte, Nat.reduceEqDiff, Nat.reduceAdd, f10, f14, d16, e7]
    apply hK
    simp only [thenQ_normal]
    refine SW_seq ?_
    obtain ⟨x17, h18, hy3⟩ := bind_some hy3
    refine SW_reg fun K hK => ?_
    simp only [go_sem, ↓reduceIte, Nat.reduceEqDiff, Nat.reduceAdd, reduceCtorEq, e7]
    refine SC.by_ (strings_HasPrefix_ok a0 x9 _ h18 _ _ _ (by simp only [go_sem])) ?_
    simp only [go_sem, Nat.reduceAdd]
    apply hK
    simp only [thenQ_normal]
    refine SW_if x17 (by simp only [go_sem, ↓reduceIte]) (fun c19 => ?_) (fun c19 => ?_)
    · replace hy3 := ite_t c19 hy3
      refine SW_seq ?_
      refine SW_reg fun K hK => ?_
      simp only [go_sem, ↓reduceIte, Nat.reduceEqDiff, Nat.reduceAdd, c19]
      apply hK
      simp only [thenQ_normal]
      refine SW_ret ?_
      try simp only [thenQ_ret, blockQ_ret]
      obtain rfl := some_eq hy3
      simp only [Sum.elim_inr] at h
      obtain rfl := some_eq h
      refine ⟨by first | exact .inl rfl | exact .inl trivial | exact .inr rfl | exact .inr trivial, ?_⟩
      simp only [go_sem, ↓reduceIte, e7]
    · replace hy3 := ite_f c19 hy3
      refine SW_skip ?_
      try simp only [thenQ_normal, blockQ_normal]
      refine SW_reg fun K hK => ?_
      simp only [go_sem, ↓reduceIte, Nat.reduceEqDiff, Nat.reduceAdd, c19, e7]
      apply hK
      simp only [thenQ_normal]
      refine ⟨c4, Nat.lt_succ_self _, (IntKind.i64.wrap (v2 + (1 : Int))), hy3, ?_⟩
      simp only [go_sem, ↓reduceIte, Nat.reduceEqDiff, reduceCtorEq, e7]
  · replace hy3 := ite_f c8 hy3
    refine SW_exit ?_
    try simp only [thenQ_exit, blockQ_exit, ↓reduceIte, thenQ_normal]
    obtain rfl := some_eq hy3
    simp only [Sum.elim_inl] at h
    refine SW_seq ?_
    refine SW_reg fun K hK => ?_
    simp only [go_sem, Nat.reduceAdd, c8]
    apply hK
    simp only [thenQ_normal]
    refine SW_ret ?_
    try simp only []
    obtain rfl := some_eq h
    refine ⟨by first | exact .inl rfl | exact .inl trivial | exact .inr rfl | exact .inr trivial, ?_⟩
    simp only [go_sem, ↓reduceIte, e7]

def lex_next_C (f : Str → Int → Option (T_lex_Token × Int)) : Prop := ∀ (a0 : Str) (a1 : Int) (r : (T_lex_Token × Int)), f a0 a1 = some r → ∀ (q : Pa) (m : M) (vs : List V), vs.map V.weak1 = [.lit (.string (bs a0)), .lit (.int .i64 a1)] ∧ m.gl 3 = .eptr [(cA cS g_lex_signs)] 0 0 → SC Tryd.prog 45 vs q m (fun v m' => v = .tup [.agg ((T_lex_Token.C r.1)), .lit (.int .i64 r.2)] ∧ m' = m)

theorem lex_next_ok (n : Nat) : lex_next_C (lex_next n) := by
  rintro a0 a1 r h q m vs ⟨hv, hg3⟩
  refine SC.weak ?_
  rw [hv]
  refine SC_of Tryd.func45 rfl (fun xs w => Tryd.call45 xs w) Tryd.ntmps45 (by kernel_rfl) (congrArg Array.toList Tryd.results45) V.weak (fun _ _ _ => V.weak_ok) ?_
  unfold lex_next at h
  refine SW_seq ?_
  refine SW_reg fun K hK => ?_
  simp only [go_sem, Nat.reduceAdd]
  apply hK
  simp only [thenQ_normal]
  refine SW_seq ?_
  obtain ⟨⟨f4, f5⟩, h⟩ := need_some h
  obtain ⟨x2, h6, h⟩ := bind_some h
  refine SW_reg fun K hK => ?_
  simp only [go_sem, ↓reduceIte, Nat.reduceEqDiff, Nat.reduceAdd, reduceCtorEq, f4, f5]
  refine SC.by_ (lex_word_ok n (a0.drop a1.toNat) _ h6 _ _ _ (by simp only [go_sem])) ?_
  simp only [go_sem, ↓reduceIte, Nat.reduceEqDiff, Nat.reduceAdd, Nat.reduceLeDiff]
  apply hK
  simp only [thenQ_normal]
  refine SW_seq ?_
  refine SW_block ?_
  refine SW_seq ?_
  obtain ⟨x7, h12, h⟩ := bind_some h
  obtain ⟨f9, f10, f11⟩ := idxL_some h12
  obtain ⟨x8, h13, h⟩ := bind_some h
  refine SW_reg fun K hK => ?_
  simp only [go_sem, ↓reduceIte, Nat.reduceEqDiff, Nat.reduceAdd, reduceCtorEq, f4, f11]
  refine SC.by_ (lex_Letter_ok (x7.toNat : Int) _ h13 _ _ _ (by simp only [go_sem])) ?_
  simp only [go_sem, ↓reduceIte, Nat.reduceAdd]
  apply hK
  simp only [thenQ_normal]
  refine SW_if x8 (by simp only [go_sem, ↓reduceIte]) (fun c14 => ?_) (fun c14 => ?_)
  · replace h := ite_t c14 h
    refine SW_seq ?_
    refine SW_seq ?_
    refine SW_reg fun K hK => ?_
    simp only [go_sem, ↓reduceIte, Nat.reduceEqDiff, Nat.reduceAdd, c14]
    apply hK
    simp only [thenQ_normal]
    refine SW_if (decide ((32 : Int) < (x2.length : Int))) (by simp only [go_sem, ↓reduceIte]) (fun c15 => ?_) (fun c15 => ?_)
    · replace h := ite_t c15 h
      refine SW_seq ?_
      refine SW_reg fun K hK => ?_
      simp only [go_sem, ↓reduceIte, Nat.reduceEqDiff, Nat.reduceAdd, reduceCtorEq, c15]
      apply hK
      simp only [thenQ_normal]
      refine SW_ret ?_
      try simp only [thenQ_ret, blockQ_ret]
      obtain rfl := some_eq h
      refine ⟨by first | exact .inl rfl | exact .inl trivial | exact .inr rfl | exact .inr trivial, ?_⟩
      simp only [go_sem, ↓reduceIte, Nat.reduceEqDiff, Nat.reduceAdd, back_set, back_self]
    · replace h := ite_f c15 h
      refine SW_skip ?_
      try simp only [thenQ_normal]
      refine SW_seq ?_
      refine SW_reg fun K hK => ?_
      simp only [go_sem, ↓reduceIte, Nat.reduceEqDiff, Nat.reduceAdd, reduceCtorEq, c15]
      apply hK
      simp only [thenQ_normal]
      refine SW_ret ?_
      try simp only [thenQ_ret, blockQ_ret]
      obtain rfl := some_eq h
      refine ⟨by first | exact .inl rfl | exact .inl trivial | exact .inr rfl | exact .inr trivial, ?_⟩
      simp only [go_sem, ↓reduceIte, Nat.reduceEqDiff, Nat.reduceAdd, back_set, back_self]
  · replace h := ite_f c14 h
    refine SW_seq ?_
    obtain ⟨x16, h17, h⟩ := bind_some h
    refine SW_reg fun K hK => ?_
    simp only [go_sem, ↓reduceIte, Nat.reduceEqDiff, Nat.reduceAdd, reduceCtorEq, f4, f11, c14]
    refine SC.by_ (lex_Digit_ok (x7.toNat : Int) _ h17 _ _ _ (by simp only [go_sem])) ?_
    simp only [go_sem, ↓reduceIte, Nat.reduceAdd]
    apply hK
    simp only [thenQ_normal]
    refine SW_if x16 (by simp only [go_sem, ↓reduceIte]) (fun c18 => ?_) (fun c18 => ?_)
    · replace h := ite_t c18 h
      refine SW_seq ?_
      obtain ⟨x19, h20, h⟩ := bind_some h
      refine SW_reg fun K hK => ?_
      simp only [go_sem, ↓reduceIte, Nat.reduceEqDiff, Nat.reduceAdd, c18]
      refine SC.by_ (lex_value_ok n x2 _ h20 _ _ _ (by simp only [go_sem])) ?_
      simp only [go_sem, ↓reduceIte, Nat.reduceEqDiff, Nat.reduceAdd]
      apply hK
      simp only [thenQ_normal]
      refine SW_seq ?_
      refine SW_seq ?_
      refine SW_reg fun K hK => ?_
      simp only [go_sem, ↓reduceIte, Nat.reduceAdd]
      apply hK
      simp only [thenQ_normal]
      refine SW_if (!x19.2) (by simp only [go_sem, ↓reduceIte]) (fun c21 => ?_) (fun c21 => ?_)
      · replace h := ite_t c21 h
        refine SW_seq ?_
        refine SW_reg fun K hK => ?_
        simp only [go_sem, ↓reduceIte, Nat.reduceEqDiff, Nat.reduceAdd, reduceCtorEq, c21]
        apply hK
        simp only [thenQ_normal]
        refine SW_ret ?_
        try simp only [thenQ_ret, blockQ_ret]
        obtain rfl := some_eq h
        refine ⟨by first | exact .inl rfl | exact .inl trivial | exact .inr rfl | exact .inr trivial, ?_⟩
        simp only [go_sem, ↓reduceIte, Nat.reduceEqDiff, Nat.reduceAdd, back_set, back_self]
      · replace h := ite_f c21 h
        refine SW_skip ?_
        try simp only [thenQ_normal]
        refine SW_seq ?_
        refine SW_reg fun K hK => ?_
        simp only [go_sem, ↓reduceIte, Nat.reduceEqDiff, Nat.reduceAdd, Nat.reduceLeDiff, c21]
        apply hK
        simp only [thenQ_normal]
        refine SW_seq ?_
        refine SW_reg fun K hK => ?_
        simp only [go_sem, ↓reduceIte, Nat.reduceEqDiff, Nat.reduceAdd, reduceCtorEq]
        apply hK
        simp only [thenQ_normal]
        refine SW_ret ?_
        try simp only [thenQ_ret, blockQ_ret]
        obtain rfl := some_eq h
        refine ⟨by first | exact .inl rfl | exact .inl trivial | exact .inr rfl | exact .inr trivial, ?_⟩
        simp only [go_sem, ↓reduceIte, Nat.reduceEqDiff, Nat.reduceAdd, back_set, back_self]
    · replace h := ite_f c18 h
      refine SW_skip ?_
      try simp only [thenQ_normal, blockQ_normal]
      refine SW_seq ?_
      obtain ⟨⟨f23, f24⟩, h⟩ := need_some h
      obtain ⟨x22, h25, h⟩ := bind_some h
      refine SW_reg fun K hK => ?_
      simp only [go_sem, ↓reduceIte, Nat.reduceEqDiff, Nat.reduceAdd, reduceCtorEq, f4, f5, c18]
      refine SC.by_ (lex_sign_ok n (a0.drop a1.toNat) _ h25 _ _ _ (by simp only [go_sem, hg3])) ?_
      simp only [go_sem, ↓reduceIte, Nat.reduceEqDiff, Nat.reduceAdd, Nat.reduceLeDiff]
      apply hK
      simp only [thenQ_normal]
      refine SW_seq ?_
      refine SW_seq ?_
      refine SW_reg fun K hK => ?_
      simp only [go_sem, ↓reduceIte, Nat.reduceEqDiff, Nat.reduceAdd]
      apply hK
      simp only [thenQ_normal]
      refine SW_if (decide (x22 = ([] : Str))) (by simp only [go_sem, ↓reduceIte]) (fun c26 => ?_) (fun c26 => ?_)
      · replace h := ite_t c26 h
        refine SW_seq ?_
        refine SW_reg fun K hK => ?_
        simp only [go_sem, ↓reduceIte, Nat.reduceEqDiff, Nat.reduceAdd, reduceCtorEq, c26]
        apply hK
        simp only [thenQ_normal]
        refine SW_ret ?_
        try simp only [thenQ_ret]
        obtain rfl := some_eq h
        refine ⟨by first | exact .inl rfl | exact .inl trivial | exact .inr rfl | exact .inr trivial, ?_⟩
        simp only [go_sem, ↓reduceIte, Nat.reduceEqDiff, Nat.reduceAdd, back_set, back_self]
      · replace h := ite_f c26 h
        refine SW_skip ?_
        try simp only [thenQ_normal]
        refine SW_seq ?_
        refine SW_reg fun K hK => ?_
        simp only [go_sem, ↓reduceIte, Nat.reduceEqDiff, Nat.reduceAdd, reduceCtorEq, c26]
        apply hK
        simp only [thenQ_normal]
        refine SW_ret ?_
        try simp only []
        obtain rfl := some_eq h
        refine ⟨by first | exact .inl rfl | exact .inl trivial | exact .inr rfl | exact .inr trivial, ?_⟩
        simp only [go_sem, ↓reduceIte, Nat.reduceEqDiff, Nat.reduceAdd, back_set, back_self]

def lex_Tokens_C (f : Str → Option ((List T_lex_Token) × Int × Int)) : Prop := ∀ (a0 : Str) (r : ((List T_lex_Token) × Int × Int)), f a0 = some r → ∀ (q : Pa) (m : M) (vs : List V), vs.map V.weak1 = [.list .none (byteRows a0)] ∧ m.gl 3 = .eptr [(cA cS g_lex_signs)] 0 0 → SC Tryd.prog 27 vs q m (fun v m' => v = .tup [.list .none (r.1.map T_lex_Token.C), .lit (.int .i64 r.2.1), .lit (.int .i64 r.2.2)] ∧ m' = m)

theorem lex_Tokens_ok (n : Nat) : lex_Tokens_C (lex_Tokens n) := by
  rintro a0 r h q m vs ⟨hv, hg3⟩
  refine SC.weak ?_
  rw [hv]
  refine SC_of Tryd.func27 rfl (fun xs w => Tryd.call27 xs w) Tryd.ntmps27 (by kernel_rfl) (congrArg Array.toList Tryd.results27) V.weak (fun _ _ _ => V.weak_ok) ?_
  unfold lex_Tokens at h
  refine SW_seq ?_
  refine SW_reg fun K hK => ?_
  simp only [go_sem, Nat.reduceAdd]
  apply hK
  simp only [thenQ_normal]
  refine SW_seq ?_
  refine SW_seq ?_
  refine SW_reg fun K hK => ?_
  simp only [go_sem, ↓reduceIte, Nat.reduceAdd, reduceCtorEq]
  apply hK
  simp only [thenQ_normal]
  refine SW_if (decide ((65536 : Int) < (a0.length : Int))) (by simp only [go_sem, ↓reduceIte]) (fun c1 => ?_) (fun c1 => ?_)
  · replace h := ite_t c1 h
    refine SW_seq ?_
    refine SW_reg fun K hK => ?_
    simp only [go_sem, Nat.reduceAdd, c1]
    apply hK
    simp only [thenQ_normal]
    refine SW_ret ?_
    try simp only [thenQ_ret]
    obtain rfl := some_eq h
    refine ⟨by first | exact .inl rfl | exact .inl trivial | exact .inr rfl | exact .inr trivial, ?_⟩
    simp only [go_sem, ↓reduceIte, Nat.reduceEqDiff, back_self]
  · replace h := ite_f c1 h
    refine SW_skip ?_
    try simp only [thenQ_normal]
    refine SW_seq ?_
    refine SW_reg fun K hK => ?_
    simp only [go_sem, ↓reduceIte, Nat.reduceAdd, reduceCtorEq, c1]
    apply hK
    simp only [thenQ_normal]
    refine SW_seq ?_
    refine SW_reg fun K hK => ?_
    simp only [go_sem, Nat.reduceAdd]
    apply hK
    simp only [thenQ_normal]
    refine SW_seq ?_
    refine SW_seq ?_
    obtain ⟨x2, h3, h⟩ := bind_some h
    refine SW_reg fun K hK => ?_
    simp only [go_sem, ↓reduceIte, Nat.reduceEqDiff, Nat.reduceAdd]
    refine SC.by_ (lex_skip_ok n a0 (0 : Int) _ h3 _ _ _ (by simp only [go_sem])) ?_
    simp only [go_sem, ↓reduceIte, Nat.reduceAdd]
    apply hK
    simp only [thenQ_normal]
    refine SW_block ?_
    obtain ⟨y7, hy7, h⟩ := bind_some h
    refine SW_stamp 6 ([].map T_lex_Token.C) rfl (by simp only [go_sem, ↓reduceIte, Nat.reduceEqDiff]) ?_
    refine SW_countW [] [] rfl (fun c E' m' => ∃ (v5 : (List T_lex_Token)), ∃ (v6 : Int), ∃ (o_v5 : Pa) (j_v5 : Nat), lex_Tokens_l1 n a0 c v5 v6 = some y7 ∧ E' 5 = .lit (.string (bs a0)) ∧ E' 6 = .list (.st (.anon o_v5 j_v5)) (v5.map T_lex_Token.C) ∧ m'.tok o_v5 j_v5 = true ∧ q <:+ o_v5 ∧ E' 7 = .lit (.int .i64 v6) ∧ m'.gl = m.gl ∧ m.back q m' = m) n ⟨[], x2, (13 :: q), 0, hy7, ?_⟩ ?_
    · simp only [go_sem, ↓reduceIte, Nat.reduceEqDiff, back_tokset, back_self]
    rintro i4 c8 E9 m10 ⟨v5, v6, o_v5, j_v5, hy7, e11⟩ _
    rcases c8 with _ | c8
    · exact absurd hy7 (by rw [lex_Tokens_l1]; exact fun e => nomatch e)
    rw [lex_Tokens_l1] at hy7
    refine SW_seq ?_
    refine SW_seq ?_
    refine SW_reg fun K hK => ?_
    simp only [go_sem, ↓reduceIte, Nat.reduceEqDiff, Nat.reduceAdd, e11]
    apply hK
    simp only [thenQ_normal]
    refine SW_if (decide (v6 < (a0.length : Int))) (by simp only [go_sem, ↓reduceIte]) (fun c12 => ?_) (fun c12 => ?_)
    · replace hy7 := ite_t c12 hy7
      refine SW_skip ?_
      try simp only [thenQ_normal]
      refine SW_seq ?_
      refine SW_block ?_
      refine SW_seq ?_
      obtain ⟨x13, h15, hy7⟩ := bind_some hy7
      refine SW_reg fun K hK => ?_
      simp only [go_sem, ↓reduceIte, Nat.reduceEqDiff, Nat.reduceAdd, c12, e11]
      refine SC.by_ (lex_next_ok n a0 v6 _ h15 _ _ _ (by simp only [go_sem, e11, hg3])) ?_
      simp only [go_sem, ↓reduceIte, Nat.reduceEqDiff, Nat.reduceAdd]
      apply hK
      simp only [thenQ_normal]
      refine SW_seq ?_
      refine SW_seq ?_
      refine SW_reg fun K hK => ?_
      simp only [go_sem, ↓reduceIte, Nat.reduceAdd]
      apply hK
      simp only [thenQ_normal]
      refine SW_if (x13.2 != (0 : Int)) (by simp only [go_sem, ↓reduceIte]) (fun c16 => ?_) (fun c16 => ?_)
      · replace hy7 := ite_t c16 hy7
        refine SW_seq ?_
        refine SW_reg fun K hK => ?_
        simp only [go_sem, ↓reduceIte, Nat.reduceEqDiff, Nat.reduceAdd, c16, e11]
        apply hK
        simp only [thenQ_normal]
        refine SW_ret ?_
        try simp only [thenQ_ret, blockQ_ret]
        obtain rfl := some_eq hy7
        simp only [Sum.elim_inr] at h
        obtain rfl := some_eq h
        refine ⟨by first | exact .inl rfl | exact .inl trivial | exact .inr rfl | exact .inr trivial, ?_⟩
        simp only [go_sem, ↓reduceIte, Nat.reduceEqDiff, back_set, e11]
      · replace hy7 := ite_f c16 hy7
        refine SW_skip ?_
        try simp only [thenQ_normal]
        refine SW_seq ?_
        obtain ⟨f17, hy7⟩ := need_some hy7
        have f18 : v5.length + 1 ≤ 1073741824 := by first | omega | (simp only [List.length_append, List.length_cons, List.length_nil] at f17 ⊢; omega)
        have f19 : v5.length ≤ 1073741823 := by first | omega | (simp only [List.length_append, List.length_cons, List.length_nil] at f17 ⊢; omega)
        refine SW_reg fun K hK => ?_
        simp only [go_sem, ↓reduceIte, Nat.reduceEqDiff, Nat.reduceAdd, Nat.reduceLT, Nat.reduceLeDiff, c16, f18, e11]
        apply hK
        simp only [thenQ_normal]
        refine SW_reg fun K hK => ?_
        simp only [go_sem, ↓reduceIte, Nat.reduceEqDiff, Nat.reduceAdd, e11]
        apply hK
        simp only [thenQ_normal, blockQ_normal]
        obtain ⟨x20, h21, hy7⟩ := bind_some hy7
        refine SW_reg fun K hK => ?_
        simp only [go_sem, ↓reduceIte, Nat.reduceEqDiff, Nat.reduceAdd, e11]
        refine SC.by_ (lex_skip_ok n a0 (IntKind.i64.wrap (v6 + (x13.1.Text_.length : Int))) _ h21 _ _ _ (by simp only [go_sem])) ?_
        simp only [go_sem, ↓reduceIte, Nat.reduceAdd]
        apply hK
        simp only [thenQ_normal]
        refine ⟨c8, Nat.lt_succ_self _, (v5 ++ [x13.1]), x20, (18 :: i4 :: 14 :: q), 0, hy7, ?_⟩
        simp only [go_sem, ↓reduceIte, Nat.reduceEqDiff, back_set, back_tokset, e11]
    · replace hy7 := ite_f c12 hy7
      refine SW_exit ?_
      try simp only [thenQ_exit, blockQ_exit, ↓reduceIte, thenQ_normal]
      obtain rfl := some_eq hy7
      simp only [Sum.elim_inl] at h
      refine SW_seq ?_
      obtain ⟨f22, h⟩ := need_some h
      have f23 : v5.length + 1 ≤ 1073741824 := by first | omega | (simp only [List.length_append, List.length_cons, List.length_nil] at f22 ⊢; omega)
      have f24 : v5.length ≤ 1073741823 := by first | omega | (simp only [List.length_append, List.length_cons, List.length_nil] at f22 ⊢; omega)
      refine SW_reg fun K hK => ?_
      simp only [go_sem, ↓reduceIte, Nat.reduceEqDiff, Nat.reduceAdd, Nat.reduceLT, Nat.reduceLeDiff, c12, f23, e11]
      apply hK
      simp only [thenQ_normal]
      refine SW_ret ?_
      try simp only []
      obtain rfl := some_eq h
      refine ⟨by first | exact .inl rfl | exact .inl trivial | exact .inr rfl | exact .inr trivial, ?_⟩
      simp only [go_sem, ↓reduceIte, Nat.reduceEqDiff, back_tokset, e11]

def p_parse_parser_token_C (f : T_parse_parser → Option T_lex_Token) : Prop := ∀ (a0 : T_parse_parser) (r : T_lex_Token), f a0 = some r → ∀ (q : Pa) (m : M) (vs : List V) (P0 : Pa), vs.map V.weak1 = [.ptr P0 0] ∧ m.blk P0 = some ((T_parse_parser.C a0)) → SC Tryd.prog 29 vs q m (fun v m' => v = .agg ((T_lex_Token.C r)) ∧ m' = m)

theorem p_parse_parser_token_ok : p_parse_parser_token_C (p_parse_parser_token) := by
  rintro a0 r h q m vs P0 ⟨hv, hmP0⟩
  refine SC.weak ?_
  rw [hv]
  refine SC.apart hmP0 fun hpP0 => ?_
  try simp only [go_sem] at hmP0
  refine SC_of Tryd.func29 rfl (fun xs w => Tryd.call29 xs w) Tryd.ntmps29 (by kernel_rfl) (congrArg Array.toList Tryd.results29) V.weak (fun _ _ _ => V.weak_ok) ?_
  unfold p_parse_parser_token at h
  refine SW_seq ?_
  refine SW_reg fun K hK => ?_
  simp only [go_sem]
  apply hK
  simp only [thenQ_normal]
  refine SW_seq ?_
  obtain ⟨x2, h6, h⟩ := bind_some h
  obtain ⟨f3, f4, f5⟩ := idxL_some h6
  refine SW_drawK (tbl := [0, 1, 3, 7, 0, 16, 48, 112, 255, 511, 1023]) (ord := [(0, 0), (1, 0), (2, 0), (3, 0), (4, 0), (5, 0), (6, 0), (7, 0), (8, 0), (9, 0), (10, 0)]) 12 rfl (by kernel_rfl) (by kernel_rfl) fun K hK => ?_
  simp only [go_sem, ↓reduceIte, Nat.reduceEqDiff, Nat.reduceAdd, reduceCtorEq, pz1 hpP0, f3, f4, f5, hmP0]
  apply hK
  simp only [thenQ_normal]
  refine SW_ret ?_
  try simp only []
  obtain rfl := some_eq h
  refine ⟨by first | exact .inl rfl | exact .inl trivial | exact .inr rfl | exact .inr trivial, ?_⟩
  simp only [go_sem, ↓reduceIte, Nat.reduceEqDiff, Nat.reduceAdd, back_set, back_self]

def p_parse_parser_fail_C (f : T_parse_parser → Int → Option T_parse_parser) : Prop := ∀ (a0 : T_parse_parser) (a1 : Int) (r : T_parse_parser), f a0 a1 = some r → ∀ (q : Pa) (m : M) (vs : List V) (P0 : Pa), vs.map V.weak1 = [.ptr P0 0, .lit (.int .i64 a1)] ∧ m.blk P0 = some ((T_parse_parser.C a0)) → SC Tryd.prog 46 vs q m (fun v m' => v = .tup [] ∧ m' = (m.set P0 ((T_parse_parser.C r))))

theorem p_parse_parser_fail_ok : p_parse_parser_fail_C (p_parse_parser_fail) := by
  rintro a0 a1 r h q m vs P0 ⟨hv, hmP0⟩
  refine SC.weak ?_
  rw [hv]
  refine SC.apart hmP0 fun hpP0 => ?_
  have hmsP0 := set_same hmP0
  try simp only [go_sem] at hmP0 hmsP0
  refine SC_of Tryd.func46 rfl (fun xs w => Tryd.call46 xs w) Tryd.ntmps46 (by kernel_rfl) (congrArg Array.toList Tryd.results46) V.weak (fun _ _ _ => V.weak_ok) ?_
  unfold p_parse_parser_fail at h
  refine SW_seq ?_
  refine SW_reg fun K hK => ?_
  simp only [go_sem, ↓reduceIte, Nat.reduceAdd, hmP0]
  apply hK
  simp only [thenQ_normal]
  refine SW_if (a0.e_ == (0 : Int)) (by simp only [go_sem, ↓reduceIte]) (fun c1 => ?_) (fun c1 => ?_)
  · replace h := ite_t c1 h
    obtain ⟨x2, h3, h⟩ := bind_some h
    refine SW_reg fun K hK => ?_
    simp only [go_sem, ↓reduceIte, Nat.reduceEqDiff, Nat.reduceAdd, reduceCtorEq, c1]
    refine SC.by_ (p_parse_parser_token_ok a0 _ h3 _ _ _ P0 (by simp only [go_sem, hmP0])) ?_
    simp only [go_sem, ↓reduceIte, Nat.reduceEqDiff, Nat.reduceAdd, Nat.reduceLeDiff, hmP0]
    apply hK
    simp only []
    obtain rfl := some_eq h
    refine ⟨by first | exact .inl rfl | exact .inl trivial | exact .inr rfl | exact .inr trivial, ?_⟩
    simp only [go_sem, back_self, back_out hpP0]
  · replace h := ite_f c1 h
    refine SW_skip ?_
    try simp only []
    obtain rfl := some_eq h
    refine ⟨by first | exact .inl rfl | exact .inl trivial | exact .inr rfl | exact .inr trivial, ?_⟩
    simp only [go_sem, back_self, hmsP0, c1]

def p_parse_parser_node_C (f : T_parse_parser → Int → Option (T_parse_Node × T_parse_parser)) : Prop := ∀ (a0 : T_parse_parser) (a1 : Int) (r : (T_parse_Node × T_parse_parser)), f a0 a1 = some r → ∀ (q : Pa) (m : M) (vs : List V) (P0 : Pa), vs.map V.weak1 = [.ptr P0 0, .lit (.int .i64 a1)] ∧ m.blk P0 = some ((T_parse_parser.C a0)) → SC Tryd.prog 28 vs q m (fun v m' => ∃ (id : Pa) (j : Nat), q <:+ id ∧ v = .agg ([.lit (.int .i64 r.1.Kind_), .lit (.int .i64 r.1.At_), .lit (.string (bs r.1.Text_)), .lit (.int .u32 r.1.Num_), .list (.st (.anon id j)) (r.1.List_.map T_parse_Node.C)]) ∧ m' = (m.set P0 ((T_parse_parser.C r.2))).tokset id j true)
theorem p_parse_parser_node_ok : p_parse_parser_node_C (p_parse_parser_node) := by
  rintro a0 a1 r h q m vs P0 ⟨hv, hmP0⟩
  refine SC.weak ?_
  rw [hv]
  refine SC.apart hmP0 fun hpP0 => ?_
  have hmsP0 := set_same hmP0
  try simp only [go_sem] at hmP0 hmsP0
  refine SC_ofO Tryd.func28 rfl (fun xs w => Tryd.call28 xs w) Tryd.ntmps28 (by kernel_rfl) ?_
  unfold p_parse_parser_node at h
  refine SW_seq ?_
  refine SW_reg fun K hK => ?_
  simp only [go_sem]
  apply hK
  simp only [thenQ_normal]
  refine SW_seq ?_
  refine SW_seq ?_
  refine SW_reg fun K hK => ?_
  simp only [go_sem, ↓reduceIte, Nat.reduceEqDiff, Nat.reduceAdd, Nat.reduceLeDiff, reduceCtorEq, pz1 hpP0, hmP0]
  apply hK
  simp only [thenQ_normal]
  refine SW_seq ?_
  refine SW_reg fun K hK => ?_
  simp only [go_sem, ↓reduceIte, Nat.reduceAdd, reduceCtorEq]
  apply hK
  simp only [thenQ_normal]
  refine SW_if (decide ((16384 : Int) < (IntKind.i64.wrap (a0.nodes_ + (1 : Int))))) (by simp only [go_sem, ↓reduceIte]) (fun c2 => ?_) (fun c2 => ?_)
  · replace h := ite_t c2 h
    obtain ⟨x3, h4, h⟩ := bind_some h
    refine SW_reg fun K hK => ?_
    simp only [go_sem, ↓reduceIte, Nat.reduceAdd, reduceCtorEq, c2]
    refine SC.by_ (p_parse_parser_fail_ok ({ a0 with nodes_ := (IntKind.i64.wrap (a0.nodes_ + (1 : Int))) } : T_parse_parser) (136 : Int) _ h4 _ _ _ P0 (by simp only [go_sem, ↓reduceIte])) ?_
    simp only [go_sem, Nat.reduceAdd]
    apply hK
    simp only [thenQ_normal]
    refine SW_seq ?_
    obtain ⟨x5, h6, h⟩ := bind_some h
    refine SW_reg fun K hK => ?_
    simp only [go_sem, ↓reduceIte, Nat.reduceEqDiff, Nat.reduceAdd, reduceCtorEq]
    refine SC.by_ (p_parse_parser_token_ok x3 _ h6 _ _ _ P0 (by simp only [go_sem, ↓reduceIte])) ?_
    simp only [go_sem, ↓reduceIte, Nat.reduceEqDiff, Nat.reduceAdd, Nat.reduceLeDiff, pz1 hpP0]
    apply hK
    simp only [thenQ_normal]
    refine SW_ret ?_
    try simp only []
    obtain rfl := some_eq h
    refine ⟨by first | exact .inl rfl | exact .inl trivial | exact .inr rfl | exact .inr trivial, ?_⟩
    refine ⟨(22 :: q), 0, _, (by simp only [go_sem]), .cell (t := 4) (T := 27) (b := (0 :: q)) (cs := [.lit (.int .i64 a1), .lit (.int .i64 x5.At_), .lit (.string (bs [])), .lit (.int .u32 (0 : Int)), .list .self ([].map T_parse_Node.C)]) (off := 4) (rows := ([].map T_parse_Node.C)) (congrArg Array.toList Tryd.results28) (by simp only [go_sem, ↓reduceIte, Nat.reduceEqDiff]) (by simp only [go_sem]) (by simp only [go_sem, ↓reduceIte]) (by simp only [go_sem]) (by simp only [go_sem, Nat.reduceAdd]) rfl, (22 :: q), 0, (by simp only [go_sem]), ?_, ?_⟩ <;> simp only [go_sem, back_set, back_bump, back_self, back_out hpP0]
  · replace h := ite_f c2 h
    refine SW_skip ?_
    try simp only [thenQ_normal]
    refine SW_seq ?_
    obtain ⟨x7, h8, h⟩ := bind_some h
    refine SW_reg fun K hK => ?_
    simp only [go_sem, ↓reduceIte, Nat.reduceEqDiff, Nat.reduceAdd, reduceCtorEq, c2]
    refine SC.by_ (p_parse_parser_token_ok ({ a0 with nodes_ := (IntKind.i64.wrap (a0.nodes_ + (1 : Int))) } : T_parse_parser) _ h8 _ _ _ P0 (by simp only [go_sem, ↓reduceIte])) ?_
    simp only [go_sem, ↓reduceIte, Nat.reduceEqDiff, Nat.reduceAdd, Nat.reduceLeDiff, pz1 hpP0]
    apply hK
    simp only [thenQ_normal]
    refine SW_ret ?_
    try simp only []
    obtain rfl := some_eq h
    refine ⟨by first | exact .inl rfl | exact .inl trivial | exact .inr rfl | exact .inr trivial, ?_⟩
    refine ⟨(20 :: q), 0, _, (by simp only [go_sem]), .cell (t := 4) (T := 27) (b := (0 :: q)) (cs := [.lit (.int .i64 a1), .lit (.int .i64 x7.At_), .lit (.string (bs [])), .lit (.int .u32 (0 : Int)), .list .self ([].map T_parse_Node.C)]) (off := 4) (rows := ([].map T_parse_Node.C)) (congrArg Array.toList Tryd.results28) (by simp only [go_sem, ↓reduceIte, Nat.reduceEqDiff]) (by simp only [go_sem]) (by simp only [go_sem, ↓reduceIte]) (by simp only [go_sem]) (by simp only [go_sem, Nat.reduceAdd]) rfl, (20 :: q), 0, (by simp only [go_sem]), ?_, ?_⟩ <;> simp only [go_sem, back_set, back_bump, back_self, back_out hpP0]

def slices_Index_L_string_string_C (f : (List Str) → Str → Option Int) : Prop := ∀ (a0 : (List Str)) (a1 : Str) (r : Int), f a0 a1 = some r → ∀ (q : Pa) (m : M) (vs : List V), vs.map V.weak1 = [.list .none (a0.map cS), .lit (.string (bs a1))] → SC Tryd.prog 43 vs q m (fun v m' => v = .lit (.int .i64 r) ∧ m' = m)

theorem slices_Index_L_string_string_ok (n : Nat) : slices_Index_L_string_string_C (slices_Index_L_string_string n) := by
  intro a0 a1 r h q m vs hv
  refine SC.weak ?_
  rw [hv]
  refine SC_of Tryd.func43 rfl (fun xs w => Tryd.call43 xs w) Tryd.ntmps43 (by kernel_rfl) (congrArg Array.toList Tryd.results43) V.weak (fun _ _ _ => V.weak_ok) ?_
  unfold slices_Index_L_string_string at h
  refine SW_seq ?_
  refine SW_reg fun K hK => ?_
  simp only [go_sem]
  apply hK
  simp only [thenQ_normal]
  refine SW_seq ?_
  refine SW_seq ?_
  refine SW_reg fun K hK => ?_
  simp only [go_sem, ↓reduceIte, Nat.reduceAdd, reduceCtorEq]
  apply hK
  simp only [thenQ_normal]
  refine SW_block ?_
  obtain ⟨y3, hy3, h⟩ := bind_some h
  refine SW_countW [] [] rfl (fun c E' m' => ∃ (v2 : Int), slices_Index_L_string_string_l1 a0 a1 c v2 = some y3 ∧ E' 0 = .list .none (a0.map cS) ∧ E' 1 = .lit (.string (bs a1)) ∧ E' 7 = .lit (.int .i64 (a0.length : Int)) ∧ E' 8 = .lit (.int .i64 v2) ∧ m'.gl = m.gl ∧ m.back q m' = m) n ⟨(0 : Int), hy3, ?_⟩ ?_
  · simp only [go_sem, ↓reduceIte, Nat.reduceEqDiff, reduceCtorEq, back_self]
  rintro i1 c4 E5 m6 ⟨v2, hy3, e7⟩ _
  rcases c4 with _ | c4
  · exact absurd hy3 (by rw [slices_Index_L_string_string_l1]; exact fun e => nomatch e)
  rw [slices_Index_L_string_string_l1] at hy3
  refine SW_seq ?_
  refine SW_reg fun K hK => ?_
  simp only [go_sem, e7]
  apply hK
  simp only [thenQ_normal]
  refine SW_seq ?_
  refine SW_if (decide (v2 < (a0.length : Int))) (by simp only [go_sem, ↓reduceIte]) (fun c8 => ?_) (fun c8 => ?_)
  · replace hy3 := ite_t c8 hy3
    refine SW_skip ?_
    try simp only [thenQ_normal]
    refine SW_seq ?_
    refine SW_block ?_
    refine SW_seq ?_
    refine SW_reg fun K hK => ?_
    simp only [go_sem, ↓reduceIte, Nat.reduceEqDiff, Nat.reduceAdd, c8, e7]
    apply hK
    simp only [thenQ_normal]
    refine SW_seq ?_
    obtain ⟨x9, h13, hy3⟩ := bind_some hy3
    obtain ⟨f10, f11, f12⟩ := idxL_some h13
    refine SW_reg fun K hK => ?_
    simp only [go_sem, ↓reduceIte, Nat.reduceEqDiff, Nat.reduceAdd, reduceCtorEq, f10, f11, f12, e7]
    apply hK
    simp only [thenQ_normal]
    refine SW_if (decide (a1 = x9)) (by simp only [go_sem, ↓reduceIte]) (fun c14 => ?_) (fun c14 => ?_)
    · replace hy3 := ite_t c14 hy3
      refine SW_seq ?_
      refine SW_reg fun K hK => ?_
      simp only [go_sem, ↓reduceIte, Nat.reduceEqDiff, Nat.reduceAdd, c14]
      apply hK
      simp only [thenQ_normal]
      refine SW_ret ?_
      try simp only [thenQ_ret, blockQ_ret]
      obtain rfl := some_eq hy3
      simp only [Sum.elim_inr] at h
      obtain rfl := some_eq h
      refine ⟨by first | exact .inl rfl | exact .inl trivial | exact .inr rfl | exact .inr trivial, ?_⟩
      simp only [go_sem, ↓reduceIte, e7]
    · replace hy3 := ite_f c14 hy3
      refine SW_skip ?_
      try simp only [thenQ_normal, blockQ_normal]
      refine SW_reg fun K hK => ?_
      simp only [go_sem, ↓reduceIte, Nat.reduceEqDiff, Nat.reduceAdd, c14, e7]
      apply hK
      simp only [thenQ_normal]
      refine ⟨c4, Nat.lt_succ_self _, (IntKind.i64.wrap (v2 + (1 : Int))), hy3, ?_⟩
      simp only [go_sem, ↓reduceIte, Nat.reduceEqDiff, reduceCtorEq, e7]
  · replace hy3 := ite_f c8 hy3
    refine SW_exit ?_
    try simp only [thenQ_exit, blockQ_exit, ↓reduceIte, thenQ_normal]
    obtain rfl := some_eq hy3
    simp only [Sum.elim_inl] at h
    refine SW_seq ?_
    refine SW_reg fun K hK => ?_
    simp only [go_sem, Nat.reduceAdd, c8]
    apply hK
    simp only [thenQ_normal]
    refine SW_ret ?_
    try simp only []
    obtain rfl := some_eq h
    refine ⟨by first | exact .inl rfl | exact .inl trivial | exact .inr rfl | exact .inr trivial, ?_⟩
    simp only [go_sem, ↓reduceIte, e7]

def slices_Contains_L_string_string_C (f : (List Str) → Str → Option Bool) : Prop := ∀ (a0 : (List Str)) (a1 : Str) (r : Bool), f a0 a1 = some r → ∀ (q : Pa) (m : M) (vs : List V), vs.map V.weak1 = [.list .none (a0.map cS), .lit (.string (bs a1))] → SC Tryd.prog 26 vs q m (fun v m' => v = .lit (.bool r) ∧ m' = m)

theorem slices_Contains_L_string_string_ok (n : Nat) : slices_Contains_L_string_string_C (slices_Contains_L_string_string n) := by
  intro a0 a1 r h q m vs hv
  refine SC.weak ?_
  rw [hv]
  refine SC_of Tryd.func26 rfl (fun xs w => Tryd.call26 xs w) Tryd.ntmps26 (by kernel_rfl) (congrArg Array.toList Tryd.results26) V.weak (fun _ _ _ => V.weak_ok) ?_
  unfold slices_Contains_L_string_string at h
  refine SW_seq ?_
  refine SW_reg fun K hK => ?_
  simp only [go_sem]
  apply hK
  simp only [thenQ_normal]
  refine SW_seq ?_
  obtain ⟨x1, h2, h⟩ := bind_some h
  refine SW_reg fun K hK => ?_
  simp only [go_sem, ↓reduceIte, Nat.reduceEqDiff, Nat.reduceAdd, reduceCtorEq]
  refine SC.by_ (slices_Index_L_string_string_ok n a0 a1 _ h2 _ _ _ (by simp only [go_sem])) ?_
  simp only [go_sem, ↓reduceIte, Nat.reduceAdd]
  apply hK
  simp only [thenQ_normal]
  refine SW_ret ?_
  try simp only []
  obtain rfl := some_eq h
  refine ⟨by first | exact .inl rfl | exact .inl trivial | exact .inr rfl | exact .inr trivial, ?_⟩
  simp only [go_sem, ↓reduceIte, back_self]

def parse_Word_C (f : Str → Option Bool) : Prop := ∀ (a0 : Str) (r : Bool), f a0 = some r → ∀ (q : Pa) (m : M) (vs : List V), vs.map V.weak1 = [.lit (.string (bs a0))] ∧ m.gl 0 = .eptr [(cA cS g_parse_words)] 0 0 → SC Tryd.prog 12 vs q m (fun v m' => v = .lit (.bool r) ∧ m' = m)

theorem parse_Word_ok (n : Nat) : parse_Word_C (parse_Word n) := by
  rintro a0 r h q m vs ⟨hv, hg0⟩
  refine SC.weak ?_
  rw [hv]
  refine SC_of Tryd.func12 rfl (fun xs w => Tryd.call12 xs w) Tryd.ntmps12 (by kernel_rfl) (congrArg Array.toList Tryd.results12) V.weak (fun _ _ _ => V.weak_ok) ?_
  unfold parse_Word at h
  refine SW_seq ?_
  refine SW_reg fun K hK => ?_
  simp only [go_sem]
  apply hK
  simp only [thenQ_normal]
  refine SW_seq ?_
  obtain ⟨x1, h2, h⟩ := bind_some h
  refine SW_reg fun K hK => ?_
  simp only [go_sem, ↓reduceIte, Nat.reduceEqDiff, Nat.reduceAdd, Nat.reduceLT, Nat.reduceLeDiff, reduceCtorEq, Int.reduceLE, Int.reduceToNat, hg0]
  refine SC.by_ (slices_Contains_L_string_string_ok n g_parse_words a0 _ h2 _ _ _ (by simp only [go_sem])) ?_
  simp only [go_sem, ↓reduceIte, Nat.reduceAdd]
  apply hK
  simp only [thenQ_normal]
  refine SW_ret ?_
  try simp only []
  obtain rfl := some_eq h
  refine ⟨by first | exact .inl rfl | exact .inl trivial | exact .inr rfl | exact .inr trivial, ?_⟩
  simp only [go_sem, ↓reduceIte, back_self]

def p_parse_parser_is_C (f : T_parse_parser → Str → Option Bool) : Prop := ∀ (a0 : T_parse_parser) (a1 : Str) (r : Bool), f a0 a1 = some r → ∀ (q : Pa) (m : M) (vs : List V) (P0 : Pa), vs.map V.weak1 = [.ptr P0 0, .lit (.string (bs a1))] ∧ m.blk P0 = some ((T_parse_parser.C a0)) ∧ m.gl 0 = .eptr [(cA cS g_parse_words)] 0 0 → SC Tryd.prog 86 vs q m (fun v m' => v = .lit (.bool r) ∧ m' = m)

theorem p_parse_parser_is_ok (n : Nat) : p_parse_parser_is_C (p_parse_parser_is n) := by
  rintro a0 a1 r h q m vs P0 ⟨hv, hmP0, hg0⟩
  refine SC.weak ?_
  rw [hv]
  refine SC.apart hmP0 fun hpP0 => ?_
  try simp only [go_sem] at hmP0
  refine SC_of Tryd.func86 rfl (fun xs w => Tryd.call86 xs w) Tryd.ntmps86 (by kernel_rfl) (congrArg Array.toList Tryd.results86) V.weak (fun _ _ _ => V.weak_ok) ?_
  unfold p_parse_parser_is at h
  refine SW_seq ?_
  refine SW_reg fun K hK => ?_
  simp only [go_sem]
  apply hK
  simp only [thenQ_normal]
  refine SW_seq ?_
  obtain ⟨x1, h3, h⟩ := bind_some h
  refine SW_reg fun K hK => ?_
  simp only [go_sem, ↓reduceIte, Nat.reduceAdd, reduceCtorEq]
  refine SC.by_ (p_parse_parser_token_ok a0 _ h3 _ _ _ P0 (by simp only [go_sem, hmP0])) ?_
  simp only [go_sem, ↓reduceIte, Nat.reduceEqDiff, Nat.reduceAdd]
  apply hK
  simp only [thenQ_normal]
  refine SW_seq ?_
  obtain ⟨y4, hy4, h⟩ := bind_some h
  refine SW_joinK 31 [] [] rfl (fun E' m' => E' 4 = .lit (.bool y4) ∧ m'.blk P0 = some ((T_parse_parser.C a0)) ∧ m'.gl = m.gl ∧ m.back q m' = m) ?_ ?_
  · rcases bool_or (a0.e_ == (0 : Int)) with c5 | c5
    · replace hy4 := ite_t c5 hy4
      rcases bool_or (decide (x1.Text_ = a1)) with c6 | c6
      · replace hy4 := ite_t c6 hy4
        rcases bool_or (x1.Kind_ == (3 : Int)) with c7 | c7
        · replace hy4 := ite_t c7 hy4
          refine SW_reg fun K hK => ?_
          simp only [go_sem, ↓reduceIte, Nat.reduceEqDiff, Nat.reduceAdd, reduceCtorEq, pz1 hpP0, c5, c6, c7, hmP0]
          apply hK
          simp only [thenQ_normal]
          obtain rfl := some_eq hy4
          refine ⟨by decide, ?_⟩
          simp only [go_sem, ↓reduceIte, back_set, back_self, pz1 hpP0, hmP0]
        · replace hy4 := ite_f c7 hy4
          rcases bool_or (x1.Kind_ == (1 : Int)) with c8 | c8
          · replace hy4 := ite_t c8 hy4
            obtain ⟨x9, h10, hy4⟩ := bind_some hy4
            refine SW_reg fun K hK => ?_
            simp only [go_sem, ↓reduceIte, Nat.reduceEqDiff, Nat.reduceAdd, reduceCtorEq, pz1 hpP0, c5, c6, c7, c8, hmP0]
            refine SC.by_ (parse_Word_ok n a1 _ h10 _ _ _ (by simp only [go_sem, hg0])) ?_
            simp only [go_sem, ↓reduceIte, Nat.reduceEqDiff, Nat.reduceAdd]
            apply hK
            simp only [thenQ_normal]
            obtain rfl := some_eq hy4
            refine ⟨by decide, ?_⟩
            simp only [go_sem, ↓reduceIte, back_set, back_self, pz1 hpP0, hmP0]
          · replace hy4 := ite_f c8 hy4
            refine SW_reg fun K hK => ?_
            simp only [go_sem, ↓reduceIte, Nat.reduceEqDiff, Nat.reduceAdd, reduceCtorEq, pz1 hpP0, c5, c6, c7, c8, hmP0]
            apply hK
            simp only [thenQ_normal]
            obtain rfl := some_eq hy4
            refine ⟨by decide, ?_⟩
            simp only [go_sem, ↓reduceIte, back_set, back_self, pz1 hpP0, hmP0]
      · replace hy4 := ite_f c6 hy4
        refine SW_reg fun K hK => ?_
        simp only [go_sem, ↓reduceIte, Nat.reduceEqDiff, Nat.reduceAdd, reduceCtorEq, pz1 hpP0, c5, c6, hmP0]
        apply hK
        simp only [thenQ_normal]
        obtain rfl := some_eq hy4
        refine ⟨by decide, ?_⟩
        simp only [go_sem, ↓reduceIte, back_set, back_self, pz1 hpP0, hmP0]
    · replace hy4 := ite_f c5 hy4
      refine SW_reg fun K hK => ?_
      simp only [go_sem, ↓reduceIte, Nat.reduceEqDiff, Nat.reduceAdd, reduceCtorEq, pz1 hpP0, c5, hmP0]
      apply hK
      simp only [thenQ_normal]
      obtain rfl := some_eq hy4
      refine ⟨by decide, ?_⟩
      simp only [go_sem, ↓reduceIte, back_set, back_self, pz1 hpP0, hmP0]
  · intro E11 m12 e13 _
    simp only [thenQ_normal]
    refine SW_ret ?_
    try simp only []
    obtain rfl := some_eq h
    refine ⟨by first | exact .inl rfl | exact .inl trivial | exact .inr rfl | exact .inr trivial, ?_⟩
    simp only [go_sem, e13]

def p_parse_parser_take_C (f : T_parse_parser → Str → Option (Bool × T_parse_parser)) : Prop := ∀ (a0 : T_parse_parser) (a1 : Str) (r : (Bool × T_parse_parser)), f a0 a1 = some r → ∀ (q : Pa) (m : M) (vs : List V) (P0 : Pa), vs.map V.weak1 = [.ptr P0 0, .lit (.string (bs a1))] ∧ m.blk P0 = some ((T_parse_parser.C a0)) ∧ m.gl 0 = .eptr [(cA cS g_parse_words)] 0 0 → SC Tryd.prog 47 vs q m (fun v m' => v = .lit (.bool r.1) ∧ m' = (m.set P0 ((T_parse_parser.C r.2))))

theorem p_parse_parser_take_ok (n : Nat) : p_parse_parser_take_C (p_parse_parser_take n) := by
  rintro a0 a1 r h q m vs P0 ⟨hv, hmP0, hg0⟩
  refine SC.weak ?_
  rw [hv]
  refine SC.apart hmP0 fun hpP0 => ?_
  have hmsP0 := set_same hmP0
  try simp only [go_sem] at hmP0 hmsP0
  refine SC_of Tryd.func47 rfl (fun xs w => Tryd.call47 xs w) Tryd.ntmps47 (by kernel_rfl) (congrArg Array.toList Tryd.results47) V.weak (fun _ _ _ => V.weak_ok) ?_
  unfold p_parse_parser_take at h
  refine SW_seq ?_
  refine SW_reg fun K hK => ?_
  simp only [go_sem]
  apply hK
  simp only [thenQ_normal]
  refine SW_seq ?_
  refine SW_seq ?_
  obtain ⟨x1, h2, h⟩ := bind_some h
  refine SW_reg fun K hK => ?_
  simp only [go_sem, ↓reduceIte, Nat.reduceEqDiff, Nat.reduceAdd, reduceCtorEq]
  refine SC.by_ (p_parse_parser_is_ok n a0 a1 _ h2 _ _ _ P0 (by simp only [go_sem, hmP0, hg0])) ?_
  simp only [go_sem, ↓reduceIte, Nat.reduceAdd]
  apply hK
  simp only [thenQ_normal]
  refine SW_if (!x1) (by simp only [go_sem, ↓reduceIte]) (fun c3 => ?_) (fun c3 => ?_)
  · replace h := ite_t c3 h
    refine SW_seq ?_
    refine SW_reg fun K hK => ?_
    simp only [go_sem, Nat.reduceAdd, c3]
    apply hK
    simp only [thenQ_normal]
    refine SW_ret ?_
    try simp only [thenQ_ret]
    obtain rfl := some_eq h
    refine ⟨by first | exact .inl rfl | exact .inl trivial | exact .inr rfl | exact .inr trivial, ?_⟩
    simp only [go_sem, ↓reduceIte, back_self, hmsP0]
  · replace h := ite_f c3 h
    refine SW_skip ?_
    try simp only [thenQ_normal]
    refine SW_seq ?_
    refine SW_reg fun K hK => ?_
    simp only [go_sem, ↓reduceIte, Nat.reduceEqDiff, Nat.reduceAdd, Nat.reduceLeDiff, reduceCtorEq, c3, hmP0]
    apply hK
    simp only [thenQ_normal]
    refine SW_seq ?_
    refine SW_reg fun K hK => ?_
    simp only [go_sem, Nat.reduceAdd]
    apply hK
    simp only [thenQ_normal]
    refine SW_ret ?_
    try simp only []
    obtain rfl := some_eq h
    refine ⟨by first | exact .inl rfl | exact .inl trivial | exact .inr rfl | exact .inr trivial, ?_⟩
    simp only [go_sem, ↓reduceIte, back_self, back_out hpP0]

def p_parse_parser_need_C (f : T_parse_parser → Str → Option T_parse_parser) : Prop := ∀ (a0 : T_parse_parser) (a1 : Str) (r : T_parse_parser), f a0 a1 = some r → ∀ (q : Pa) (m : M) (vs : List V) (P0 : Pa), vs.map V.weak1 = [.ptr P0 0, .lit (.string (bs a1))] ∧ m.blk P0 = some ((T_parse_parser.C a0)) ∧ m.gl 0 = .eptr [(cA cS g_parse_words)] 0 0 → SC Tryd.prog 48 vs q m (fun v m' => v = .tup [] ∧ m' = (m.set P0 ((T_parse_parser.C r))))

theorem p_parse_parser_need_ok (n : Nat) : p_parse_parser_need_C (p_parse_parser_need n) := by
  rintro a0 a1 r h q m vs P0 ⟨hv, hmP0, hg0⟩
  refine SC.weak ?_
  rw [hv]
  refine SC.apart hmP0 fun hpP0 => ?_
  have hmsP0 := set_same hmP0
  try simp only [go_sem] at hmP0 hmsP0
  refine SC_of Tryd.func48 rfl (fun xs w => Tryd.call48 xs w) Tryd.ntmps48 (by kernel_rfl) (congrArg Array.toList Tryd.results48) V.weak (fun _ _ _ => V.weak_ok) ?_
  unfold p_parse_parser_need at h
  refine SW_seq ?_
  obtain ⟨x1, h2, h⟩ := bind_some h
  refine SW_reg fun K hK => ?_
  simp only [go_sem, ↓reduceIte, Nat.reduceEqDiff, Nat.reduceAdd]
  refine SC.by_ (p_parse_parser_take_ok n a0 a1 _ h2 _ _ _ P0 (by simp only [go_sem, hmP0, hg0])) ?_
  simp only [go_sem, ↓reduceIte, Nat.reduceAdd]
  apply hK
  simp only [thenQ_normal]
  refine SW_if (!x1.1) (by simp only [go_sem, ↓reduceIte]) (fun c3 => ?_) (fun c3 => ?_)
  · replace h := ite_t c3 h
    obtain ⟨x4, h5, h⟩ := bind_some h
    refine SW_reg fun K hK => ?_
    simp only [go_sem, ↓reduceIte, Nat.reduceAdd, reduceCtorEq, c3]
    refine SC.by_ (p_parse_parser_fail_ok x1.2 (110 : Int) _ h5 _ _ _ P0 (by simp only [go_sem, ↓reduceIte])) ?_
    simp only [go_sem, Nat.reduceAdd]
    apply hK
    simp only []
    obtain rfl := some_eq h
    refine ⟨by first | exact .inl rfl | exact .inl trivial | exact .inr rfl | exact .inr trivial, ?_⟩
    simp only [go_sem, back_self, back_out hpP0]
  · replace h := ite_f c3 h
    refine SW_skip ?_
    try simp only []
    obtain rfl := some_eq h
    refine ⟨by first | exact .inl rfl | exact .inl trivial | exact .inr rfl | exact .inr trivial, ?_⟩
    simp only [go_sem, back_self, back_out hpP0, c3]

def p_parse_parser_name_C (f : T_parse_parser → Option (Str × T_parse_parser)) : Prop := ∀ (a0 : T_parse_parser) (r : (Str × T_parse_parser)), f a0 = some r → ∀ (q : Pa) (m : M) (vs : List V) (P0 : Pa), vs.map V.weak1 = [.ptr P0 0] ∧ m.blk P0 = some ((T_parse_parser.C a0)) ∧ m.gl 0 = .eptr [(cA cS g_parse_words)] 0 0 → SC Tryd.prog 49 vs q m (fun v m' => v = .lit (.string (bs r.1)) ∧ m' = (m.set P0 ((T_parse_parser.C r.2))))

theorem p_parse_parser_name_ok (n : Nat) : p_parse_parser_name_C (p_parse_parser_name n) := by
  rintro a0 r h q m vs P0 ⟨hv, hmP0, hg0⟩
  refine SC.weak ?_
  rw [hv]
  refine SC.apart hmP0 fun hpP0 => ?_
  have hmsP0 := set_same hmP0
  try simp only [go_sem] at hmP0 hmsP0
  refine SC_of Tryd.func49 rfl (fun xs w => Tryd.call49 xs w) Tryd.ntmps49 (by kernel_rfl) (congrArg Array.toList Tryd.results49) V.weak (fun _ _ _ => V.weak_ok) ?_
  unfold p_parse_parser_name at h
  refine SW_seq ?_
  refine SW_reg fun K hK => ?_
  simp only [go_sem]
  apply hK
  simp only [thenQ_normal]
  refine SW_seq ?_
  obtain ⟨x1, h3, h⟩ := bind_some h
  refine SW_reg fun K hK => ?_
  simp only [go_sem, ↓reduceIte, Nat.reduceAdd, reduceCtorEq]
  refine SC.by_ (p_parse_parser_token_ok a0 _ h3 _ _ _ P0 (by simp only [go_sem, hmP0])) ?_
  simp only [go_sem, ↓reduceIte, Nat.reduceEqDiff, Nat.reduceAdd]
  apply hK
  simp only [thenQ_normal]
  refine SW_seq ?_
  refine SW_seq ?_
  obtain ⟨y4, hy4, h⟩ := bind_some h
  refine SW_joinK 20 [] [] rfl (fun E' m' => E' 0 = .ptr P0 0 ∧ E' 3 = .ptr (3 :: q) 0 ∧ E' 20 = .lit (.bool y4) ∧ m'.blk P0 = some ((T_parse_parser.C a0)) ∧ m'.blk (3 :: q) = some ((T_lex_Token.C x1)) ∧ m'.gl = m.gl ∧ m.back q m' = (m.set P0 ((T_parse_parser.C a0)))) ?_ ?_
  · rcases bool_or (a0.e_ != (0 : Int)) with c5 | c5
    · replace hy4 := ite_t c5 hy4
      refine SW_reg fun K hK => ?_
      simp only [go_sem, ↓reduceIte, Nat.reduceEqDiff, Nat.reduceAdd, reduceCtorEq, pz1 hpP0, c5, hmP0]
      apply hK
      simp only [thenQ_normal]
      obtain rfl := some_eq hy4
      refine ⟨by decide, ?_⟩
      simp only [go_sem, ↓reduceIte, Nat.reduceEqDiff, reduceCtorEq, back_set, back_self, hmsP0, pz1 hpP0, hmP0]
    · replace hy4 := ite_f c5 hy4
      rcases bool_or (x1.Kind_ != (1 : Int)) with c6 | c6
      · replace hy4 := ite_t c6 hy4
        refine SW_reg fun K hK => ?_
        simp only [go_sem, ↓reduceIte, Nat.reduceEqDiff, Nat.reduceAdd, reduceCtorEq, pz1 hpP0, c5, c6, hmP0]
        apply hK
        simp only [thenQ_normal]
        obtain rfl := some_eq hy4
        refine ⟨by decide, ?_⟩
        simp only [go_sem, ↓reduceIte, Nat.reduceEqDiff, reduceCtorEq, back_set, back_self, hmsP0, pz1 hpP0, hmP0]
      · replace hy4 := ite_f c6 hy4
        obtain ⟨x7, h8, hy4⟩ := bind_some hy4
        refine SW_reg fun K hK => ?_
        simp only [go_sem, ↓reduceIte, Nat.reduceEqDiff, Nat.reduceAdd, reduceCtorEq, pz1 hpP0, c5, c6, hmP0]
        refine SC.by_ (parse_Word_ok n x1.Text_ _ h8 _ _ _ (by simp only [go_sem, hg0])) ?_
        simp only [go_sem, ↓reduceIte, Nat.reduceEqDiff, Nat.reduceAdd]
        apply hK
        simp only [thenQ_normal]
        obtain rfl := some_eq hy4
        refine ⟨by decide, ?_⟩
        simp only [go_sem, ↓reduceIte, Nat.reduceEqDiff, reduceCtorEq, back_set, back_self, hmsP0, pz1 hpP0, hmP0]
  · intro E9 m10 e11 _
    simp only [thenQ_normal]
    refine SW_if y4 (by simp only [go_sem, e11]) (fun c12 => ?_) (fun c12 => ?_)
    · replace h := ite_t c12 h
      refine SW_seq ?_
      obtain ⟨x13, h14, h⟩ := bind_some h
      refine SW_reg fun K hK => ?_
      simp only [go_sem, ↓reduceIte, Nat.reduceAdd, e11]
      refine SC.by_ (p_parse_parser_fail_ok a0 (110 : Int) _ h14 _ _ _ P0 (by simp only [go_sem, e11])) ?_
      simp only [go_sem, Nat.reduceAdd]
      apply hK
      simp only [thenQ_normal]
      refine SW_seq ?_
      refine SW_reg fun K hK => ?_
      simp only [go_sem, Nat.reduceAdd]
      apply hK
      simp only [thenQ_normal]
      refine SW_ret ?_
      try simp only [thenQ_ret]
      obtain rfl := some_eq h
      refine ⟨by first | exact .inl rfl | exact .inl trivial | exact .inr rfl | exact .inr trivial, ?_⟩
      simp only [go_sem, ↓reduceIte, back_out hpP0, hmsP0, e11]
    · replace h := ite_f c12 h
      refine SW_skip ?_
      try simp only [thenQ_normal]
      refine SW_seq ?_
      refine SW_reg fun K hK => ?_
      simp only [go_sem, ↓reduceIte, Nat.reduceEqDiff, Nat.reduceAdd, Nat.reduceLeDiff, e11]
      apply hK
      simp only [thenQ_normal]
      refine SW_seq ?_
      refine SW_reg fun K hK => ?_
      simp only [go_sem, ↓reduceIte, Nat.reduceEqDiff, Nat.reduceAdd, pz1 hpP0, e11]
      apply hK
      simp only [thenQ_normal]
      refine SW_ret ?_
      try simp only []
      obtain rfl := some_eq h
      refine ⟨by first | exact .inl rfl | exact .inl trivial | exact .inr rfl | exact .inr trivial, ?_⟩
      simp only [go_sem, ↓reduceIte, back_out hpP0, hmsP0, e11]

def p_parse_parser_number_C (f : T_parse_parser → Option (Int × T_parse_parser)) : Prop := ∀ (a0 : T_parse_parser) (r : (Int × T_parse_parser)), f a0 = some r → ∀ (q : Pa) (m : M) (vs : List V) (P0 : Pa), vs.map V.weak1 = [.ptr P0 0] ∧ m.blk P0 = some ((T_parse_parser.C a0)) → SC Tryd.prog 104 vs q m (fun v m' => v = .lit (.int .u32 r.1) ∧ m' = (m.set P0 ((T_parse_parser.C r.2))))

theorem p_parse_parser_number_ok : p_parse_parser_number_C (p_parse_parser_number) := by
  rintro a0 r h q m vs P0 ⟨hv, hmP0⟩
  refine SC.weak ?_
  rw [hv]
  refine SC.apart hmP0 fun hpP0 => ?_
  have hmsP0 := set_same hmP0
  try simp only [go_sem] at hmP0 hmsP0
  refine SC_of Tryd.func104 rfl (fun xs w => Tryd.call104 xs w) Tryd.ntmps104 (by kernel_rfl) (congrArg Array.toList Tryd.results104) V.weak (fun _ _ _ => V.weak_ok) ?_
  unfold p_parse_parser_number at h
  refine SW_seq ?_
  refine SW_reg fun K hK => ?_
  simp only [go_sem]
  apply hK
  simp only [thenQ_normal]
  refine SW_seq ?_
  obtain ⟨x1, h3, h⟩ := bind_some h
  refine SW_reg fun K hK => ?_
  simp only [go_sem, ↓reduceIte, Nat.reduceAdd, reduceCtorEq]
  refine SC.by_ (p_parse_parser_token_ok a0 _ h3 _ _ _ P0 (by simp only [go_sem, hmP0])) ?_
  simp only [go_sem, ↓reduceIte, Nat.reduceEqDiff, Nat.reduceAdd]
  apply hK
  simp only [thenQ_normal]
  refine SW_seq ?_
  refine SW_seq ?_
  obtain ⟨y4, hy4, h⟩ := bind_some h
  refine SW_joinK 15 [] [] rfl (fun E' m' => E' 0 = .ptr P0 0 ∧ E' 3 = .ptr (3 :: q) 0 ∧ E' 15 = .lit (.bool y4) ∧ m'.blk P0 = some ((T_parse_parser.C a0)) ∧ m'.blk (3 :: q) = some ((T_lex_Token.C x1)) ∧ m'.gl = m.gl ∧ m.back q m' = (m.set P0 ((T_parse_parser.C a0)))) ?_ ?_
  · rcases bool_or (a0.e_ != (0 : Int)) with c5 | c5
    · replace hy4 := ite_t c5 hy4
      refine SW_reg fun K hK => ?_
      simp only [go_sem, ↓reduceIte, Nat.reduceEqDiff, Nat.reduceAdd, reduceCtorEq, pz1 hpP0, c5, hmP0]
      apply hK
      simp only [thenQ_normal]
      obtain rfl := some_eq hy4
      refine ⟨by decide, ?_⟩
      simp only [go_sem, ↓reduceIte, Nat.reduceEqDiff, reduceCtorEq, back_set, back_self, hmsP0, pz1 hpP0, hmP0]
    · replace hy4 := ite_f c5 hy4
      refine SW_reg fun K hK => ?_
      simp only [go_sem, ↓reduceIte, Nat.reduceEqDiff, Nat.reduceAdd, reduceCtorEq, pz1 hpP0, c5, hmP0]
      apply hK
      simp only [thenQ_normal]
      obtain rfl := some_eq hy4
      refine ⟨by decide, ?_⟩
      simp only [go_sem, ↓reduceIte, Nat.reduceEqDiff, reduceCtorEq, back_set, back_self, hmsP0, pz1 hpP0, hmP0]
  · intro E6 m7 e8 _
    simp only [thenQ_normal]
    refine SW_if y4 (by simp only [go_sem, e8]) (fun c9 => ?_) (fun c9 => ?_)
    · replace h := ite_t c9 h
      refine SW_seq ?_
      obtain ⟨x10, h11, h⟩ := bind_some h
      refine SW_reg fun K hK => ?_
      simp only [go_sem, ↓reduceIte, Nat.reduceAdd, e8]
      refine SC.by_ (p_parse_parser_fail_ok a0 (110 : Int) _ h11 _ _ _ P0 (by simp only [go_sem, e8])) ?_
      simp only [go_sem, Nat.reduceAdd]
      apply hK
      simp only [thenQ_normal]
      refine SW_seq ?_
      refine SW_reg fun K hK => ?_
      simp only [go_sem, Nat.reduceAdd]
      apply hK
      simp only [thenQ_normal]
      refine SW_ret ?_
      try simp only [thenQ_ret]
      obtain rfl := some_eq h
      refine ⟨by first | exact .inl rfl | exact .inl trivial | exact .inr rfl | exact .inr trivial, ?_⟩
      simp only [go_sem, ↓reduceIte, back_out hpP0, hmsP0, e8]
    · replace h := ite_f c9 h
      refine SW_skip ?_
      try simp only [thenQ_normal]
      refine SW_seq ?_
      refine SW_reg fun K hK => ?_
      simp only [go_sem, ↓reduceIte, Nat.reduceEqDiff, Nat.reduceAdd, Nat.reduceLeDiff, e8]
      apply hK
      simp only [thenQ_normal]
      refine SW_seq ?_
      refine SW_reg fun K hK => ?_
      simp only [go_sem, ↓reduceIte, Nat.reduceEqDiff, Nat.reduceAdd, pz1 hpP0, e8]
      apply hK
      simp only [thenQ_normal]
      refine SW_ret ?_
      try simp only []
      obtain rfl := some_eq h
      refine ⟨by first | exact .inl rfl | exact .inl trivial | exact .inr rfl | exact .inr trivial, ?_⟩
      simp only [go_sem, ↓reduceIte, back_out hpP0, hmsP0, e8]

def p_parse_parser_size_C (f : T_parse_parser → Option (Int × T_parse_parser)) : Prop := ∀ (a0 : T_parse_parser) (r : (Int × T_parse_parser)), f a0 = some r → ∀ (q : Pa) (m : M) (vs : List V) (P0 : Pa), vs.map V.weak1 = [.ptr P0 0] ∧ m.blk P0 = some ((T_parse_parser.C a0)) ∧ m.gl 0 = .eptr [(cA cS g_parse_words)] 0 0 → SC Tryd.prog 87 vs q m (fun v m' => v = .lit (.int .u32 r.1) ∧ m' = (m.set P0 ((T_parse_parser.C r.2))))

theorem p_parse_parser_size_ok (n : Nat) : p_parse_parser_size_C (p_parse_parser_size n) := by
  rintro a0 r h q m vs P0 ⟨hv, hmP0, hg0⟩
  refine SC.weak ?_
  rw [hv]
  refine SC.apart hmP0 fun hpP0 => ?_
  have hmsP0 := set_same hmP0
  try simp only [go_sem] at hmP0 hmsP0
  refine SC_of Tryd.func87 rfl (fun xs w => Tryd.call87 xs w) Tryd.ntmps87 (by kernel_rfl) (congrArg Array.toList Tryd.results87) V.weak (fun _ _ _ => V.weak_ok) ?_
  unfold p_parse_parser_size at h
  refine SW_seq ?_
  refine SW_reg fun K hK => ?_
  simp only [go_sem]
  apply hK
  simp only [thenQ_normal]
  refine SW_seq ?_
  obtain ⟨x1, h2, h⟩ := bind_some h
  refine SW_reg fun K hK => ?_
  simp only [go_sem, ↓reduceIte, Nat.reduceAdd, reduceCtorEq]
  refine SC.by_ (p_parse_parser_need_ok n a0 ([91] : Str) _ h2 _ _ _ P0 (by simp only [go_sem, hmP0, hg0])) ?_
  simp only [go_sem, Nat.reduceAdd]
  apply hK
  simp only [thenQ_normal]
  refine SW_seq ?_
  obtain ⟨x3, h4, h⟩ := bind_some h
  refine SW_reg fun K hK => ?_
  simp only [go_sem, ↓reduceIte, Nat.reduceAdd, reduceCtorEq]
  refine SC.by_ (p_parse_parser_number_ok x1 _ h4 _ _ _ P0 (by simp only [go_sem, ↓reduceIte])) ?_
  simp only [go_sem, ↓reduceIte, Nat.reduceAdd]
  apply hK
  simp only [thenQ_normal]
  refine SW_seq ?_
  obtain ⟨x5, h6, h⟩ := bind_some h
  refine SW_reg fun K hK => ?_
  simp only [go_sem, ↓reduceIte, Nat.reduceAdd, reduceCtorEq]
  refine SC.by_ (p_parse_parser_need_ok n x3.2 ([93] : Str) _ h6 _ _ _ P0 (by simp only [go_sem, ↓reduceIte, hg0])) ?_
  simp only [go_sem, Nat.reduceAdd]
  apply hK
  simp only [thenQ_normal]
  refine SW_seq ?_
  refine SW_reg fun K hK => ?_
  simp only [go_sem, ↓reduceIte, Nat.reduceEqDiff, Nat.reduceAdd]
  apply hK
  simp only [thenQ_normal]
  refine SW_ret ?_
  try simp only []
  obtain rfl := some_eq h
  refine ⟨by first | exact .inl rfl | exact .inl trivial | exact .inr rfl | exact .inr trivial, ?_⟩
  simp only [go_sem, ↓reduceIte, back_self, back_out hpP0]

def p_parse_parser_param_C (f : T_parse_parser → Option (T_parse_Node × T_parse_parser)) : Prop := ∀ (a0 : T_parse_parser) (r : (T_parse_Node × T_parse_parser)), f a0 = some r → ∀ (q : Pa) (m : M) (vs : List V) (P0 : Pa), vs.map V.weak1 = [.ptr P0 0] ∧ m.blk P0 = some ((T_parse_parser.C a0)) ∧ m.gl 0 = .eptr [(cA cS g_parse_words)] 0 0 → SC Tryd.prog 51 vs q m (fun v m' => v = .agg ((T_parse_Node.C r.1)) ∧ m' = (m.set P0 ((T_parse_parser.C r.2))))

theorem p_parse_parser_param_ok (n : Nat) : p_parse_parser_param_C (p_parse_parser_param n) := by
  rintro a0 r h q m vs P0 ⟨hv, hmP0, hg0⟩
  refine SC.weak ?_
  rw [hv]
  refine SC.apart hmP0 fun hpP0 => ?_
  have hmsP0 := set_same hmP0
  try simp only [go_sem] at hmP0 hmsP0
  refine SC_of Tryd.func51 rfl (fun xs w => Tryd.call51 xs w) Tryd.ntmps51 (by kernel_rfl) (congrArg Array.toList Tryd.results51) V.weak (fun _ _ _ => V.weak_ok) ?_
  unfold p_parse_parser_param at h
  refine SW_seq ?_
  refine SW_reg fun K hK => ?_
  simp only [go_sem]
  apply hK
  simp only [thenQ_normal]
  refine SW_seq ?_
  obtain ⟨x2, h4, h⟩ := bind_some h
  refine SW_reg fun K hK => ?_
  simp only [go_sem, ↓reduceIte, Nat.reduceAdd, reduceCtorEq]
  refine SC.mono (p_parse_parser_node_ok a0 (3 : Int) _ h4 _ _ _ P0 (by simp only [go_sem, ↓reduceIte, pz2 hpP0, hmP0])) ?_
  rintro _ _ ⟨o_x2, j_x2, s_x2, rfl, rfl⟩
  replace s_x2 : q <:+ o_x2 := List.IsSuffix.trans (by simp only [go_sem]) s_x2
  simp only [go_sem, ↓reduceIte, Nat.reduceEqDiff, Nat.reduceAdd]
  apply hK
  simp only [thenQ_normal]
  refine SW_seq ?_
  obtain ⟨x5, h6, h⟩ := bind_some h
  refine SW_reg fun K hK => ?_
  simp only [go_sem, ↓reduceIte, Nat.reduceAdd, reduceCtorEq]
  refine SC.by_ (p_parse_parser_name_ok n x2.2 _ h6 _ _ _ P0 (by simp only [go_sem, ↓reduceIte, pz2 hpP0, hg0])) ?_
  simp only [go_sem, ↓reduceIte, Nat.reduceEqDiff, Nat.reduceAdd, Nat.reduceLeDiff, pz2 hpP0]
  apply hK
  simp only [thenQ_normal]
  refine SW_seq ?_
  obtain ⟨x7, h8, h⟩ := bind_some h
  refine SW_reg fun K hK => ?_
  simp only [go_sem, ↓reduceIte, Nat.reduceAdd, reduceCtorEq]
  refine SC.by_ (p_parse_parser_need_ok n x5.2 ([58] : Str) _ h8 _ _ _ P0 (by simp only [go_sem, ↓reduceIte, pz2 hpP0, hg0])) ?_
  simp only [go_sem, Nat.reduceAdd]
  apply hK
  simp only [thenQ_normal]
  refine SW_seq ?_
  refine SW_seq ?_
  refine SW_reg fun K hK => ?_
  simp only [go_sem, ↓reduceIte, Nat.reduceAdd, Nat.reduceLeDiff]
  apply hK
  simp only [thenQ_normal]
  refine SW_block ?_
  obtain ⟨y14, hy14, h⟩ := bind_some h
  refine SW_countW [] [] rfl (fun c E' m' => ∃ (v10 : Int), ∃ (v11 : T_parse_parser), ∃ (v12 : T_parse_Node), ∃ (v13 : T_parse_Node), p_parse_parser_param_l1 n c v10 v11 v12 v13 = some y14 ∧ E' 0 = .ptr P0 0 ∧ E' 2 = .ptr (0 :: q) 0 ∧ E' 3 = .ptr (3 :: q) 0 ∧ E' 14 = .agg ((cA cS p_parse_parser_param_k1)) ∧ E' 15 = .lit (.int .i64 v10) ∧ m'.blk P0 = some ((T_parse_parser.C v11)) ∧ m'.blk (0 :: q) = some ([.lit (.int .i64 v12.Kind_), .lit (.int .i64 v12.At_), .lit (.string (bs v12.Text_)), .lit (.int .u32 v12.Num_), .list .self (v12.List_.map T_parse_Node.C)]) ∧ m'.blk (3 :: q) = some ([.lit (.int .i64 v13.Kind_), .lit (.int .i64 v13.At_), .lit (.string (bs v13.Text_)), .lit (.int .u32 v13.Num_), .list .self (v13.List_.map T_parse_Node.C)]) ∧ m'.gl = m.gl ∧ m.back q m' = (m.set P0 ((T_parse_parser.C v11)))) n ⟨(0 : Int), x7, (T_parse_Node.mk (0 : Int) (0 : Int) [] (0 : Int) []), ({ x2.1 with Text_ := x5.1 } : T_parse_Node), hy14, ?_⟩ ?_
  · (simp only [go_sem, ↓reduceIte, Nat.reduceEqDiff, reduceCtorEq, back_set, back_bump, back_tokset, back_self, back_out hpP0, pz2 hpP0, s_x2]) <;> (try and_intros) <;> rfl
  rintro i9 c15 E16 m17 ⟨v10, v11, v12, v13, hy14, e18⟩ _
  rcases c15 with _ | c15
  · exact absurd hy14 (by rw [p_parse_parser_param_l1]; exact fun e => nomatch e)
  rw [p_parse_parser_param_l1] at hy14
  refine SW_seq ?_
  refine SW_reg fun K hK => ?_
  simp only [go_sem, e18]
  apply hK
  simp only [thenQ_normal]
  refine SW_seq ?_
  refine SW_if (decide (v10 < (3 : Int))) (by simp only [go_sem, ↓reduceIte]) (fun c19 => ?_) (fun c19 => ?_)
  · replace hy14 := ite_t c19 hy14
    refine SW_skip ?_
    try simp only [thenQ_normal]
    refine SW_seq ?_
    refine SW_block ?_
    refine SW_seq ?_
    obtain ⟨x20, h24, hy14⟩ := bind_some hy14
    obtain ⟨f21, f22, f23⟩ := idxL_some h24
    have f25 : v10 < (3 : Int) := f22
    obtain ⟨w26, d27⟩ := cA_drop (f := cS) (s := 1) (fun _ _ => rfl) f23
    simp only [go_sem] at d27
    have d28 : List.drop (v10.toNat) [V.lit (.string (bs ([112, 117, 98] : Str))), V.lit (.string (bs ([117, 51, 50] : Str))), V.lit (.string (bs ([117, 54, 52] : Str)))] = _ := d27
    refine SW_reg fun K hK => ?_
    simp only [go_sem, ↓reduceIte, Nat.reduceEqDiff, Nat.reduceAdd, f21, f25, d27, e18]
    apply hK
    simp only [thenQ_normal]
    refine SW_seq ?_
    obtain ⟨x29, h30, hy14⟩ := bind_some hy14
    refine SW_reg fun K hK => ?_
    simp only [go_sem, ↓reduceIte, Nat.reduceEqDiff, Nat.reduceAdd, reduceCtorEq, e18]
    refine SC.by_ (p_parse_parser_take_ok n v11 x20 _ h30 _ _ _ P0 (by simp only [go_sem, e18, hg0])) ?_
    simp only [go_sem, Nat.reduceAdd]
    apply hK
    simp only [thenQ_normal]
    refine SW_if x29.1 (by simp only [go_sem, ↓reduceIte]) (fun c31 => ?_) (fun c31 => ?_)
    · replace hy14 := ite_t c31 hy14
      refine SW_seq ?_
      refine SW_reg fun K hK => ?_
      simp only [go_sem, ↓reduceIte, Nat.reduceEqDiff, Nat.reduceAdd, Nat.reduceLeDiff, pz2 hpP0, c31, e18]
      apply hK
      simp only [thenQ_normal]
      refine SW_seq ?_
      refine SW_reg fun K hK => ?_
      simp only [go_sem, ↓reduceIte, Nat.reduceEqDiff, Nat.reduceAdd, reduceCtorEq, pz2 hpP0, e18]
      apply hK
      simp only [thenQ_normal]
      refine SW_ret ?_
      try simp only [thenQ_ret, blockQ_ret]
      obtain rfl := some_eq hy14
      simp only [Sum.elim_inr] at h
      obtain rfl := some_eq h
      refine ⟨by first | exact .inl rfl | exact .inl trivial | exact .inr rfl | exact .inr trivial, ?_⟩
      simp only [go_sem, ↓reduceIte, Nat.reduceEqDiff, Nat.reduceAdd, back_set, back_out hpP0, e18]
    · replace hy14 := ite_f c31 hy14
      refine SW_skip ?_
      try simp only [thenQ_normal, blockQ_normal]
      refine SW_reg fun K hK => ?_
      simp only [go_sem, ↓reduceIte, Nat.reduceEqDiff, Nat.reduceAdd, c31, e18]
      apply hK
      simp only [thenQ_normal]
      refine ⟨c15, Nat.lt_succ_self _, (IntKind.i64.wrap (v10 + (1 : Int))), x29.2, v12, v13, hy14, ?_⟩
      (simp only [go_sem, ↓reduceIte, Nat.reduceEqDiff, reduceCtorEq, back_out hpP0, pz2 hpP0, e18]) <;> (try and_intros) <;> rfl
  · replace hy14 := ite_f c19 hy14
    refine SW_exit ?_
    try simp only [thenQ_exit, blockQ_exit, ↓reduceIte, thenQ_normal]
    obtain rfl := some_eq hy14
    simp only [Sum.elim_inl] at h
    refine SW_seq ?_
    refine SW_reg fun K hK => ?_
    simp only [go_sem, ↓reduceIte, Nat.reduceEqDiff, Nat.reduceAdd, Nat.reduceLeDiff, c19, e18]
    apply hK
    simp only [thenQ_normal]
    refine SW_seq ?_
    obtain ⟨x32, h34, h⟩ := bind_some h
    refine SW_reg fun K hK => ?_
    simp only [go_sem, ↓reduceIte, Nat.reduceAdd, reduceCtorEq, e18]
    refine SC.mono (p_parse_parser_node_ok v11 (14 : Int) _ h34 _ _ _ P0 (by simp only [go_sem, ↓reduceIte, pz2 hpP0, e18])) ?_
    rintro _ _ ⟨o_x32, j_x32, s_x32, rfl, rfl⟩
    replace s_x32 : q <:+ o_x32 := List.IsSuffix.trans (by simp only [go_sem]) s_x32
    simp only [go_sem, ↓reduceIte, Nat.reduceEqDiff, Nat.reduceAdd]
    apply hK
    simp only [thenQ_normal]
    refine SW_seq ?_
    obtain ⟨x35, h36, h⟩ := bind_some h
    refine SW_reg fun K hK => ?_
    simp only [go_sem, ↓reduceIte, Nat.reduceAdd, reduceCtorEq, e18]
    refine SC.by_ (p_parse_parser_size_ok n x32.2 _ h36 _ _ _ P0 (by simp only [go_sem, ↓reduceIte, pz2 hpP0, e18, hg0])) ?_
    simp only [go_sem, ↓reduceIte, Nat.reduceEqDiff, Nat.reduceAdd, Nat.reduceLeDiff, pz2 hpP0]
    apply hK
    simp only [thenQ_normal]
    refine SW_seq ?_
    refine SW_reg fun K hK => ?_
    simp only [go_sem, ↓reduceIte, Nat.reduceEqDiff, Nat.reduceAdd, Nat.reduceLT, Nat.reduceLeDiff, pz2 hpP0, e18]
    apply hK
    simp only [thenQ_normal]
    refine SW_seq ?_
    refine SW_reg fun K hK => ?_
    simp only [go_sem, ↓reduceIte, Nat.reduceEqDiff, Nat.reduceAdd, reduceCtorEq, pz2 hpP0, e18]
    apply hK
    simp only [thenQ_normal]
    refine SW_ret ?_
    try simp only []
    obtain rfl := some_eq h
    refine ⟨by first | exact .inl rfl | exact .inl trivial | exact .inr rfl | exact .inr trivial, ?_⟩
    simp only [go_sem, ↓reduceIte, Nat.reduceEqDiff, Nat.reduceAdd, back_set, back_bump, back_tokset, back_out hpP0, s_x32, e18]

def p_parse_parser_list__param_C (f : T_parse_parser → Option ((List T_parse_Node) × T_parse_parser)) : Prop := ∀ (a0 : T_parse_parser) (r : ((List T_parse_Node) × T_parse_parser)), f a0 = some r → ∀ (q : Pa) (m : M) (vs : List V) (P0 : Pa), vs.map V.weak1 = [.ptr P0 0, .fn (.func 51) [.ptr P0 0] []] ∧ m.blk P0 = some ((T_parse_parser.C a0)) ∧ m.gl 0 = .eptr [(cA cS g_parse_words)] 0 0 → SC Tryd.prog 50 vs q m (fun v m' => ∃ (id : Pa) (j : Nat), q <:+ id ∧ v = .list (.st (.anon id j)) (r.1.map T_parse_Node.C) ∧ m' = (m.set P0 ((T_parse_parser.C r.2))).tokset id j true)
theorem p_parse_parser_list__param_ok (n : Nat) : p_parse_parser_list__param_C (p_parse_parser_list__param n) := by
  rintro a0 r h q m vs P0 ⟨hv, hmP0, hg0⟩
  refine SC.weak ?_
  rw [hv]
  refine SC.apart hmP0 fun hpP0 => ?_
  have hmsP0 := set_same hmP0
  try simp only [go_sem] at hmP0 hmsP0
  refine SC_ofO Tryd.func50 rfl (fun xs w => Tryd.call50 xs w) Tryd.ntmps50 (by kernel_rfl) ?_
  unfold p_parse_parser_list__param at h
  refine SW_seq ?_
  refine SW_reg fun K hK => ?_
  simp only [go_sem]
  apply hK
  simp only [thenQ_normal]
  refine SW_seq ?_
  refine SW_reg fun K hK => ?_
  simp only [go_sem, Nat.reduceAdd]
  apply hK
  simp only [thenQ_normal]
  refine SW_seq ?_
  obtain ⟨x1, h2, h⟩ := bind_some h
  refine SW_reg fun K hK => ?_
  simp only [go_sem, ↓reduceIte, Nat.reduceAdd, reduceCtorEq]
  refine SC.by_ (p_parse_parser_need_ok n a0 ([40] : Str) _ h2 _ _ _ P0 (by simp only [go_sem, hmP0, hg0])) ?_
  simp only [go_sem, Nat.reduceAdd]
  apply hK
  simp only [thenQ_normal]
  refine SW_seq ?_
  refine SW_seq ?_
  obtain ⟨x3, h4, h⟩ := bind_some h
  refine SW_reg fun K hK => ?_
  simp only [go_sem, ↓reduceIte, Nat.reduceAdd, reduceCtorEq]
  refine SC.by_ (p_parse_parser_take_ok n x1 ([41] : Str) _ h4 _ _ _ P0 (by simp only [go_sem, ↓reduceIte, hg0])) ?_
  simp only [go_sem, Nat.reduceAdd]
  apply hK
  simp only [thenQ_normal]
  refine SW_if x3.1 (by simp only [go_sem, ↓reduceIte]) (fun c5 => ?_) (fun c5 => ?_)
  · replace h := ite_t c5 h
    refine SW_seq ?_
    refine SW_reg fun K hK => ?_
    simp only [go_sem, Nat.reduceAdd, c5]
    apply hK
    simp only [thenQ_normal]
    refine SW_ret ?_
    try simp only [thenQ_ret]
    obtain rfl := some_eq h
    refine ⟨by first | exact .inl rfl | exact .inl trivial | exact .inr rfl | exact .inr trivial, ?_⟩
    refine ⟨(7 :: q), 0, _, (by simp only [go_sem]), .exact (t := 4) (rows := ([].map T_parse_Node.C)) (congrArg Array.toList Tryd.results50) (by simp only [go_sem, ↓reduceIte]), (7 :: q), 0, (by simp only [go_sem]), ?_, ?_⟩ <;> simp only [go_sem, back_self, back_out hpP0]
  · replace h := ite_f c5 h
    refine SW_skip ?_
    try simp only [thenQ_normal]
    refine SW_seq ?_
    obtain ⟨y6, hy6, h⟩ := bind_some h
    refine SW_joinK 8 [] [] rfl (fun E' m' => ∃ (oy6_5 : Pa) (jy6_5 : Nat), E' 0 = .ptr P0 0 ∧ E' 5 = .list (.st (.anon oy6_5 jy6_5)) (y6.1.map T_parse_Node.C) ∧ m'.tok oy6_5 jy6_5 = true ∧ q <:+ oy6_5 ∧ m'.blk P0 = some ((T_parse_parser.C y6.2)) ∧ m'.gl = m.gl ∧ m.back q m' = (m.set P0 ((T_parse_parser.C y6.2)))) ?_ ?_
    · refine SW_block ?_
      obtain ⟨y10, hy10, hy6⟩ := bind_some hy6
      refine SW_stamp 5 ([].map T_parse_Node.C) rfl (by simp only [go_sem, ↓reduceIte, Nat.reduceEqDiff, c5]) ?_
      refine SW_countW [] [] rfl (fun c E' m' => ∃ (v8 : (List T_parse_Node)), ∃ (v9 : T_parse_parser), ∃ (o_v8 : Pa) (j_v8 : Nat), p_parse_parser_list__param_l1 n c v8 v9 = some y10 ∧ E' 0 = .ptr P0 0 ∧ E' 1 = .fn (.func 51) [.ptr P0 0] [] ∧ E' 5 = .list (.st (.anon o_v8 j_v8)) (v8.map T_parse_Node.C) ∧ m'.tok o_v8 j_v8 = true ∧ q <:+ o_v8 ∧ m'.blk P0 = some ((T_parse_parser.C v9)) ∧ m'.gl = m.gl ∧ m.back q m' = (m.set P0 ((T_parse_parser.C v9)))) n ⟨[], x3.2, (6 :: q), 0, hy10, ?_⟩ ?_
      · simp only [go_sem, ↓reduceIte, Nat.reduceEqDiff, reduceCtorEq, back_tokset, back_self, back_out hpP0, c5]
      rintro i7 c11 E12 m13 ⟨v8, v9, o_v8, j_v8, hy10, e14⟩ _
      rcases c11 with _ | c11
      · exact absurd hy10 (by rw [p_parse_parser_list__param_l1]; exact fun e => nomatch e)
      rw [p_parse_parser_list__param_l1] at hy10
      refine SW_seq ?_
      refine SW_seq ?_
      refine SW_reg fun K hK => ?_
      simp only [go_sem, ↓reduceIte, Nat.reduceAdd, e14]
      apply hK
      simp only [thenQ_normal]
      refine SW_if (v9.e_ == (0 : Int)) (by simp only [go_sem, ↓reduceIte]) (fun c15 => ?_) (fun c15 => ?_)
      · replace hy10 := ite_t c15 hy10
        refine SW_skip ?_
        try simp only [thenQ_normal]
        refine SW_block ?_
        refine SW_seq ?_
        obtain ⟨x16, h17, hy10⟩ := bind_some hy10
        obtain ⟨f18, hy10⟩ := need_some hy10
        have f19 : v8.length + 1 ≤ 1073741824 := by first | omega | (simp only [List.length_append, List.length_cons, List.length_nil] at f18 ⊢; omega)
        have f20 : v8.length ≤ 1073741823 := by first | omega | (simp only [List.length_append, List.length_cons, List.length_nil] at f18 ⊢; omega)
        refine SW_reg fun K hK => ?_
        simp only [go_sem, ↓reduceIte, Nat.reduceEqDiff, Nat.reduceAdd, c15, e14]
        refine SC.by_ (p_parse_parser_param_ok n v9 _ h17 _ _ _ P0 (by simp only [go_sem, e14, hg0])) ?_
        simp only [go_sem, ↓reduceIte, Nat.reduceEqDiff, Nat.reduceAdd, Nat.reduceLT, Nat.reduceLeDiff, f19, e14]
        apply hK
        simp only [thenQ_normal]
        refine SW_seq ?_
        obtain ⟨x21, h22, hy10⟩ := bind_some hy10
        refine SW_reg fun K hK => ?_
        simp only [go_sem, ↓reduceIte, Nat.reduceAdd, reduceCtorEq, e14]
        refine SC.by_ (p_parse_parser_take_ok n x16.2 ([44] : Str) _ h22 _ _ _ P0 (by simp only [go_sem, ↓reduceIte, e14, hg0])) ?_
        simp only [go_sem, ↓reduceIte, Nat.reduceAdd]
        apply hK
        simp only [thenQ_normal]
        refine SW_if (!x21.1) (by simp only [go_sem, ↓reduceIte]) (fun c23 => ?_) (fun c23 => ?_)
        · replace hy10 := ite_t c23 hy10
          refine SW_exit ?_
          try simp only [thenQ_exit, blockQ_exit, ↓reduceIte, Nat.reduceEqDiff, thenQ_normal]
          obtain rfl := some_eq hy10
          obtain rfl := some_eq hy6
          refine ⟨by decide, (9 :: i7 :: 7 :: q), 0, ?_⟩
          simp only [go_sem, ↓reduceIte, Nat.reduceEqDiff, reduceCtorEq, back_tokset, back_out hpP0, c23, e14]
        · replace hy10 := ite_f c23 hy10
          refine SW_skip ?_
          try simp only [thenQ_normal, blockQ_normal]
          refine ⟨c11, Nat.lt_succ_self _, (v8 ++ [x16.1]), x21.2, (9 :: i7 :: 7 :: q), 0, hy10, ?_⟩
          simp only [go_sem, ↓reduceIte, Nat.reduceEqDiff, reduceCtorEq, back_tokset, back_out hpP0, c23, e14]
      · replace hy10 := ite_f c15 hy10
        refine SW_exit ?_
        try simp only [thenQ_exit, blockQ_exit, ↓reduceIte, thenQ_normal]
        obtain rfl := some_eq hy10
        obtain rfl := some_eq hy6
        refine ⟨by decide, o_v8, j_v8, ?_⟩
        simp only [go_sem, ↓reduceIte, Nat.reduceEqDiff, reduceCtorEq, c15, e14]
    · rintro E24 m25 ⟨oy6_5, jy6_5, e26⟩ _
      simp only [thenQ_normal]
      refine SW_seq ?_
      obtain ⟨x27, h28, h⟩ := bind_some h
      refine SW_reg fun K hK => ?_
      simp only [go_sem, ↓reduceIte, Nat.reduceAdd, e26]
      refine SC.by_ (p_parse_parser_need_ok n y6.2 ([41] : Str) _ h28 _ _ _ P0 (by simp only [go_sem, e26, hg0])) ?_
      simp only [go_sem, Nat.reduceAdd]
      apply hK
      simp only [thenQ_normal]
      refine SW_seq ?_
      refine SW_reg fun K hK => ?_
      simp only [go_sem, ↓reduceIte, Nat.reduceEqDiff, Nat.reduceAdd, e26]
      apply hK
      simp only [thenQ_normal]
      refine SW_ret ?_
      try simp only []
      obtain rfl := some_eq h
      refine ⟨by first | exact .inl rfl | exact .inl trivial | exact .inr rfl | exact .inr trivial, ?_⟩
      refine ⟨oy6_5, jy6_5, _, (by simp only [go_sem, e26]), .mine (t := 4) (rows := (y6.1.map T_parse_Node.C)) (congrArg Array.toList Tryd.results50) (by simp only [go_sem, ↓reduceIte]) (by simp only [go_sem, e26]), oy6_5, jy6_5, (by simp only [go_sem, e26]), ?_, ?_⟩ <;> simp only [go_sem, back_out hpP0, e26]

def p_parse_parser_deep_C (f : T_parse_parser → Int → Option T_parse_parser) : Prop := ∀ (a0 : T_parse_parser) (a1 : Int) (r : T_parse_parser), f a0 a1 = some r → ∀ (q : Pa) (m : M) (vs : List V) (P0 : Pa), vs.map V.weak1 = [.ptr P0 0, .lit (.int .i64 a1)] ∧ m.blk P0 = some ((T_parse_parser.C a0)) → SC Tryd.prog 88 vs q m (fun v m' => v = .tup [] ∧ m' = (m.set P0 ((T_parse_parser.C r))))

theorem p_parse_parser_deep_ok : p_parse_parser_deep_C (p_parse_parser_deep) := by
  rintro a0 a1 r h q m vs P0 ⟨hv, hmP0⟩
  refine SC.weak ?_
  rw [hv]
  refine SC.apart hmP0 fun hpP0 => ?_
  have hmsP0 := set_same hmP0
  try simp only [go_sem] at hmP0 hmsP0
  refine SC_of Tryd.func88 rfl (fun xs w => Tryd.call88 xs w) Tryd.ntmps88 (by kernel_rfl) (congrArg Array.toList Tryd.results88) V.weak (fun _ _ _ => V.weak_ok) ?_
  unfold p_parse_parser_deep at h
  refine SW_seq ?_
  refine SW_reg fun K hK => ?_
  simp only [go_sem, ↓reduceIte, Nat.reduceAdd]
  apply hK
  simp only [thenQ_normal]
  refine SW_if (decide ((64 : Int) < a1)) (by simp only [go_sem, ↓reduceIte]) (fun c1 => ?_) (fun c1 => ?_)
  · replace h := ite_t c1 h
    obtain ⟨x2, h3, h⟩ := bind_some h
    refine SW_reg fun K hK => ?_
    simp only [go_sem, ↓reduceIte, Nat.reduceAdd, reduceCtorEq, c1]
    refine SC.by_ (p_parse_parser_fail_ok a0 (111 : Int) _ h3 _ _ _ P0 (by simp only [go_sem, hmP0])) ?_
    simp only [go_sem, Nat.reduceAdd]
    apply hK
    simp only []
    obtain rfl := some_eq h
    refine ⟨by first | exact .inl rfl | exact .inl trivial | exact .inr rfl | exact .inr trivial, ?_⟩
    simp only [go_sem, back_self, back_out hpP0]
  · replace h := ite_f c1 h
    refine SW_skip ?_
    try simp only []
    obtain rfl := some_eq h
    refine ⟨by first | exact .inl rfl | exact .inl trivial | exact .inr rfl | exact .inr trivial, ?_⟩
    simp only [go_sem, back_self, hmsP0, c1]

def p_parse_parser_sign_C (f : T_parse_parser → Int → Option Str) : Prop := ∀ (a0 : T_parse_parser) (a1 : Int) (r : Str), f a0 a1 = some r → ∀ (q : Pa) (m : M) (vs : List V) (P0 : Pa), vs.map V.weak1 = [.ptr P0 0, .lit (.int .i64 a1)] ∧ m.blk P0 = some ((T_parse_parser.C a0)) ∧ m.gl 0 = .eptr [(cA cS g_parse_words)] 0 0 ∧ m.gl 6 = .eptr [(cA (cA cS) g_parse_levels)] 0 0 → SC Tryd.prog 150 vs q m (fun v m' => v = .lit (.string (bs r)) ∧ m' = m)

theorem p_parse_parser_sign_ok (n : Nat) : p_parse_parser_sign_C (p_parse_parser_sign n) := by
  rintro a0 a1 r h q m vs P0 ⟨hv, hmP0, hg0, hg6⟩
  refine SC.weak ?_
  rw [hv]
  refine SC.apart hmP0 fun hpP0 => ?_
  try simp only [go_sem] at hmP0
  refine SC_of Tryd.func150 rfl (fun xs w => Tryd.call150 xs w) Tryd.ntmps150 (by kernel_rfl) (congrArg Array.toList Tryd.results150) V.weak (fun _ _ _ => V.weak_ok) ?_
  unfold p_parse_parser_sign at h
  refine SW_seq ?_
  refine SW_reg fun K hK => ?_
  simp only [go_sem]
  apply hK
  simp only [thenQ_normal]
  refine SW_seq ?_
  refine SW_seq ?_
  obtain ⟨x1, h5, h⟩ := bind_some h
  obtain ⟨f2, f3, f4⟩ := idxL_some h5
  have f6 : a1 < (7 : Int) := f3
  obtain ⟨w7, d8⟩ := cA_drop (f := (cA cS)) (s := 3) (cA_all (f := (cA cS)) (s := 3) _ (by kernel_rfl)) f4
  have d9 := (cA_all (f := (cA cS)) (s := 3) _ (by kernel_rfl)) _ (List.mem_of_getElem? f4)
  have d10 := List.take_left' (l₂ := w7) d9
  have d11 : (3 ≤ (cA cS x1).length + w7.length) = True := eq_true (by omega)
  refine SW_reg fun K hK => ?_
  simp only [go_sem, ↓reduceIte, Nat.reduceEqDiff, Nat.reduceAdd, f2, f6, d10, d11, d8, hg6]
  apply hK
  simp only [thenQ_normal]
  refine SW_block ?_
  obtain ⟨y14, hy14, h⟩ := bind_some h
  refine SW_countW [] [] rfl (fun c E' m' => ∃ (v13 : Int), p_parse_parser_sign_l1 n x1 a0 c v13 = some y14 ∧ E' 0 = .ptr P0 0 ∧ E' 9 = .agg ((cA cS x1)) ∧ E' 10 = .lit (.int .i64 v13) ∧ m'.blk P0 = some ((T_parse_parser.C a0)) ∧ m'.gl = m.gl ∧ m.back q m' = m) n ⟨(0 : Int), hy14, ?_⟩ ?_
  · simp only [go_sem, ↓reduceIte, Nat.reduceEqDiff, reduceCtorEq, back_self, hmP0]
  rintro i12 c15 E16 m17 ⟨v13, hy14, e18⟩ _
  rcases c15 with _ | c15
  · exact absurd hy14 (by rw [p_parse_parser_sign_l1]; exact fun e => nomatch e)
  rw [p_parse_parser_sign_l1] at hy14
  refine SW_seq ?_
  refine SW_reg fun K hK => ?_
  simp only [go_sem, e18]
  apply hK
  simp only [thenQ_normal]
  refine SW_seq ?_
  refine SW_if (decide (v13 < (3 : Int))) (by simp only [go_sem, ↓reduceIte]) (fun c19 => ?_) (fun c19 => ?_)
  · replace hy14 := ite_t c19 hy14
    refine SW_skip ?_
    try simp only [thenQ_normal]
    refine SW_seq ?_
    refine SW_block ?_
    refine SW_seq ?_
    obtain ⟨x20, h24, hy14⟩ := bind_some hy14
    obtain ⟨f21, f22, f23⟩ := idxL_some h24
    have f25 := (List.getElem?_eq_some_iff.1 f23).1
    have f26 : v13 < (3 : Int) := by have := cA_one d9; omega
    obtain ⟨w27, d28⟩ := cA_drop (f := cS) (s := 1) (fun _ _ => rfl) f23
    simp only [go_sem] at d28
    refine SW_reg fun K hK => ?_
    simp only [go_sem, ↓reduceIte, Nat.reduceEqDiff, Nat.reduceAdd, f21, f26, d28, e18]
    apply hK
    simp only [thenQ_normal]
    refine SW_seq ?_
    obtain ⟨y29, hy29, hy14⟩ := bind_some hy14
    refine SW_joinK 10 [] [] rfl (fun E' m' => E' 0 = .ptr P0 0 ∧ E' 6 = .lit (.string (bs x20)) ∧ E' 9 = .agg ((cA cS x1)) ∧ E' 10 = .lit (.int .i64 v13) ∧ E' 19 = .lit (.bool y29) ∧ m'.blk P0 = some ((T_parse_parser.C a0)) ∧ m'.gl = m.gl ∧ m.back q m' = m) ?_ ?_
    · rcases bool_or (decide (x20 ≠ ([] : Str))) with c30 | c30
      · replace hy29 := ite_t c30 hy29
        obtain ⟨x31, h32, hy29⟩ := bind_some hy29
        refine SW_reg fun K hK => ?_
        simp only [go_sem, ↓reduceIte, Nat.reduceEqDiff, Nat.reduceAdd, reduceCtorEq, c30, e18]
        refine SC.by_ (p_parse_parser_is_ok n a0 x20 _ h32 _ _ _ P0 (by simp only [go_sem, e18, hg0])) ?_
        simp only [go_sem, ↓reduceIte, Nat.reduceEqDiff, Nat.reduceAdd]
        apply hK
        simp only [thenQ_normal]
        obtain rfl := some_eq hy29
        refine ⟨by decide, ?_⟩
        simp only [go_sem, ↓reduceIte, Nat.reduceEqDiff, reduceCtorEq, e18]
      · replace hy29 := ite_f c30 hy29
        refine SW_reg fun K hK => ?_
        simp only [go_sem, ↓reduceIte, Nat.reduceEqDiff, Nat.reduceAdd, c30]
        apply hK
        simp only [thenQ_normal]
        obtain rfl := some_eq hy29
        refine ⟨by decide, ?_⟩
        simp only [go_sem, ↓reduceIte, Nat.reduceEqDiff, reduceCtorEq, e18]
    · intro E33 m34 e35 _
      simp only [thenQ_normal]
      refine SW_if y29 (by simp only [go_sem, e35]) (fun c36 => ?_) (fun c36 => ?_)
      · replace hy14 := ite_t c36 hy14
        refine SW_seq ?_
        refine SW_reg fun K hK => ?_
        simp only [go_sem, ↓reduceIte, Nat.reduceAdd, e35]
        apply hK
        simp only [thenQ_normal]
        refine SW_ret ?_
        try simp only [thenQ_ret, blockQ_ret]
        obtain rfl := some_eq hy14
        simp only [Sum.elim_inr] at h
        obtain rfl := some_eq h
        refine ⟨by first | exact .inl rfl | exact .inl trivial | exact .inr rfl | exact .inr trivial, ?_⟩
        simp only [go_sem, ↓reduceIte, e35]
      · replace hy14 := ite_f c36 hy14
        refine SW_skip ?_
        try simp only [thenQ_normal, blockQ_normal]
        refine SW_reg fun K hK => ?_
        simp only [go_sem, ↓reduceIte, Nat.reduceAdd, e35]
        apply hK
        simp only [thenQ_normal]
        refine ⟨c15, Nat.lt_succ_self _, (IntKind.i64.wrap (v13 + (1 : Int))), hy14, ?_⟩
        simp only [go_sem, ↓reduceIte, Nat.reduceEqDiff, reduceCtorEq, e35]
  · replace hy14 := ite_f c19 hy14
    refine SW_exit ?_
    try simp only [thenQ_exit, blockQ_exit, ↓reduceIte, thenQ_normal]
    obtain rfl := some_eq hy14
    simp only [Sum.elim_inl] at h
    refine SW_seq ?_
    refine SW_reg fun K hK => ?_
    simp only [go_sem, Nat.reduceAdd, c19]
    apply hK
    simp only [thenQ_normal]
    refine SW_ret ?_
    try simp only []
    obtain rfl := some_eq h
    refine ⟨by first | exact .inl rfl | exact .inl trivial | exact .inr rfl | exact .inr trivial, ?_⟩
    simp only [go_sem, ↓reduceIte, e18]

def p_parse_parser_list__operand_1_C (f : T_parse_parser → Int → Option ((List T_parse_Node) × T_parse_parser)) : Prop := ∀ (a0 : T_parse_parser) (a1 : Int) (r : ((List T_parse_Node) × T_parse_parser)), f a0 a1 = some r → ∀ (q : Pa) (m : M) (vs : List V) (P0 : Pa) (P1 : Pa) (P2 : Pa), vs.map V.weak1 = [.ptr P0 0, .fn (.func 164) [] [.ptr P1 0, .ptr P2 0]] ∧ m.blk P0 = some ((T_parse_parser.C a0)) ∧ m.blk P1 = some ([.ptr P0 0]) ∧ m.blk P2 = some ([.lit (.int .i64 a1)]) ∧ (P0 = P1) = False ∧ (P0 = P2) = False ∧ (P1 = P0) = False ∧ (P1 = P2) = False ∧ (P2 = P0) = False ∧ (P2 = P1) = False ∧ m.gl 0 = .eptr [(cA cS g_parse_words)] 0 0 ∧ m.gl 6 = .eptr [(cA (cA cS) g_parse_levels)] 0 0 → SC Tryd.prog 50 vs q m (fun v m' => v = .list .none (r.1.map T_parse_Node.C) ∧ m' = (m.set P0 ((T_parse_parser.C r.2))))

def p_parse_parser_expr_C (f : T_parse_parser → Int → Option (T_parse_Node × T_parse_parser)) : Prop := ∀ (a0 : T_parse_parser) (a1 : Int) (r : (T_parse_Node × T_parse_parser)), f a0 a1 = some r → ∀ (q : Pa) (m : M) (vs : List V) (P0 : Pa), vs.map V.weak1 = [.ptr P0 0, .lit (.int .i64 a1)] ∧ m.blk P0 = some ((T_parse_parser.C a0)) ∧ m.gl 0 = .eptr [(cA cS g_parse_words)] 0 0 ∧ m.gl 6 = .eptr [(cA (cA cS) g_parse_levels)] 0 0 → SC Tryd.prog 106 vs q m (fun v m' => v = .agg ((T_parse_Node.C r.1)) ∧ m' = (m.set P0 ((T_parse_parser.C r.2))))

def p_parse_parser_level_C (f : T_parse_parser → Int → Int → Option (T_parse_Node × T_parse_parser)) : Prop := ∀ (a0 : T_parse_parser) (a1 : Int) (a2 : Int) (r : (T_parse_Node × T_parse_parser)), f a0 a1 a2 = some r → ∀ (q : Pa) (m : M) (vs : List V) (P0 : Pa), vs.map V.weak1 = [.ptr P0 0, .lit (.int .i64 a1), .lit (.int .i64 a2)] ∧ m.blk P0 = some ((T_parse_parser.C a0)) ∧ m.gl 0 = .eptr [(cA cS g_parse_words)] 0 0 ∧ m.gl 6 = .eptr [(cA (cA cS) g_parse_levels)] 0 0 → SC Tryd.prog 127 vs q m (fun v m' => v = .agg ((T_parse_Node.C r.1)) ∧ m' = (m.set P0 ((T_parse_parser.C r.2))))

def p_parse_parser_operand_C (f : T_parse_parser → Int → Option (T_parse_Node × T_parse_parser)) : Prop := ∀ (a0 : T_parse_parser) (a1 : Int) (r : (T_parse_Node × T_parse_parser)), f a0 a1 = some r → ∀ (q : Pa) (m : M) (vs : List V) (P0 : Pa), vs.map V.weak1 = [.ptr P0 0, .lit (.int .i64 a1)] ∧ m.blk P0 = some ((T_parse_parser.C a0)) ∧ m.gl 0 = .eptr [(cA cS g_parse_words)] 0 0 ∧ m.gl 6 = .eptr [(cA (cA cS) g_parse_levels)] 0 0 → SC Tryd.prog 149 vs q m (fun v m' => v = .agg ((T_parse_Node.C r.1)) ∧ m' = (m.set P0 ((T_parse_parser.C r.2))))

def p_parse_parser_operand_1_C (f : T_parse_parser → Int → Option (T_parse_Node × T_parse_parser)) : Prop := ∀ (a0 : T_parse_parser) (a1 : Int) (r : (T_parse_Node × T_parse_parser)), f a0 a1 = some r → ∀ (q : Pa) (m : M) (vs : List V) (P0 : Pa) (P1 : Pa) (P2 : Pa), vs.map V.weak1 = [.ptr P1 0, .ptr P2 0] ∧ m.blk P0 = some ((T_parse_parser.C a0)) ∧ m.blk P1 = some ([.ptr P0 0]) ∧ m.blk P2 = some ([.lit (.int .i64 a1)]) ∧ (P0 = P1) = False ∧ (P0 = P2) = False ∧ (P1 = P0) = False ∧ (P1 = P2) = False ∧ (P2 = P0) = False ∧ (P2 = P1) = False ∧ m.gl 0 = .eptr [(cA cS g_parse_words)] 0 0 ∧ m.gl 6 = .eptr [(cA (cA cS) g_parse_levels)] 0 0 → SC Tryd.prog 164 vs q m (fun v m' => v = .agg ((T_parse_Node.C r.1)) ∧ m' = (m.set P0 ((T_parse_parser.C r.2))))

theorem p_parse_parser_list__operand_1_b_ok {rec_p_parse_parser_operand_1 : T_parse_parser → Int → Option (T_parse_Node × T_parse_parser)} (hrec_p_parse_parser_operand_1 : p_parse_parser_operand_1_C rec_p_parse_parser_operand_1) (n : Nat) : p_parse_parser_list__operand_1_C (p_parse_parser_list__operand_1_b rec_p_parse_parser_operand_1 n) := by
  rintro a0 a1 r h q m vs P0 P1 P2 ⟨hv, hmP0, hmP1, hmP2, hn0_1, hn0_2, hn1_0, hn1_2, hn2_0, hn2_1, hg0, hg6⟩
  refine SC.weak ?_
  rw [hv]
  refine SC.apart hmP0 fun hpP0 => ?_
  refine SC.apart hmP1 fun hpP1 => ?_
  refine SC.apart hmP2 fun hpP2 => ?_
  have hmsP0 := set_same hmP0
  try simp only [go_sem] at hmP0 hmsP0
  skip
  try simp only [go_sem, ↓reduceIte, Nat.reduceEqDiff, Nat.reduceAdd, Nat.reduceMul, Nat.reduceLT, Nat.reduceLeDiff, reduceCtorEq, Int.reduceLE, Int.reduceLT, Int.reduceToNat, UInt8.reduceToNat] at hmP2
  refine SC_of Tryd.func50 rfl (fun xs w => Tryd.call50 xs w) Tryd.ntmps50 (by kernel_rfl) (congrArg Array.toList Tryd.results50) V.weak (fun _ _ _ => V.weak_ok) ?_
  unfold p_parse_parser_list__operand_1_b at h
  refine SW_seq ?_
  refine SW_reg fun K hK => ?_
  simp only [go_sem]
  apply hK
  simp only [thenQ_normal]
  refine SW_seq ?_
  refine SW_reg fun K hK => ?_
  simp only [go_sem, Nat.reduceAdd]
  apply hK
  simp only [thenQ_normal]
  refine SW_seq ?_
  obtain ⟨x1, h2, h⟩ := bind_some h
  refine SW_reg fun K hK => ?_
  simp only [go_sem, ↓reduceIte, Nat.reduceAdd, reduceCtorEq]
  refine SC.by_ (p_parse_parser_need_ok n a0 ([40] : Str) _ h2 _ _ _ P0 (by simp only [go_sem, hmP0, hg0])) ?_
  simp only [go_sem, Nat.reduceAdd]
  apply hK
  simp only [thenQ_normal]
  refine SW_seq ?_
  refine SW_seq ?_
  obtain ⟨x3, h4, h⟩ := bind_some h
  refine SW_reg fun K hK => ?_
  simp only [go_sem, ↓reduceIte, Nat.reduceAdd, reduceCtorEq]
  refine SC.by_ (p_parse_parser_take_ok n x1 ([41] : Str) _ h4 _ _ _ P0 (by simp only [go_sem, ↓reduceIte, hg0])) ?_
  simp only [go_sem, Nat.reduceAdd]
  apply hK
  simp only [thenQ_normal]
  refine SW_if x3.1 (by simp only [go_sem, ↓reduceIte]) (fun c5 => ?_) (fun c5 => ?_)
  · replace h := ite_t c5 h
    refine SW_seq ?_
    refine SW_reg fun K hK => ?_
    simp only [go_sem, Nat.reduceAdd, c5]
    apply hK
    simp only [thenQ_normal]
    refine SW_ret ?_
    try simp only [thenQ_ret]
    obtain rfl := some_eq h
    refine ⟨by first | exact .inl rfl | exact .inl trivial | exact .inr rfl | exact .inr trivial, ?_⟩
    simp only [go_sem, ↓reduceIte, back_self, back_out hpP0]
  · replace h := ite_f c5 h
    refine SW_skip ?_
    try simp only [thenQ_normal]
    refine SW_seq ?_
    obtain ⟨y6, hy6, h⟩ := bind_some h
    refine SW_joinK 8 [] [] rfl (fun E' m' => ∃ (oy6_5 : Pa) (jy6_5 : Nat), E' 0 = .ptr P0 0 ∧ E' 5 = .list (.st (.anon oy6_5 jy6_5)) (y6.1.map T_parse_Node.C) ∧ m'.tok oy6_5 jy6_5 = true ∧ q <:+ oy6_5 ∧ m'.blk P0 = some ((T_parse_parser.C y6.2)) ∧ m'.blk P1 = some ([.ptr P0 0]) ∧ m'.blk P2 = some ([.lit (.int .i64 a1)]) ∧ m'.gl = m.gl ∧ m.back q m' = (m.set P0 ((T_parse_parser.C y6.2)))) ?_ ?_
    · refine SW_block ?_
      obtain ⟨y10, hy10, hy6⟩ := bind_some hy6
      refine SW_stamp 5 ([].map T_parse_Node.C) rfl (by simp only [go_sem, ↓reduceIte, Nat.reduceEqDiff, c5]) ?_
      refine SW_countW [] [] rfl (fun c E' m' => ∃ (v8 : (List T_parse_Node)), ∃ (v9 : T_parse_parser), ∃ (o_v8 : Pa) (j_v8 : Nat), p_parse_parser_list__operand_1_l1 rec_p_parse_parser_operand_1 n a1 c v8 v9 = some y10 ∧ E' 0 = .ptr P0 0 ∧ E' 1 = .fn (.func 164) [] [.ptr P1 0, .ptr P2 0] ∧ E' 5 = .list (.st (.anon o_v8 j_v8)) (v8.map T_parse_Node.C) ∧ m'.tok o_v8 j_v8 = true ∧ q <:+ o_v8 ∧ m'.blk P0 = some ((T_parse_parser.C v9)) ∧ m'.blk P1 = some ([.ptr P0 0]) ∧ m'.blk P2 = some ([.lit (.int .i64 a1)]) ∧ m'.gl = m.gl ∧ m.back q m' = (m.set P0 ((T_parse_parser.C v9)))) n ⟨[], x3.2, (6 :: q), 0, hy10, ?_⟩ ?_
      · simp only [go_sem, ↓reduceIte, Nat.reduceEqDiff, reduceCtorEq, back_tokset, back_self, back_out hpP0, hn1_0, hn2_0, c5, hmP1, hmP2]
      rintro i7 c11 E12 m13 ⟨v8, v9, o_v8, j_v8, hy10, e14⟩ _
      rcases c11 with _ | c11
      · exact absurd hy10 (by rw [p_parse_parser_list__operand_1_l1]; exact fun e => nomatch e)
      rw [p_parse_parser_list__operand_1_l1] at hy10
      refine SW_seq ?_
      refine SW_seq ?_
      refine SW_reg fun K hK => ?_
      simp only [go_sem, ↓reduceIte, Nat.reduceAdd, e14]
      apply hK
      simp only [thenQ_normal]
      refine SW_if (v9.e_ == (0 : Int)) (by simp only [go_sem, ↓reduceIte]) (fun c15 => ?_) (fun c15 => ?_)
      · replace hy10 := ite_t c15 hy10
        refine SW_skip ?_
        try simp only [thenQ_normal]
        refine SW_block ?_
        refine SW_seq ?_
        obtain ⟨x16, h17, hy10⟩ := bind_some hy10
        obtain ⟨f18, hy10⟩ := need_some hy10
        have f19 : v8.length + 1 ≤ 1073741824 := by first | omega | (simp only [List.length_append, List.length_cons, List.length_nil] at f18 ⊢; omega)
        have f20 : v8.length ≤ 1073741823 := by first | omega | (simp only [List.length_append, List.length_cons, List.length_nil] at f18 ⊢; omega)
        refine SW_reg fun K hK => ?_
        simp only [go_sem, ↓reduceIte, Nat.reduceEqDiff, Nat.reduceAdd, c15, e14]
        refine SC.by_ (hrec_p_parse_parser_operand_1 v9 a1 _ h17 _ _ _ P0 P1 P2 (by simp only [go_sem, hn0_1, hn0_2, hn1_0, hn1_2, hn2_0, hn2_1, e14, hg0, hg6])) ?_
        simp only [go_sem, ↓reduceIte, Nat.reduceEqDiff, Nat.reduceAdd, Nat.reduceLT, Nat.reduceLeDiff, f19, e14]
        apply hK
        simp only [thenQ_normal]
        refine SW_seq ?_
        obtain ⟨x21, h22, hy10⟩ := bind_some hy10
        refine SW_reg fun K hK => ?_
        simp only [go_sem, ↓reduceIte, Nat.reduceAdd, reduceCtorEq, e14]
        refine SC.by_ (p_parse_parser_take_ok n x16.2 ([44] : Str) _ h22 _ _ _ P0 (by simp only [go_sem, ↓reduceIte, e14, hg0])) ?_
        simp only [go_sem, ↓reduceIte, Nat.reduceAdd]
        apply hK
        simp only [thenQ_normal]
        refine SW_if (!x21.1) (by simp only [go_sem, ↓reduceIte]) (fun c23 => ?_) (fun c23 => ?_)
        · replace hy10 := ite_t c23 hy10
          refine SW_exit ?_
          try simp only [thenQ_exit, blockQ_exit, ↓reduceIte, Nat.reduceEqDiff, thenQ_normal]
          obtain rfl := some_eq hy10
          obtain rfl := some_eq hy6
          refine ⟨by decide, (9 :: i7 :: 7 :: q), 0, ?_⟩
          simp only [go_sem, ↓reduceIte, Nat.reduceEqDiff, reduceCtorEq, back_tokset, back_out hpP0, hn1_0, hn2_0, c23, e14]
        · replace hy10 := ite_f c23 hy10
          refine SW_skip ?_
          try simp only [thenQ_normal, blockQ_normal]
          refine ⟨c11, Nat.lt_succ_self _, (v8 ++ [x16.1]), x21.2, (9 :: i7 :: 7 :: q), 0, hy10, ?_⟩
          simp only [go_sem, ↓reduceIte, Nat.reduceEqDiff, reduceCtorEq, back_tokset, back_out hpP0, hn1_0, hn2_0, c23, e14]
      · replace hy10 := ite_f c15 hy10
        refine SW_exit ?_
        try simp only [thenQ_exit, blockQ_exit, ↓reduceIte, thenQ_normal]
        obtain rfl := some_eq hy10
        obtain rfl := some_eq hy6
        refine ⟨by decide, o_v8, j_v8, ?_⟩
        simp only [go_sem, ↓reduceIte, Nat.reduceEqDiff, reduceCtorEq, c15, e14]
    · rintro E24 m25 ⟨oy6_5, jy6_5, e26⟩ _
      simp only [thenQ_normal]
      refine SW_seq ?_
      obtain ⟨x27, h28, h⟩ := bind_some h
      refine SW_reg fun K hK => ?_
      simp only [go_sem, ↓reduceIte, Nat.reduceAdd, e26]
      refine SC.by_ (p_parse_parser_need_ok n y6.2 ([41] : Str) _ h28 _ _ _ P0 (by simp only [go_sem, e26, hg0])) ?_
      simp only [go_sem, Nat.reduceAdd]
      apply hK
      simp only [thenQ_normal]
      refine SW_seq ?_
      refine SW_reg fun K hK => ?_
      simp only [go_sem, ↓reduceIte, Nat.reduceEqDiff, Nat.reduceAdd, e26]
      apply hK
      simp only [thenQ_normal]
      refine SW_ret ?_
      try simp only []
      obtain rfl := some_eq h
      refine ⟨by first | exact .inl rfl | exact .inl trivial | exact .inr rfl | exact .inr trivial, ?_⟩
      simp only [go_sem, ↓reduceIte, back_out hpP0, e26]

theorem p_parse_parser_expr_b_ok {rec_p_parse_parser_level : T_parse_parser → Int → Int → Option (T_parse_Node × T_parse_parser)} (hrec_p_parse_parser_level : p_parse_parser_level_C rec_p_parse_parser_level) (n : Nat) : p_parse_parser_expr_C (p_parse_parser_expr_b rec_p_parse_parser_level n) := by
  rintro a0 a1 r h q m vs P0 ⟨hv, hmP0, hg0, hg6⟩
  refine SC.weak ?_
  rw [hv]
  refine SC.apart hmP0 fun hpP0 => ?_
  have hmsP0 := set_same hmP0
  try simp only [go_sem] at hmP0 hmsP0
  refine SC_of Tryd.func106 rfl (fun xs w => Tryd.call106 xs w) Tryd.ntmps106 (by kernel_rfl) (congrArg Array.toList Tryd.results106) V.weak (fun _ _ _ => V.weak_ok) ?_
  unfold p_parse_parser_expr_b at h
  refine SW_seq ?_
  refine SW_reg fun K hK => ?_
  simp only [go_sem]
  apply hK
  simp only [thenQ_normal]
  refine SW_seq ?_
  obtain ⟨x2, h3, h⟩ := bind_some h
  refine SW_reg fun K hK => ?_
  simp only [go_sem, ↓reduceIte, Nat.reduceEqDiff, Nat.reduceAdd, reduceCtorEq]
  refine SC.by_ (hrec_p_parse_parser_level a0 (0 : Int) a1 _ h3 _ _ _ P0 (by simp only [go_sem, ↓reduceIte, pz1 hpP0, hmP0, hg0, hg6])) ?_
  simp only [go_sem, ↓reduceIte, Nat.reduceEqDiff, Nat.reduceAdd, pz1 hpP0]
  apply hK
  simp only [thenQ_normal]
  refine SW_ret ?_
  try simp only []
  obtain rfl := some_eq h
  refine ⟨by first | exact .inl rfl | exact .inl trivial | exact .inr rfl | exact .inr trivial, ?_⟩
  simp only [go_sem, ↓reduceIte, Nat.reduceEqDiff, Nat.reduceAdd, back_set, back_self, back_out hpP0]

theorem p_parse_parser_level_b_ok {rec_p_parse_parser_operand : T_parse_parser → Int → Option (T_parse_Node × T_parse_parser)} (hrec_p_parse_parser_operand : p_parse_parser_operand_C rec_p_parse_parser_operand) {rec_p_parse_parser_level : T_parse_parser → Int → Int → Option (T_parse_Node × T_parse_parser)} (hrec_p_parse_parser_level : p_parse_parser_level_C rec_p_parse_parser_level) (n : Nat) : p_parse_parser_level_C (p_parse_parser_level_b rec_p_parse_parser_operand rec_p_parse_parser_level n) := by
  rintro a0 a1 a2 r h q m vs P0 ⟨hv, hmP0, hg0, hg6⟩
  refine SC.weak ?_
  rw [hv]
  refine SC.apart hmP0 fun hpP0 => ?_
  have hmsP0 := set_same hmP0
  try simp only [go_sem] at hmP0 hmsP0
  refine SC_of Tryd.func127 rfl (fun xs w => Tryd.call127 xs w) Tryd.ntmps127 (by kernel_rfl) (congrArg Array.toList Tryd.results127) V.weak (fun _ _ _ => V.weak_ok) ?_
  unfold p_parse_parser_level_b at h
  refine SW_seq ?_
  refine SW_reg fun K hK => ?_
  simp only [go_sem]
  apply hK
  simp only [thenQ_normal]
  refine SW_seq ?_
  refine SW_seq ?_
  refine SW_reg fun K hK => ?_
  simp only [go_sem, ↓reduceIte, Nat.reduceEqDiff, Nat.reduceAdd]
  apply hK
  simp only [thenQ_normal]
  refine SW_if (a1 == (7 : Int)) (by simp only [go_sem, ↓reduceIte]) (fun c2 => ?_) (fun c2 => ?_)
  · replace h := ite_t c2 h
    refine SW_seq ?_
    obtain ⟨x3, h4, h⟩ := bind_some h
    refine SW_reg fun K hK => ?_
    simp only [go_sem, ↓reduceIte, Nat.reduceEqDiff, Nat.reduceAdd, reduceCtorEq, c2]
    refine SC.by_ (hrec_p_parse_parser_operand a0 a2 _ h4 _ _ _ P0 (by simp only [go_sem, ↓reduceIte, pz2 hpP0, hmP0, hg0, hg6])) ?_
    simp only [go_sem, ↓reduceIte, Nat.reduceEqDiff, Nat.reduceAdd, pz2 hpP0]
    apply hK
    simp only [thenQ_normal]
    refine SW_ret ?_
    try simp only [thenQ_ret]
    obtain rfl := some_eq h
    refine ⟨by first | exact .inl rfl | exact .inl trivial | exact .inr rfl | exact .inr trivial, ?_⟩
    simp only [go_sem, ↓reduceIte, Nat.reduceEqDiff, Nat.reduceAdd, back_set, back_self, back_out hpP0]
  · replace h := ite_f c2 h
    refine SW_skip ?_
    try simp only [thenQ_normal]
    refine SW_seq ?_
    obtain ⟨x5, h7, h⟩ := bind_some h
    refine SW_reg fun K hK => ?_
    simp only [go_sem, ↓reduceIte, Nat.reduceEqDiff, Nat.reduceAdd, reduceCtorEq, c2]
    refine SC.by_ (hrec_p_parse_parser_level a0 (IntKind.i64.wrap (a1 + (1 : Int))) a2 _ h7 _ _ _ P0 (by simp only [go_sem, ↓reduceIte, pz2 hpP0, hmP0, hg0, hg6])) ?_
    simp only [go_sem, ↓reduceIte, Nat.reduceEqDiff, Nat.reduceAdd]
    apply hK
    simp only [thenQ_normal]
    refine SW_seq ?_
    refine SW_seq ?_
    obtain ⟨x8, h9, h⟩ := bind_some h
    refine SW_reg fun K hK => ?_
    simp only [go_sem, ↓reduceIte, Nat.reduceEqDiff, Nat.reduceAdd, reduceCtorEq]
    refine SC.by_ (p_parse_parser_sign_ok n x5.2 a1 _ h9 _ _ _ P0 (by simp only [go_sem, ↓reduceIte, pz2 hpP0, hg0, hg6])) ?_
    simp only [go_sem, ↓reduceIte, Nat.reduceAdd]
    apply hK
    simp only [thenQ_normal]
    refine SW_block ?_
    obtain ⟨y14, hy14, h⟩ := bind_some h
    refine SW_countW [] [] rfl (fun c E' m' => ∃ (v11 : Str), ∃ (v12 : T_parse_parser), ∃ (v13 : T_parse_Node), p_parse_parser_level_l1 rec_p_parse_parser_level n a1 a2 c v11 v12 v13 = some y14 ∧ E' 0 = .ptr P0 0 ∧ E' 1 = .lit (.int .i64 a1) ∧ E' 2 = .lit (.int .i64 a2) ∧ E' 6 = .ptr (0 :: q) 0 ∧ E' 7 = .ptr (8 :: q) 0 ∧ E' 8 = .lit (.string (bs v11)) ∧ m'.blk P0 = some ((T_parse_parser.C v12)) ∧ m'.blk (0 :: q) = some ([.lit (.int .i64 (0 : Int)), .lit (.int .i64 (0 : Int)), .lit (.string (bs [])), .lit (.int .u32 (0 : Int)), .list .self ([].map T_parse_Node.C)]) ∧ m'.blk (8 :: q) = some ((T_parse_Node.C v13)) ∧ m'.gl = m.gl ∧ m.back q m' = (m.set P0 ((T_parse_parser.C v12)))) n ⟨x8, x5.2, x5.1, hy14, ?_⟩ ?_
    · simp only [go_sem, ↓reduceIte, Nat.reduceEqDiff, reduceCtorEq, back_set, back_self, back_out hpP0, pz2 hpP0]
    rintro i10 c15 E16 m17 ⟨v11, v12, v13, hy14, e18⟩ _
    rcases c15 with _ | c15
    · exact absurd hy14 (by rw [p_parse_parser_level_l1]; exact fun e => nomatch e)
    rw [p_parse_parser_level_l1] at hy14
    refine SW_seq ?_
    refine SW_seq ?_
    refine SW_reg fun K hK => ?_
    simp only [go_sem, ↓reduceIte, Nat.reduceAdd, e18]
    apply hK
    simp only [thenQ_normal]
    refine SW_if (decide (v11 ≠ ([] : Str))) (by simp only [go_sem, ↓reduceIte]) (fun c19 => ?_) (fun c19 => ?_)
    · replace hy14 := ite_t c19 hy14
      refine SW_skip ?_
      try simp only [thenQ_normal]
      refine SW_seq ?_
      refine SW_block ?_
      refine SW_seq ?_
      obtain ⟨x20, h22, hy14⟩ := bind_some hy14
      refine SW_reg fun K hK => ?_
      simp only [go_sem, ↓reduceIte, Nat.reduceAdd, reduceCtorEq, c19, e18]
      refine SC.mono (p_parse_parser_node_ok v12 (19 : Int) _ h22 _ _ _ P0 (by simp only [go_sem, e18])) ?_
      rintro _ _ ⟨o_x20, j_x20, s_x20, rfl, rfl⟩
      replace s_x20 : q <:+ o_x20 := List.IsSuffix.trans (by simp only [go_sem]) s_x20
      simp only [go_sem, ↓reduceIte, Nat.reduceEqDiff, Nat.reduceAdd]
      apply hK
      simp only [thenQ_normal]
      refine SW_seq ?_
      obtain ⟨x23, h24, hy14⟩ := bind_some hy14
      refine SW_reg fun K hK => ?_
      simp only [go_sem, ↓reduceIte, Nat.reduceEqDiff, Nat.reduceAdd, reduceCtorEq, e18]
      refine SC.by_ (p_parse_parser_need_ok n x20.2 v11 _ h24 _ _ _ P0 (by simp only [go_sem, ↓reduceIte, pz2 hpP0, e18, hg0])) ?_
      simp only [go_sem, Nat.reduceAdd]
      apply hK
      simp only [thenQ_normal]
      refine SW_seq ?_
      obtain ⟨x25, h26, hy14⟩ := bind_some hy14
      refine SW_drawK (tbl := [0, 0, 0, 0, 8, 0, 60, 126, 1, 381, 1023, 2047]) (ord := [(2, 0), (3, 0), (4, 0), (5, 0), (6, 0), (0, 0), (8, 0), (9, 0), (1, 2), (7, 0), (10, 0), (11, 0)]) 21 rfl (by kernel_rfl) (by kernel_rfl) fun K hK => ?_
      simp only [go_sem, ↓reduceIte, Nat.reduceEqDiff, Nat.reduceAdd, reduceCtorEq, e18]
      refine dcall_of (hrec_p_parse_parser_level x23 (IntKind.i64.wrap (a1 + (1 : Int))) a2 _ h26 _ _ _ P0 (by simp only [go_sem, ↓reduceIte, e18, hg0, hg6])) rfl ?_
      simp only [go_sem, ↓reduceIte, Nat.reduceEqDiff, Nat.reduceAdd, Nat.reduceMul, Nat.reduceLT, Nat.reduceLeDiff, pz2 hpP0, e18]
      apply hK
      simp only [thenQ_normal]
      refine SW_seq ?_
      refine SW_reg fun K hK => ?_
      simp only [go_sem, ↓reduceIte, Nat.reduceEqDiff, Nat.reduceAdd, pz2 hpP0, e18]
      apply hK
      simp only [thenQ_normal]
      refine SW_seq ?_
      refine SW_reg fun K hK => ?_
      simp only [go_sem, ↓reduceIte, Nat.reduceEqDiff, Nat.reduceAdd, e18]
      apply hK
      simp only [thenQ_normal]
      refine SW_if (a1 == (3 : Int)) (by simp only [go_sem, ↓reduceIte]) (fun c27 => ?_) (fun c27 => ?_)
      · replace hy14 := ite_t c27 hy14
        refine SW_exit ?_
        try simp only [thenQ_exit, blockQ_exit, ↓reduceIte, Nat.reduceEqDiff, thenQ_normal]
        obtain rfl := some_eq hy14
        refine SW_seq ?_
        refine SW_reg fun K hK => ?_
        simp only [go_sem, ↓reduceIte, Nat.reduceEqDiff, Nat.reduceAdd, reduceCtorEq, pz2 hpP0, c27, e18]
        apply hK
        simp only [thenQ_normal]
        refine SW_ret ?_
        try simp only []
        obtain rfl := some_eq h
        refine ⟨by first | exact .inl rfl | exact .inl trivial | exact .inr rfl | exact .inr trivial, ?_⟩
        simp only [go_sem, ↓reduceIte, Nat.reduceEqDiff, Nat.reduceAdd, back_set, back_bump, back_tokset, back_out hpP0, s_x20, e18]
      · replace hy14 := ite_f c27 hy14
        refine SW_skip ?_
        try simp only [thenQ_normal, blockQ_normal]
        obtain ⟨x28, h29, hy14⟩ := bind_some hy14
        refine SW_reg fun K hK => ?_
        simp only [go_sem, ↓reduceIte, Nat.reduceEqDiff, Nat.reduceAdd, reduceCtorEq, c27, e18]
        refine SC.by_ (p_parse_parser_sign_ok n x25.2 a1 _ h29 _ _ _ P0 (by simp only [go_sem, ↓reduceIte, pz2 hpP0, e18, hg0, hg6])) ?_
        simp only [go_sem, ↓reduceIte, Nat.reduceAdd]
        apply hK
        simp only [thenQ_normal]
        refine ⟨c15, Nat.lt_succ_self _, x28, x25.2, ({ x20.1 with Text_ := v11, List_ := [v13, x25.1] } : T_parse_Node), hy14, ?_⟩
        simp only [go_sem, ↓reduceIte, Nat.reduceEqDiff, reduceCtorEq, back_set, back_bump, back_tokset, back_out hpP0, pz2 hpP0, s_x20, e18]
    · replace hy14 := ite_f c19 hy14
      refine SW_exit ?_
      try simp only [thenQ_exit, blockQ_exit, ↓reduceIte, thenQ_normal]
      obtain rfl := some_eq hy14
      refine SW_seq ?_
      refine SW_reg fun K hK => ?_
      simp only [go_sem, ↓reduceIte, Nat.reduceEqDiff, Nat.reduceAdd, c19, e18]
      apply hK
      simp only [thenQ_normal]
      refine SW_ret ?_
      try simp only []
      obtain rfl := some_eq h
      refine ⟨by first | exact .inl rfl | exact .inl trivial | exact .inr rfl | exact .inr trivial, ?_⟩
      simp only [go_sem, ↓reduceIte, Nat.reduceEqDiff, Nat.reduceAdd, back_set, e18]

theorem p_parse_parser_operand_b_ok {rec_p_parse_parser_expr : T_parse_parser → Int → Option (T_parse_Node × T_parse_parser)} (hrec_p_parse_parser_expr : p_parse_parser_expr_C rec_p_parse_parser_expr) {rec_p_parse_parser_operand : T_parse_parser → Int → Option (T_parse_Node × T_parse_parser)} (hrec_p_parse_parser_operand : p_parse_parser_operand_C rec_p_parse_parser_operand) {rec_p_parse_parser_list__operand_1 : T_parse_parser → Int → Option ((List T_parse_Node) × T_parse_parser)} (hrec_p_parse_parser_list__operand_1 : p_parse_parser_list__operand_1_C rec_p_parse_parser_list__operand_1) (n : Nat) : p_parse_parser_operand_C (p_parse_parser_operand_b rec_p_parse_parser_expr rec_p_parse_parser_operand rec_p_parse_parser_list__operand_1 n) := by
  rintro a0 a1 r h q m vs P0 ⟨hv, hmP0, hg0, hg6⟩
  refine SC.weak ?_
  rw [hv]
  refine SC.apart hmP0 fun hpP0 => ?_
  have hmsP0 := set_same hmP0
  try simp only [go_sem] at hmP0 hmsP0
  refine SC_of Tryd.func149 rfl (fun xs w => Tryd.call149 xs w) Tryd.ntmps149 (by kernel_rfl) (congrArg Array.toList Tryd.results149) V.weak (fun _ _ _ => V.weak_ok) ?_
  unfold p_parse_parser_operand_b at h
  refine SW_seq ?_
  refine SW_reg fun K hK => ?_
  simp only [go_sem, ↓reduceIte, Nat.reduceEqDiff, Nat.reduceAdd]
  apply hK
  simp only [thenQ_normal]
  refine SW_seq ?_
  obtain ⟨x4, h5, h⟩ := bind_some h
  refine SW_reg fun K hK => ?_
  simp only [go_sem, ↓reduceIte, Nat.reduceEqDiff, Nat.reduceAdd, reduceCtorEq]
  refine SC.by_ (p_parse_parser_deep_ok a0 a1 _ h5 _ _ _ P0 (by simp only [go_sem, ↓reduceIte, pz2 hpP0, hmP0])) ?_
  simp only [go_sem, Nat.reduceAdd]
  apply hK
  simp only [thenQ_normal]
  refine SW_seq ?_
  refine SW_seq ?_
  obtain ⟨x6, h7, h⟩ := bind_some h
  refine SW_reg fun K hK => ?_
  simp only [go_sem, ↓reduceIte, Nat.reduceEqDiff, Nat.reduceAdd, reduceCtorEq, pz2 hpP0]
  refine SC.by_ (p_parse_parser_take_ok n x4 ([40] : Str) _ h7 _ _ _ P0 (by simp only [go_sem, ↓reduceIte, hg0])) ?_
  simp only [go_sem, Nat.reduceAdd]
  apply hK
  simp only [thenQ_normal]
  refine SW_if x6.1 (by simp only [go_sem, ↓reduceIte]) (fun c8 => ?_) (fun c8 => ?_)
  · replace h := ite_t c8 h
    refine SW_seq ?_
    obtain ⟨x9, h11, h⟩ := bind_some h
    refine SW_reg fun K hK => ?_
    simp only [go_sem, ↓reduceIte, Nat.reduceEqDiff, Nat.reduceAdd, reduceCtorEq, pz2 hpP0, c8]
    refine SC.by_ (hrec_p_parse_parser_expr x6.2 (IntKind.i64.wrap (a1 + (1 : Int))) _ h11 _ _ _ P0 (by simp only [go_sem, ↓reduceIte, hg0, hg6])) ?_
    simp only [go_sem, ↓reduceIte, Nat.reduceEqDiff, Nat.reduceAdd]
    apply hK
    simp only [thenQ_normal]
    refine SW_seq ?_
    obtain ⟨x12, h13, h⟩ := bind_some h
    refine SW_reg fun K hK => ?_
    simp only [go_sem, ↓reduceIte, Nat.reduceEqDiff, Nat.reduceAdd, reduceCtorEq, pz2 hpP0]
    refine SC.by_ (p_parse_parser_need_ok n x9.2 ([41] : Str) _ h13 _ _ _ P0 (by simp only [go_sem, ↓reduceIte, pz2 hpP0, hg0])) ?_
    simp only [go_sem, Nat.reduceAdd]
    apply hK
    simp only [thenQ_normal]
    refine SW_seq ?_
    refine SW_reg fun K hK => ?_
    simp only [go_sem, ↓reduceIte, Nat.reduceEqDiff, Nat.reduceAdd, pz2 hpP0]
    apply hK
    simp only [thenQ_normal]
    refine SW_ret ?_
    try simp only [thenQ_ret]
    obtain rfl := some_eq h
    refine ⟨by first | exact .inl rfl | exact .inl trivial | exact .inr rfl | exact .inr trivial, ?_⟩
    simp only [go_sem, ↓reduceIte, Nat.reduceEqDiff, Nat.reduceAdd, back_set, back_self, back_out hpP0]
  · replace h := ite_f c8 h
    refine SW_skip ?_
    try simp only [thenQ_normal]
    refine SW_seq ?_
    obtain ⟨x14, h16, h⟩ := bind_some h
    refine SW_reg fun K hK => ?_
    simp only [go_sem, ↓reduceIte, Nat.reduceEqDiff, Nat.reduceAdd, reduceCtorEq, pz2 hpP0, c8]
    refine SC.mono (p_parse_parser_node_ok x6.2 (15 : Int) _ h16 _ _ _ P0 (by simp only [go_sem, ↓reduceIte])) ?_
    rintro _ _ ⟨o_x14, j_x14, s_x14, rfl, rfl⟩
    replace s_x14 : q <:+ o_x14 := List.IsSuffix.trans (by simp only [go_sem]) s_x14
    simp only [go_sem, ↓reduceIte, Nat.reduceEqDiff, Nat.reduceAdd]
    apply hK
    simp only [thenQ_normal]
    refine SW_seq ?_
    refine SW_seq ?_
    refine SW_reg fun K hK => ?_
    simp only [go_sem, ↓reduceIte, Nat.reduceAdd, Nat.reduceLeDiff]
    apply hK
    simp only [thenQ_normal]
    refine SW_block ?_
    obtain ⟨y22, hy22, h⟩ := bind_some h
    refine SW_countW [] [] rfl (fun c E' m' => ∃ (v18 : Int), ∃ (v19 : T_parse_parser), ∃ (v20 : T_parse_Node), ∃ (v21 : T_parse_Node), p_parse_parser_operand_l1 rec_p_parse_parser_operand n a1 c v18 v19 v20 v21 = some y22 ∧ E' 2 = .ptr (0 :: q) 0 ∧ E' 3 = .ptr (1 :: q) 0 ∧ E' 4 = .ptr (2 :: q) 0 ∧ E' 6 = .ptr (10 :: q) 0 ∧ E' 23 = .agg ((cA cS p_parse_parser_operand_k1)) ∧ E' 24 = .lit (.int .i64 v18) ∧ m'.blk P0 = some ((T_parse_parser.C v19)) ∧ m'.blk (10 :: q) = some ([.lit (.int .i64 v20.Kind_), .lit (.int .i64 v20.At_), .lit (.string (bs v20.Text_)), .lit (.int .u32 v20.Num_), .list .self (v20.List_.map T_parse_Node.C)]) ∧ m'.blk (0 :: q) = some ([.ptr P0 0]) ∧ m'.blk (1 :: q) = some ([.lit (.int .i64 a1)]) ∧ m'.blk (2 :: q) = some ([.lit (.int .i64 v21.Kind_), .lit (.int .i64 v21.At_), .lit (.string (bs v21.Text_)), .lit (.int .u32 v21.Num_), .list .self (v21.List_.map T_parse_Node.C)]) ∧ m'.gl = m.gl ∧ m.back q m' = (m.set P0 ((T_parse_parser.C v19)))) n ⟨(0 : Int), x14.2, x14.1, (T_parse_Node.mk (0 : Int) (0 : Int) [] (0 : Int) []), hy22, ?_⟩ ?_
    · (simp only [go_sem, ↓reduceIte, Nat.reduceEqDiff, reduceCtorEq, back_set, back_bump, back_tokset, back_self, back_out hpP0, pz2 hpP0, s_x14]) <;> (try and_intros) <;> rfl
    rintro i17 c23 E24 m25 ⟨v18, v19, v20, v21, hy22, e26⟩ _
    rcases c23 with _ | c23
    · exact absurd hy22 (by rw [p_parse_parser_operand_l1]; exact fun e => nomatch e)
    rw [p_parse_parser_operand_l1] at hy22
    refine SW_seq ?_
    refine SW_reg fun K hK => ?_
    simp only [go_sem, e26]
    apply hK
    simp only [thenQ_normal]
    refine SW_seq ?_
    refine SW_if (decide (v18 < (2 : Int))) (by simp only [go_sem, ↓reduceIte]) (fun c27 => ?_) (fun c27 => ?_)
    · replace hy22 := ite_t c27 hy22
      refine SW_skip ?_
      try simp only [thenQ_normal]
      refine SW_seq ?_
      refine SW_block ?_
      refine SW_seq ?_
      obtain ⟨x28, h32, hy22⟩ := bind_some hy22
      obtain ⟨f29, f30, f31⟩ := idxL_some h32
      have f33 : v18 < (2 : Int) := f30
      obtain ⟨w34, d35⟩ := cA_drop (f := cS) (s := 1) (fun _ _ => rfl) f31
      simp only [go_sem] at d35
      have d36 : List.drop (v18.toNat) [V.lit (.string (bs ([126] : Str))), V.lit (.string (bs ([45] : Str)))] = _ := d35
      refine SW_reg fun K hK => ?_
      simp only [go_sem, ↓reduceIte, Nat.reduceEqDiff, Nat.reduceAdd, f29, f33, d35, e26]
      apply hK
      simp only [thenQ_normal]
      refine SW_seq ?_
      obtain ⟨x37, h38, hy22⟩ := bind_some hy22
      refine SW_reg fun K hK => ?_
      simp only [go_sem, ↓reduceIte, Nat.reduceEqDiff, Nat.reduceAdd, e26]
      refine SC.by_ (p_parse_parser_take_ok n v19 x28 _ h38 _ _ _ P0 (by simp only [go_sem, e26, hg0])) ?_
      simp only [go_sem, Nat.reduceAdd]
      apply hK
      simp only [thenQ_normal]
      refine SW_if x37.1 (by simp only [go_sem, ↓reduceIte]) (fun c39 => ?_) (fun c39 => ?_)
      · replace hy22 := ite_t c39 hy22
        refine SW_seq ?_
        obtain ⟨x40, h41, hy22⟩ := bind_some hy22
        refine SW_reg fun K hK => ?_
        simp only [go_sem, ↓reduceIte, Nat.reduceEqDiff, Nat.reduceAdd, pz2 hpP0, c39, e26]
        refine SC.by_ (hrec_p_parse_parser_operand x37.2 (IntKind.i64.wrap (a1 + (1 : Int))) _ h41 _ _ _ P0 (by simp only [go_sem, ↓reduceIte, e26, hg0, hg6])) ?_
        simp only [go_sem, ↓reduceIte, Nat.reduceEqDiff, Nat.reduceAdd, Nat.reduceLT, Nat.reduceLeDiff, pz2 hpP0, e26]
        apply hK
        simp only [thenQ_normal]
        refine SW_seq ?_
        refine SW_reg fun K hK => ?_
        simp only [go_sem, ↓reduceIte, Nat.reduceEqDiff, Nat.reduceAdd, pz2 hpP0, e26]
        apply hK
        simp only [thenQ_normal]
        refine SW_ret ?_
        try simp only [thenQ_ret, blockQ_ret]
        obtain rfl := some_eq hy22
        simp only [Sum.elim_inr] at h
        obtain rfl := some_eq h
        refine ⟨by first | exact .inl rfl | exact .inl trivial | exact .inr rfl | exact .inr trivial, ?_⟩
        simp only [go_sem, ↓reduceIte, Nat.reduceEqDiff, Nat.reduceAdd, back_set, back_bump, back_out hpP0, e26]
      · replace hy22 := ite_f c39 hy22
        refine SW_skip ?_
        try simp only [thenQ_normal, blockQ_normal]
        refine SW_reg fun K hK => ?_
        simp only [go_sem, ↓reduceIte, Nat.reduceEqDiff, Nat.reduceAdd, c39, e26]
        apply hK
        simp only [thenQ_normal]
        refine ⟨c23, Nat.lt_succ_self _, (IntKind.i64.wrap (v18 + (1 : Int))), x37.2, v20, v21, hy22, ?_⟩
        (simp only [go_sem, ↓reduceIte, Nat.reduceEqDiff, back_out hpP0, pz2 hpP0, e26]) <;> (try and_intros) <;> rfl
    · replace hy22 := ite_f c27 hy22
      refine SW_exit ?_
      try simp only [thenQ_exit, blockQ_exit, ↓reduceIte, thenQ_normal]
      obtain rfl := some_eq hy22
      simp only [Sum.elim_inl] at h
      refine SW_seq ?_
      refine SW_seq ?_
      obtain ⟨y42, hy42, h⟩ := bind_some h
      refine SW_joinK 26 [] [] rfl (fun E' m' => E' 2 = .ptr (0 :: q) 0 ∧ E' 3 = .ptr (1 :: q) 0 ∧ E' 4 = .ptr (2 :: q) 0 ∧ E' 6 = .ptr (10 :: q) 0 ∧ E' 51 = .lit (.bool y42) ∧ m'.blk P0 = some ((T_parse_parser.C v19)) ∧ m'.blk (10 :: q) = some ([.lit (.int .i64 v20.Kind_), .lit (.int .i64 v20.At_), .lit (.string (bs v20.Text_)), .lit (.int .u32 v20.Num_), .list .self (v20.List_.map T_parse_Node.C)]) ∧ m'.blk (0 :: q) = some ([.ptr P0 0]) ∧ m'.blk (1 :: q) = some ([.lit (.int .i64 a1)]) ∧ m'.blk (2 :: q) = some ([.lit (.int .i64 v21.Kind_), .lit (.int .i64 v21.At_), .lit (.string (bs v21.Text_)), .lit (.int .u32 v21.Num_), .list .self (v21.List_.map T_parse_Node.C)]) ∧ m'.gl = m.gl ∧ m.back q m' = (m.set P0 ((T_parse_parser.C v19)))) ?_ ?_
      · rcases bool_or (v19.e_ == (0 : Int)) with c43 | c43
        · replace hy42 := ite_t c43 hy42
          obtain ⟨x44, h45, hy42⟩ := bind_some hy42
          refine SW_reg fun K hK => ?_
          simp only [go_sem, ↓reduceIte, Nat.reduceEqDiff, Nat.reduceAdd, c27, c43, e26]
          refine SC.by_ (p_parse_parser_token_ok v19 _ h45 _ _ _ P0 (by simp only [go_sem, e26])) ?_
          simp only [go_sem, ↓reduceIte, Nat.reduceEqDiff, Nat.reduceAdd]
          apply hK
          simp only [thenQ_normal]
          obtain rfl := some_eq hy42
          refine ⟨by decide, ?_⟩
          (simp only [go_sem, ↓reduceIte, Nat.reduceEqDiff, e26]) <;> (try and_intros) <;> rfl
        · replace hy42 := ite_f c43 hy42
          refine SW_reg fun K hK => ?_
          simp only [go_sem, ↓reduceIte, Nat.reduceEqDiff, Nat.reduceAdd, c27, c43, e26]
          apply hK
          simp only [thenQ_normal]
          obtain rfl := some_eq hy42
          refine ⟨by decide, ?_⟩
          (simp only [go_sem, ↓reduceIte, Nat.reduceEqDiff, e26]) <;> (try and_intros) <;> rfl
      · intro E46 m47 e48 _
        simp only [thenQ_normal]
        refine SW_if y42 (by simp only [go_sem, e48]) (fun c49 => ?_) (fun c49 => ?_)
        · replace h := ite_t c49 h
          refine SW_seq ?_
          obtain ⟨x50, h51, h⟩ := bind_some h
          refine SW_reg fun K hK => ?_
          simp only [go_sem, ↓reduceIte, Nat.reduceAdd, e48]
          refine SC.by_ (p_parse_parser_number_ok v19 _ h51 _ _ _ P0 (by simp only [go_sem, e48])) ?_
          simp only [go_sem, ↓reduceIte, Nat.reduceEqDiff, Nat.reduceAdd, Nat.reduceLeDiff, pz2 hpP0, e48]
          apply hK
          simp only [thenQ_normal]
          refine SW_seq ?_
          refine SW_reg fun K hK => ?_
          simp only [go_sem, ↓reduceIte, Nat.reduceEqDiff, Nat.reduceAdd, pz2 hpP0, e48]
          apply hK
          simp only [thenQ_normal]
          refine SW_ret ?_
          try simp only [thenQ_ret]
          obtain rfl := some_eq h
          refine ⟨by first | exact .inl rfl | exact .inl trivial | exact .inr rfl | exact .inr trivial, ?_⟩
          simp only [go_sem, ↓reduceIte, Nat.reduceEqDiff, Nat.reduceAdd, back_set, back_out hpP0, e48]
        · replace h := ite_f c49 h
          refine SW_skip ?_
          try simp only [thenQ_normal]
          refine SW_seq ?_
          obtain ⟨x52, h53, h⟩ := bind_some h
          refine SW_reg fun K hK => ?_
          simp only [go_sem, ↓reduceIte, Nat.reduceAdd, e48]
          refine SC.by_ (p_parse_parser_name_ok n v19 _ h53 _ _ _ P0 (by simp only [go_sem, e48, hg0])) ?_
          simp only [go_sem, ↓reduceIte, Nat.reduceEqDiff, Nat.reduceAdd, Nat.reduceLeDiff, pz2 hpP0, e48]
          apply hK
          simp only [thenQ_normal]
          refine SW_seq ?_
          obtain ⟨y54, hy54, h⟩ := bind_some h
          refine SW_joinK 47 [] [((10 :: q), 4)] rfl (fun E' m' => E' 4 = .ptr (2 :: q) 0 ∧ E' 6 = .ptr (10 :: q) 0 ∧ m'.blk P0 = some ((T_parse_parser.C y54.1)) ∧ m'.blk (10 :: q) = some ((T_parse_Node.C y54.2)) ∧ m'.blk (2 :: q) = some ([.lit (.int .i64 v21.Kind_), .lit (.int .i64 v21.At_), .lit (.string (bs v21.Text_)), .lit (.int .u32 v21.Num_), .list .self (v21.List_.map T_parse_Node.C)]) ∧ m'.gl = m.gl ∧ m.back q m' = (m.set P0 ((T_parse_parser.C y54.1)))) ?_ ?_
          · refine SW_block ?_
            refine SW_seq ?_
            obtain ⟨x55, h56, hy54⟩ := bind_some hy54
            refine SW_reg fun K hK => ?_
            simp only [go_sem, ↓reduceIte, Nat.reduceEqDiff, Nat.reduceAdd, reduceCtorEq, pz2 hpP0, e48]
            refine SC.by_ (p_parse_parser_is_ok n x52.2 ([40] : Str) _ h56 _ _ _ P0 (by simp only [go_sem, ↓reduceIte, pz2 hpP0, e48, hg0])) ?_
            simp only [go_sem, ↓reduceIte, Nat.reduceAdd]
            apply hK
            simp only [thenQ_normal]
            refine SW_if x55 (by simp only [go_sem, ↓reduceIte]) (fun c57 => ?_) (fun c57 => ?_)
            · replace hy54 := ite_t c57 hy54
              obtain ⟨x58, h59, hy54⟩ := bind_some hy54
              refine SW_reg fun K hK => ?_
              simp only [go_sem, ↓reduceIte, Nat.reduceEqDiff, Nat.reduceAdd, reduceCtorEq, pz2 hpP0, c57, e48]
              refine SC.by_ (hrec_p_parse_parser_list__operand_1 x52.2 a1 _ h59 _ _ _ P0 (0 :: q) (1 :: q) (by simp only [go_sem, ↓reduceIte, Nat.reduceEqDiff, reduceCtorEq, pz2 hpP0, e48, hg0, hg6])) ?_
              simp only [go_sem, ↓reduceIte, Nat.reduceEqDiff, Nat.reduceAdd, Nat.reduceLeDiff, pz2 hpP0, e48]
              apply hK
              simp only [thenQ_normal, blockQ_normal]
              obtain rfl := some_eq hy54
              refine ⟨by decide, ?_⟩
              (simp only [go_sem, ↓reduceIte, Nat.reduceEqDiff, back_set, back_out hpP0, pz2 hpP0, e48]) <;> (try and_intros) <;> rfl
            · replace hy54 := ite_f c57 hy54
              refine SW_seq ?_
              obtain ⟨x60, h61, hy54⟩ := bind_some hy54
              refine SW_reg fun K hK => ?_
              simp only [go_sem, ↓reduceIte, Nat.reduceEqDiff, Nat.reduceAdd, reduceCtorEq, pz2 hpP0, c57, e48]
              refine SC.by_ (p_parse_parser_take_ok n x52.2 ([91] : Str) _ h61 _ _ _ P0 (by simp only [go_sem, ↓reduceIte, pz2 hpP0, e48, hg0])) ?_
              simp only [go_sem, ↓reduceIte, Nat.reduceAdd]
              apply hK
              simp only [thenQ_normal]
              refine SW_if x60.1 (by simp only [go_sem, ↓reduceIte]) (fun c62 => ?_) (fun c62 => ?_)
              · replace hy54 := ite_t c62 hy54
                refine SW_seq ?_
                obtain ⟨x63, h64, hy54⟩ := bind_some hy54
                refine SW_reg fun K hK => ?_
                simp only [go_sem, ↓reduceIte, Nat.reduceEqDiff, Nat.reduceAdd, reduceCtorEq, pz2 hpP0, c62, e48]
                refine SC.by_ (hrec_p_parse_parser_expr x60.2 (IntKind.i64.wrap (a1 + (1 : Int))) _ h64 _ _ _ P0 (by simp only [go_sem, ↓reduceIte, e48, hg0, hg6])) ?_
                simp only [go_sem, ↓reduceIte, Nat.reduceEqDiff, Nat.reduceAdd, Nat.reduceLT, Nat.reduceLeDiff, pz2 hpP0, e48]
                apply hK
                simp only [thenQ_normal]
                obtain ⟨x65, h66, hy54⟩ := bind_some hy54
                refine SW_reg fun K hK => ?_
                simp only [go_sem, ↓reduceIte, Nat.reduceEqDiff, Nat.reduceAdd, reduceCtorEq, pz2 hpP0, e48]
                refine SC.by_ (p_parse_parser_need_ok n x63.2 ([93] : Str) _ h66 _ _ _ P0 (by simp only [go_sem, ↓reduceIte, pz2 hpP0, e48, hg0])) ?_
                simp only [go_sem, Nat.reduceAdd]
                apply hK
                simp only [thenQ_normal, blockQ_normal]
                obtain rfl := some_eq hy54
                refine ⟨by decide, ?_⟩
                (simp only [go_sem, ↓reduceIte, Nat.reduceEqDiff, back_set, back_bump, back_out hpP0, pz2 hpP0, e48]) <;> (try and_intros) <;> rfl
              · replace hy54 := ite_f c62 hy54
                refine SW_skip ?_
                try simp only [thenQ_normal, blockQ_normal]
                obtain rfl := some_eq hy54
                refine ⟨by decide, ?_⟩
                (simp only [go_sem, ↓reduceIte, Nat.reduceEqDiff, back_set, back_out hpP0, pz2 hpP0, c62, e48]) <;> (try and_intros) <;> rfl
          · intro E67 m68 e69 _
            simp only [thenQ_normal]
            refine SW_seq ?_
            refine SW_reg fun K hK => ?_
            simp only [go_sem, ↓reduceIte, Nat.reduceEqDiff, Nat.reduceAdd, e69]
            apply hK
            simp only [thenQ_normal]
            refine SW_ret ?_
            try simp only []
            obtain rfl := some_eq h
            refine ⟨by first | exact .inl rfl | exact .inl trivial | exact .inr rfl | exact .inr trivial, ?_⟩
            simp only [go_sem, ↓reduceIte, Nat.reduceEqDiff, Nat.reduceAdd, back_set, e69]

theorem p_parse_parser_operand_1_b_ok {rec_p_parse_parser_expr : T_parse_parser → Int → Option (T_parse_Node × T_parse_parser)} (hrec_p_parse_parser_expr : p_parse_parser_expr_C rec_p_parse_parser_expr) (n : Nat) : p_parse_parser_operand_1_C (p_parse_parser_operand_1_b rec_p_parse_parser_expr n) := by
  rintro a0 a1 r h q m vs P0 P1 P2 ⟨hv, hmP0, hmP1, hmP2, hn0_1, hn0_2, hn1_0, hn1_2, hn2_0, hn2_1, hg0, hg6⟩
  refine SC.weak ?_
  rw [hv]
  refine SC.apart hmP0 fun hpP0 => ?_
  refine SC.apart hmP1 fun hpP1 => ?_
  refine SC.apart hmP2 fun hpP2 => ?_
  have hmsP0 := set_same hmP0
  try simp only [go_sem] at hmP0 hmsP0
  skip
  try simp only [go_sem, ↓reduceIte, Nat.reduceEqDiff, Nat.reduceAdd, Nat.reduceMul, Nat.reduceLT, Nat.reduceLeDiff, reduceCtorEq, Int.reduceLE, Int.reduceLT, Int.reduceToNat, UInt8.reduceToNat] at hmP2
  refine SC_of Tryd.func164 rfl (fun xs w => Tryd.call164 xs w) Tryd.ntmps164 (by kernel_rfl) (congrArg Array.toList Tryd.results164) V.weak (fun _ _ _ => V.weak_ok) ?_
  unfold p_parse_parser_operand_1_b at h
  refine SW_seq ?_
  refine SW_reg fun K hK => ?_
  simp only [go_sem]
  apply hK
  simp only [thenQ_normal]
  refine SW_seq ?_
  obtain ⟨x2, h3, h⟩ := bind_some h
  refine SW_reg fun K hK => ?_
  simp only [go_sem, ↓reduceIte, Nat.reduceEqDiff, Nat.reduceAdd, reduceCtorEq, pz1 hpP1, pz1 hpP2, hmP1, hmP2]
  refine SC.by_ (hrec_p_parse_parser_expr a0 (IntKind.i64.wrap (a1 + (1 : Int))) _ h3 _ _ _ P0 (by simp only [go_sem, ↓reduceIte, pz1 hpP0, hmP0, hg0, hg6])) ?_
  simp only [go_sem, ↓reduceIte, Nat.reduceEqDiff, Nat.reduceAdd, pz1 hpP0]
  apply hK
  simp only [thenQ_normal]
  refine SW_ret ?_
  try simp only []
  obtain rfl := some_eq h
  refine ⟨by first | exact .inl rfl | exact .inl trivial | exact .inr rfl | exact .inr trivial, ?_⟩
  simp only [go_sem, ↓reduceIte, Nat.reduceEqDiff, Nat.reduceAdd, back_set, back_self, back_out hpP0]

theorem p_parse_parser_list__operand_1_grp_ok : ∀ n, p_parse_parser_list__operand_1_C (p_parse_parser_list__operand_1 n) ∧ p_parse_parser_expr_C (p_parse_parser_expr n) ∧ p_parse_parser_level_C (p_parse_parser_level n) ∧ p_parse_parser_operand_C (p_parse_parser_operand n) ∧ p_parse_parser_operand_1_C (p_parse_parser_operand_1 n)
  | 0 => ⟨fun _ _ _ h => none_some_ h, fun _ _ _ h => none_some_ h, fun _ _ _ _ h => none_some_ h, fun _ _ _ h => none_some_ h, fun _ _ _ h => none_some_ h⟩
  | n + 1 =>
    have ih := p_parse_parser_list__operand_1_grp_ok n
    ⟨p_parse_parser_list__operand_1_b_ok ih.2.2.2.2 n, p_parse_parser_expr_b_ok ih.2.2.1 n, p_parse_parser_level_b_ok ih.2.2.2.1 ih.2.2.1 n, p_parse_parser_operand_b_ok ih.2.1 ih.2.2.2.1 ih.1 n, p_parse_parser_operand_1_b_ok ih.2.1 n⟩
theorem p_parse_parser_expr_ok (n : Nat) : p_parse_parser_expr_C (p_parse_parser_expr n) := (p_parse_parser_list__operand_1_grp_ok n).2.1
def p_parse_parser_named_C (f : T_parse_parser → T_parse_Node → Int → Option (T_parse_Node × T_parse_parser)) : Prop := ∀ (a0 : T_parse_parser) (a1 : T_parse_Node) (a2 : Int) (r : (T_parse_Node × T_parse_parser)), f a0 a1 a2 = some r → ∀ (q : Pa) (m : M) (vs : List V) (P0 : Pa), vs.map V.weak1 = [.ptr P0 0, .agg ((T_parse_Node.C a1)), .lit (.int .i64 a2)] ∧ m.blk P0 = some ((T_parse_parser.C a0)) ∧ m.gl 0 = .eptr [(cA cS g_parse_words)] 0 0 ∧ m.gl 6 = .eptr [(cA (cA cS) g_parse_levels)] 0 0 → SC Tryd.prog 105 vs q m (fun v m' => v = .agg ((T_parse_Node.C r.1)) ∧ m' = (m.set P0 ((T_parse_parser.C r.2))))

theorem p_parse_parser_named_ok (n : Nat) : p_parse_parser_named_C (p_parse_parser_named n) := by
  rintro a0 a1 a2 r h q m vs P0 ⟨hv, hmP0, hg0, hg6⟩
  refine SC.weak ?_
  rw [hv]
  refine SC.apart hmP0 fun hpP0 => ?_
  have hmsP0 := set_same hmP0
  try simp only [go_sem] at hmP0 hmsP0
  refine SC_of Tryd.func105 rfl (fun xs w => Tryd.call105 xs w) Tryd.ntmps105 (by kernel_rfl) (congrArg Array.toList Tryd.results105) V.weak (fun _ _ _ => V.weak_ok) ?_
  unfold p_parse_parser_named at h
  refine SW_seq ?_
  refine SW_reg fun K hK => ?_
  simp only [go_sem, Nat.reduceAdd]
  apply hK
  simp only [thenQ_normal]
  refine SW_seq ?_
  obtain ⟨x3, h4, h⟩ := bind_some h
  refine SW_reg fun K hK => ?_
  simp only [go_sem, ↓reduceIte, Nat.reduceAdd, reduceCtorEq]
  refine SC.by_ (p_parse_parser_name_ok n a0 _ h4 _ _ _ P0 (by simp only [go_sem, ↓reduceIte, pz1 hpP0, hmP0, hg0])) ?_
  simp only [go_sem, ↓reduceIte, Nat.reduceEqDiff, Nat.reduceAdd, Nat.reduceLeDiff, pz1 hpP0]
  apply hK
  simp only [thenQ_normal]
  refine SW_seq ?_
  obtain ⟨x5, h6, h⟩ := bind_some h
  refine SW_reg fun K hK => ?_
  simp only [go_sem, ↓reduceIte, Nat.reduceAdd, reduceCtorEq]
  refine SC.by_ (p_parse_parser_need_ok n x3.2 ([61] : Str) _ h6 _ _ _ P0 (by simp only [go_sem, ↓reduceIte, pz1 hpP0, hg0])) ?_
  simp only [go_sem, Nat.reduceAdd]
  apply hK
  simp only [thenQ_normal]
  refine SW_seq ?_
  obtain ⟨x7, h8, h⟩ := bind_some h
  refine SW_reg fun K hK => ?_
  simp only [go_sem, ↓reduceIte, Nat.reduceEqDiff, Nat.reduceAdd, reduceCtorEq]
  refine SC.by_ (p_parse_parser_expr_ok n x5 a2 _ h8 _ _ _ P0 (by simp only [go_sem, ↓reduceIte, hg0, hg6])) ?_
  simp only [go_sem, ↓reduceIte, Nat.reduceEqDiff, Nat.reduceAdd, Nat.reduceLT, Nat.reduceLeDiff, pz1 hpP0]
  apply hK
  simp only [thenQ_normal]
  refine SW_seq ?_
  obtain ⟨x9, h10, h⟩ := bind_some h
  refine SW_reg fun K hK => ?_
  simp only [go_sem, ↓reduceIte, Nat.reduceAdd, reduceCtorEq]
  refine SC.by_ (p_parse_parser_need_ok n x7.2 ([59] : Str) _ h10 _ _ _ P0 (by simp only [go_sem, ↓reduceIte, pz1 hpP0, hg0])) ?_
  simp only [go_sem, Nat.reduceAdd]
  apply hK
  simp only [thenQ_normal]
  refine SW_seq ?_
  refine SW_reg fun K hK => ?_
  simp only [go_sem, ↓reduceIte, Nat.reduceEqDiff, Nat.reduceAdd, pz1 hpP0]
  apply hK
  simp only [thenQ_normal]
  refine SW_ret ?_
  try simp only []
  obtain rfl := some_eq h
  refine ⟨by first | exact .inl rfl | exact .inl trivial | exact .inr rfl | exact .inr trivial, ?_⟩
  simp only [go_sem, ↓reduceIte, Nat.reduceEqDiff, Nat.reduceAdd, back_set, back_bump, back_self, back_out hpP0]

def p_parse_parser_plain_1_C (f : T_parse_parser → Int → Option (T_parse_Node × T_parse_parser)) : Prop := ∀ (a0 : T_parse_parser) (a1 : Int) (r : (T_parse_Node × T_parse_parser)), f a0 a1 = some r → ∀ (q : Pa) (m : M) (vs : List V) (P0 : Pa) (P1 : Pa) (P2 : Pa), vs.map V.weak1 = [.ptr P1 0, .ptr P2 0] ∧ m.blk P0 = some ((T_parse_parser.C a0)) ∧ m.blk P1 = some ([.ptr P0 0]) ∧ m.blk P2 = some ([.lit (.int .i64 a1)]) ∧ (P0 = P1) = False ∧ (P0 = P2) = False ∧ (P1 = P0) = False ∧ (P1 = P2) = False ∧ (P2 = P0) = False ∧ (P2 = P1) = False ∧ m.gl 0 = .eptr [(cA cS g_parse_words)] 0 0 ∧ m.gl 6 = .eptr [(cA (cA cS) g_parse_levels)] 0 0 → SC Tryd.prog 128 vs q m (fun v m' => v = .agg ((T_parse_Node.C r.1)) ∧ m' = (m.set P0 ((T_parse_parser.C r.2))))

theorem p_parse_parser_plain_1_ok (n : Nat) : p_parse_parser_plain_1_C (p_parse_parser_plain_1 n) := by
  rintro a0 a1 r h q m vs P0 P1 P2 ⟨hv, hmP0, hmP1, hmP2, hn0_1, hn0_2, hn1_0, hn1_2, hn2_0, hn2_1, hg0, hg6⟩
  refine SC.weak ?_
  rw [hv]
  refine SC.apart hmP0 fun hpP0 => ?_
  refine SC.apart hmP1 fun hpP1 => ?_
  refine SC.apart hmP2 fun hpP2 => ?_
  have hmsP0 := set_same hmP0
  try simp only [go_sem] at hmP0 hmsP0
  skip
  try simp only [go_sem, ↓reduceIte, Nat.reduceEqDiff, Nat.reduceAdd, Nat.reduceMul, Nat.reduceLT, Nat.reduceLeDiff, reduceCtorEq, Int.reduceLE, Int.reduceLT, Int.reduceToNat, UInt8.reduceToNat] at hmP2
  refine SC_of Tryd.func128 rfl (fun xs w => Tryd.call128 xs w) Tryd.ntmps128 (by kernel_rfl) (congrArg Array.toList Tryd.results128) V.weak (fun _ _ _ => V.weak_ok) ?_
  unfold p_parse_parser_plain_1 at h
  refine SW_seq ?_
  refine SW_reg fun K hK => ?_
  simp only [go_sem]
  apply hK
  simp only [thenQ_normal]
  refine SW_seq ?_
  obtain ⟨x2, h3, h⟩ := bind_some h
  refine SW_reg fun K hK => ?_
  simp only [go_sem, ↓reduceIte, Nat.reduceEqDiff, Nat.reduceAdd, reduceCtorEq, pz1 hpP1, pz1 hpP2, hmP1, hmP2]
  refine SC.by_ (p_parse_parser_expr_ok n a0 (IntKind.i64.wrap (a1 + (2 : Int))) _ h3 _ _ _ P0 (by simp only [go_sem, ↓reduceIte, pz1 hpP0, hmP0, hg0, hg6])) ?_
  simp only [go_sem, ↓reduceIte, Nat.reduceEqDiff, Nat.reduceAdd, pz1 hpP0]
  apply hK
  simp only [thenQ_normal]
  refine SW_ret ?_
  try simp only []
  obtain rfl := some_eq h
  refine ⟨by first | exact .inl rfl | exact .inl trivial | exact .inr rfl | exact .inr trivial, ?_⟩
  simp only [go_sem, ↓reduceIte, Nat.reduceEqDiff, Nat.reduceAdd, back_set, back_self, back_out hpP0]

def p_parse_parser_list__plain_1_C (f : T_parse_parser → Int → Option ((List T_parse_Node) × T_parse_parser)) : Prop := ∀ (a0 : T_parse_parser) (a1 : Int) (r : ((List T_parse_Node) × T_parse_parser)), f a0 a1 = some r → ∀ (q : Pa) (m : M) (vs : List V) (P0 : Pa) (P1 : Pa) (P2 : Pa), vs.map V.weak1 = [.ptr P0 0, .fn (.func 128) [] [.ptr P1 0, .ptr P2 0]] ∧ m.blk P0 = some ((T_parse_parser.C a0)) ∧ m.blk P1 = some ([.ptr P0 0]) ∧ m.blk P2 = some ([.lit (.int .i64 a1)]) ∧ (P0 = P1) = False ∧ (P0 = P2) = False ∧ (P1 = P0) = False ∧ (P1 = P2) = False ∧ (P2 = P0) = False ∧ (P2 = P1) = False ∧ m.gl 0 = .eptr [(cA cS g_parse_words)] 0 0 ∧ m.gl 6 = .eptr [(cA (cA cS) g_parse_levels)] 0 0 → SC Tryd.prog 50 vs q m (fun v m' => v = .list .none (r.1.map T_parse_Node.C) ∧ m' = (m.set P0 ((T_parse_parser.C r.2))))

theorem p_parse_parser_list__plain_1_ok (n : Nat) : p_parse_parser_list__plain_1_C (p_parse_parser_list__plain_1 n) := by
  rintro a0 a1 r h q m vs P0 P1 P2 ⟨hv, hmP0, hmP1, hmP2, hn0_1, hn0_2, hn1_0, hn1_2, hn2_0, hn2_1, hg0, hg6⟩
  refine SC.weak ?_
  rw [hv]
  refine SC.apart hmP0 fun hpP0 => ?_
  refine SC.apart hmP1 fun hpP1 => ?_
  refine SC.apart hmP2 fun hpP2 => ?_
  have hmsP0 := set_same hmP0
  try simp only [go_sem] at hmP0 hmsP0
  skip
  try simp only [go_sem, ↓reduceIte, Nat.reduceEqDiff, Nat.reduceAdd, Nat.reduceMul, Nat.reduceLT, Nat.reduceLeDiff, reduceCtorEq, Int.reduceLE, Int.reduceLT, Int.reduceToNat, UInt8.reduceToNat] at hmP2
  refine SC_of Tryd.func50 rfl (fun xs w => Tryd.call50 xs w) Tryd.ntmps50 (by kernel_rfl) (congrArg Array.toList Tryd.results50) V.weak (fun _ _ _ => V.weak_ok) ?_
  unfold p_parse_parser_list__plain_1 at h
  refine SW_seq ?_
  refine SW_reg fun K hK => ?_
  simp only [go_sem]
  apply hK
  simp only [thenQ_normal]
  refine SW_seq ?_
  refine SW_reg fun K hK => ?_
  simp only [go_sem, Nat.reduceAdd]
  apply hK
  simp only [thenQ_normal]
  refine SW_seq ?_
  obtain ⟨x1, h2, h⟩ := bind_some h
  refine SW_reg fun K hK => ?_
  simp only [go_sem, ↓reduceIte, Nat.reduceAdd, reduceCtorEq]
  refine SC.by_ (p_parse_parser_need_ok n a0 ([40] : Str) _ h2 _ _ _ P0 (by simp only [go_sem, hmP0, hg0])) ?_
  simp only [go_sem, Nat.reduceAdd]
  apply hK
  simp only [thenQ_normal]
  refine SW_seq ?_
  refine SW_seq ?_
  obtain ⟨x3, h4, h⟩ := bind_some h
  refine SW_reg fun K hK => ?_
  simp only [go_sem, ↓reduceIte, Nat.reduceAdd, reduceCtorEq]
  refine SC.by_ (p_parse_parser_take_ok n x1 ([41] : Str) _ h4 _ _ _ P0 (by simp only [go_sem, ↓reduceIte, hg0])) ?_
  simp only [go_sem, Nat.reduceAdd]
  apply hK
  simp only [thenQ_normal]
  refine SW_if x3.1 (by simp only [go_sem, ↓reduceIte]) (fun c5 => ?_) (fun c5 => ?_)
  · replace h := ite_t c5 h
    refine SW_seq ?_
    refine SW_reg fun K hK => ?_
    simp only [go_sem, Nat.reduceAdd, c5]
    apply hK
    simp only [thenQ_normal]
    refine SW_ret ?_
    try simp only [thenQ_ret]
    obtain rfl := some_eq h
    refine ⟨by first | exact .inl rfl | exact .inl trivial | exact .inr rfl | exact .inr trivial, ?_⟩
    simp only [go_sem, ↓reduceIte, back_self, back_out hpP0]
  · replace h := ite_f c5 h
    refine SW_skip ?_
    try simp only [thenQ_normal]
    refine SW_seq ?_
    obtain ⟨y6, hy6, h⟩ := bind_some h
    refine SW_joinK 8 [] [] rfl (fun E' m' => ∃ (oy6_5 : Pa) (jy6_5 : Nat), E' 0 = .ptr P0 0 ∧ E' 5 = .list (.st (.anon oy6_5 jy6_5)) (y6.1.map T_parse_Node.C) ∧ m'.tok oy6_5 jy6_5 = true ∧ q <:+ oy6_5 ∧ m'.blk P0 = some ((T_parse_parser.C y6.2)) ∧ m'.blk P1 = some ([.ptr P0 0]) ∧ m'.blk P2 = some ([.lit (.int .i64 a1)]) ∧ m'.gl = m.gl ∧ m.back q m' = (m.set P0 ((T_parse_parser.C y6.2)))) ?_ ?_
    · refine SW_block ?_
      obtain ⟨y10, hy10, hy6⟩ := bind_some hy6
      refine SW_stamp 5 ([].map T_parse_Node.C) rfl (by simp only [go_sem, ↓reduceIte, Nat.reduceEqDiff, c5]) ?_
      refine SW_countW [] [] rfl (fun c E' m' => ∃ (v8 : (List T_parse_Node)), ∃ (v9 : T_parse_parser), ∃ (o_v8 : Pa) (j_v8 : Nat), p_parse_parser_list__plain_1_l1 n a1 c v8 v9 = some y10 ∧ E' 0 = .ptr P0 0 ∧ E' 1 = .fn (.func 128) [] [.ptr P1 0, .ptr P2 0] ∧ E' 5 = .list (.st (.anon o_v8 j_v8)) (v8.map T_parse_Node.C) ∧ m'.tok o_v8 j_v8 = true ∧ q <:+ o_v8 ∧ m'.blk P0 = some ((T_parse_parser.C v9)) ∧ m'.blk P1 = some ([.ptr P0 0]) ∧ m'.blk P2 = some ([.lit (.int .i64 a1)]) ∧ m'.gl = m.gl ∧ m.back q m' = (m.set P0 ((T_parse_parser.C v9)))) n ⟨[], x3.2, (6 :: q), 0, hy10, ?_⟩ ?_
      · simp only [go_sem, ↓reduceIte, Nat.reduceEqDiff, reduceCtorEq, back_tokset, back_self, back_out hpP0, hn1_0, hn2_0, c5, hmP1, hmP2]
      rintro i7 c11 E12 m13 ⟨v8, v9, o_v8, j_v8, hy10, e14⟩ _
      rcases c11 with _ | c11
      · exact absurd hy10 (by rw [p_parse_parser_list__plain_1_l1]; exact fun e => nomatch e)
      rw [p_parse_parser_list__plain_1_l1] at hy10
      refine SW_seq ?_
      refine SW_seq ?_
      refine SW_reg fun K hK => ?_
      simp only [go_sem, ↓reduceIte, Nat.reduceAdd, e14]
      apply hK
      simp only [thenQ_normal]
      refine SW_if (v9.e_ == (0 : Int)) (by simp only [go_sem, ↓reduceIte]) (fun c15 => ?_) (fun c15 => ?_)
      · replace hy10 := ite_t c15 hy10
        refine SW_skip ?_
        try simp only [thenQ_normal]
        refine SW_block ?_
        refine SW_seq ?_
        obtain ⟨x16, h17, hy10⟩ := bind_some hy10
        obtain ⟨f18, hy10⟩ := need_some hy10
        have f19 : v8.length + 1 ≤ 1073741824 := by first | omega | (simp only [List.length_append, List.length_cons, List.length_nil] at f18 ⊢; omega)
        have f20 : v8.length ≤ 1073741823 := by first | omega | (simp only [List.length_append, List.length_cons, List.length_nil] at f18 ⊢; omega)
        refine SW_reg fun K hK => ?_
        simp only [go_sem, ↓reduceIte, Nat.reduceEqDiff, Nat.reduceAdd, c15, e14]
        refine SC.by_ (p_parse_parser_plain_1_ok n v9 a1 _ h17 _ _ _ P0 P1 P2 (by simp only [go_sem, hn0_1, hn0_2, hn1_0, hn1_2, hn2_0, hn2_1, e14, hg0, hg6])) ?_
        simp only [go_sem, ↓reduceIte, Nat.reduceEqDiff, Nat.reduceAdd, Nat.reduceLT, Nat.reduceLeDiff, f19, e14]
        apply hK
        simp only [thenQ_normal]
        refine SW_seq ?_
        obtain ⟨x21, h22, hy10⟩ := bind_some hy10
        refine SW_reg fun K hK => ?_
        simp only [go_sem, ↓reduceIte, Nat.reduceAdd, reduceCtorEq, e14]
        refine SC.by_ (p_parse_parser_take_ok n x16.2 ([44] : Str) _ h22 _ _ _ P0 (by simp only [go_sem, ↓reduceIte, e14, hg0])) ?_
        simp only [go_sem, ↓reduceIte, Nat.reduceAdd]
        apply hK
        simp only [thenQ_normal]
        refine SW_if (!x21.1) (by simp only [go_sem, ↓reduceIte]) (fun c23 => ?_) (fun c23 => ?_)
        · replace hy10 := ite_t c23 hy10
          refine SW_exit ?_
          try simp only [thenQ_exit, blockQ_exit, ↓reduceIte, Nat.reduceEqDiff, thenQ_normal]
          obtain rfl := some_eq hy10
          obtain rfl := some_eq hy6
          refine ⟨by decide, (9 :: i7 :: 7 :: q), 0, ?_⟩
          simp only [go_sem, ↓reduceIte, Nat.reduceEqDiff, reduceCtorEq, back_tokset, back_out hpP0, hn1_0, hn2_0, c23, e14]
        · replace hy10 := ite_f c23 hy10
          refine SW_skip ?_
          try simp only [thenQ_normal, blockQ_normal]
          refine ⟨c11, Nat.lt_succ_self _, (v8 ++ [x16.1]), x21.2, (9 :: i7 :: 7 :: q), 0, hy10, ?_⟩
          simp only [go_sem, ↓reduceIte, Nat.reduceEqDiff, reduceCtorEq, back_tokset, back_out hpP0, hn1_0, hn2_0, c23, e14]
      · replace hy10 := ite_f c15 hy10
        refine SW_exit ?_
        try simp only [thenQ_exit, blockQ_exit, ↓reduceIte, thenQ_normal]
        obtain rfl := some_eq hy10
        obtain rfl := some_eq hy6
        refine ⟨by decide, o_v8, j_v8, ?_⟩
        simp only [go_sem, ↓reduceIte, Nat.reduceEqDiff, reduceCtorEq, c15, e14]
    · rintro E24 m25 ⟨oy6_5, jy6_5, e26⟩ _
      simp only [thenQ_normal]
      refine SW_seq ?_
      obtain ⟨x27, h28, h⟩ := bind_some h
      refine SW_reg fun K hK => ?_
      simp only [go_sem, ↓reduceIte, Nat.reduceAdd, e26]
      refine SC.by_ (p_parse_parser_need_ok n y6.2 ([41] : Str) _ h28 _ _ _ P0 (by simp only [go_sem, e26, hg0])) ?_
      simp only [go_sem, Nat.reduceAdd]
      apply hK
      simp only [thenQ_normal]
      refine SW_seq ?_
      refine SW_reg fun K hK => ?_
      simp only [go_sem, ↓reduceIte, Nat.reduceEqDiff, Nat.reduceAdd, e26]
      apply hK
      simp only [thenQ_normal]
      refine SW_ret ?_
      try simp only []
      obtain rfl := some_eq h
      refine ⟨by first | exact .inl rfl | exact .inl trivial | exact .inr rfl | exact .inr trivial, ?_⟩
      simp only [go_sem, ↓reduceIte, back_out hpP0, e26]

def p_parse_parser_plain_C (f : T_parse_parser → T_parse_Node → Int → Option (T_parse_Node × T_parse_parser)) : Prop := ∀ (a0 : T_parse_parser) (a1 : T_parse_Node) (a2 : Int) (r : (T_parse_Node × T_parse_parser)), f a0 a1 a2 = some r → ∀ (q : Pa) (m : M) (vs : List V) (P0 : Pa), vs.map V.weak1 = [.ptr P0 0, .agg ((T_parse_Node.C a1)), .lit (.int .i64 a2)] ∧ m.blk P0 = some ((T_parse_parser.C a0)) ∧ m.gl 0 = .eptr [(cA cS g_parse_words)] 0 0 ∧ m.gl 6 = .eptr [(cA (cA cS) g_parse_levels)] 0 0 → SC Tryd.prog 109 vs q m (fun v m' => v = .agg ((T_parse_Node.C r.1)) ∧ m' = (m.set P0 ((T_parse_parser.C r.2))))

theorem p_parse_parser_plain_ok (n : Nat) : p_parse_parser_plain_C (p_parse_parser_plain n) := by
  rintro a0 a1 a2 r h q m vs P0 ⟨hv, hmP0, hg0, hg6⟩
  refine SC.weak ?_
  rw [hv]
  refine SC.apart hmP0 fun hpP0 => ?_
  have hmsP0 := set_same hmP0
  try simp only [go_sem] at hmP0 hmsP0
  refine SC_of Tryd.func109 rfl (fun xs w => Tryd.call109 xs w) Tryd.ntmps109 (by kernel_rfl) (congrArg Array.toList Tryd.results109) V.weak (fun _ _ _ => V.weak_ok) ?_
  unfold p_parse_parser_plain at h
  refine SW_seq ?_
  refine SW_reg fun K hK => ?_
  simp only [go_sem, ↓reduceIte, Nat.reduceEqDiff, Nat.reduceAdd]
  apply hK
  simp only [thenQ_normal]
  refine SW_seq ?_
  obtain ⟨x5, h6, h⟩ := bind_some h
  refine SW_reg fun K hK => ?_
  simp only [go_sem, ↓reduceIte, Nat.reduceEqDiff, Nat.reduceAdd, reduceCtorEq]
  refine SC.by_ (p_parse_parser_name_ok n a0 _ h6 _ _ _ P0 (by simp only [go_sem, ↓reduceIte, pz1 hpP0, hmP0, hg0])) ?_
  simp only [go_sem, ↓reduceIte, Nat.reduceEqDiff, Nat.reduceAdd, Nat.reduceLeDiff, pz1 hpP0]
  apply hK
  simp only [thenQ_normal]
  refine SW_seq ?_
  obtain ⟨y7, hy7, h⟩ := bind_some h
  refine SW_joinK 37 [] [((1 :: q), 4)] rfl (fun E' m' => E' 3 = .ptr (0 :: q) 0 ∧ E' 4 = .ptr (1 :: q) 0 ∧ E' 6 = .ptr (3 :: q) 0 ∧ m'.blk P0 = some ((T_parse_parser.C y7.1)) ∧ m'.blk (0 :: q) = some ([.ptr P0 0]) ∧ m'.blk (1 :: q) = some ((T_parse_Node.C y7.2)) ∧ m'.blk (3 :: q) = some ([.lit (.int .i64 (0 : Int)), .lit (.int .i64 (0 : Int)), .lit (.string (bs [])), .lit (.int .u32 (0 : Int)), .list .self ([].map T_parse_Node.C)]) ∧ m'.gl = m.gl ∧ m.back q m' = (m.set P0 ((T_parse_parser.C y7.1)))) ?_ ?_
  · refine SW_block ?_
    refine SW_seq ?_
    obtain ⟨x8, h9, hy7⟩ := bind_some hy7
    refine SW_reg fun K hK => ?_
    simp only [go_sem, ↓reduceIte, Nat.reduceEqDiff, Nat.reduceAdd, reduceCtorEq, pz1 hpP0]
    refine SC.by_ (p_parse_parser_is_ok n x5.2 ([40] : Str) _ h9 _ _ _ P0 (by simp only [go_sem, ↓reduceIte, pz1 hpP0, hg0])) ?_
    simp only [go_sem, ↓reduceIte, Nat.reduceAdd]
    apply hK
    simp only [thenQ_normal]
    refine SW_if x8 (by simp only [go_sem, ↓reduceIte]) (fun c10 => ?_) (fun c10 => ?_)
    · replace hy7 := ite_t c10 hy7
      obtain ⟨x11, h12, hy7⟩ := bind_some hy7
      refine SW_reg fun K hK => ?_
      simp only [go_sem, ↓reduceIte, Nat.reduceEqDiff, Nat.reduceAdd, reduceCtorEq, pz1 hpP0, c10]
      refine SC.by_ (p_parse_parser_list__plain_1_ok n x5.2 a2 _ h12 _ _ _ P0 (0 :: q) (2 :: q) (by simp only [go_sem, ↓reduceIte, Nat.reduceEqDiff, reduceCtorEq, pz1 hpP0, hg0, hg6])) ?_
      simp only [go_sem, ↓reduceIte, Nat.reduceEqDiff, Nat.reduceAdd, Nat.reduceLeDiff, pz1 hpP0]
      apply hK
      simp only [thenQ_normal, blockQ_normal]
      obtain rfl := some_eq hy7
      refine ⟨by decide, ?_⟩
      simp only [go_sem, ↓reduceIte, Nat.reduceEqDiff, reduceCtorEq, back_set, back_self, back_out hpP0, pz1 hpP0]
    · replace hy7 := ite_f c10 hy7
      refine SW_seq ?_
      obtain ⟨x13, h14, hy7⟩ := bind_some hy7
      refine SW_reg fun K hK => ?_
      simp only [go_sem, ↓reduceIte, Nat.reduceEqDiff, Nat.reduceAdd, reduceCtorEq, pz1 hpP0, c10]
      refine SC.by_ (p_parse_parser_take_ok n x5.2 ([91] : Str) _ h14 _ _ _ P0 (by simp only [go_sem, ↓reduceIte, pz1 hpP0, hg0])) ?_
      simp only [go_sem, ↓reduceIte, Nat.reduceAdd]
      apply hK
      simp only [thenQ_normal]
      refine SW_if x13.1 (by simp only [go_sem, ↓reduceIte]) (fun c15 => ?_) (fun c15 => ?_)
      · replace hy7 := ite_t c15 hy7
        refine SW_seq ?_
        obtain ⟨x16, h17, hy7⟩ := bind_some hy7
        refine SW_reg fun K hK => ?_
        simp only [go_sem, ↓reduceIte, Nat.reduceEqDiff, Nat.reduceAdd, reduceCtorEq, pz1 hpP0, c15]
        refine SC.by_ (p_parse_parser_expr_ok n x13.2 (IntKind.i64.wrap (a2 + (2 : Int))) _ h17 _ _ _ P0 (by simp only [go_sem, ↓reduceIte, hg0, hg6])) ?_
        simp only [go_sem, ↓reduceIte, Nat.reduceEqDiff, Nat.reduceAdd, Nat.reduceLT, Nat.reduceLeDiff, pz1 hpP0]
        apply hK
        simp only [thenQ_normal]
        refine SW_seq ?_
        obtain ⟨x18, h19, hy7⟩ := bind_some hy7
        refine SW_reg fun K hK => ?_
        simp only [go_sem, ↓reduceIte, Nat.reduceEqDiff, Nat.reduceAdd, reduceCtorEq, pz1 hpP0]
        refine SC.by_ (p_parse_parser_need_ok n x16.2 ([93] : Str) _ h19 _ _ _ P0 (by simp only [go_sem, ↓reduceIte, pz1 hpP0, hg0])) ?_
        simp only [go_sem, Nat.reduceAdd]
        apply hK
        simp only [thenQ_normal]
        refine SW_seq ?_
        obtain ⟨x20, h21, hy7⟩ := bind_some hy7
        refine SW_reg fun K hK => ?_
        simp only [go_sem, ↓reduceIte, Nat.reduceEqDiff, Nat.reduceAdd, reduceCtorEq, pz1 hpP0]
        refine SC.by_ (p_parse_parser_need_ok n x18 ([61] : Str) _ h21 _ _ _ P0 (by simp only [go_sem, ↓reduceIte, hg0])) ?_
        simp only [go_sem, Nat.reduceAdd]
        apply hK
        simp only [thenQ_normal]
        obtain ⟨x22, h23, hy7⟩ := bind_some hy7
        obtain ⟨f24, hy7⟩ := need_some hy7
        refine SW_drawK (tbl := [0, 1, 0, 0, 8, 28, 60, 127, 255, 511]) (ord := [(2, 0), (3, 0), (4, 0), (5, 0), (0, 0), (1, 1), (6, 0), (7, 0), (8, 0), (9, 0)]) 37 rfl (by kernel_rfl) (by kernel_rfl) fun K hK => ?_
        simp only [go_sem, ↓reduceIte, Nat.reduceEqDiff, Nat.reduceAdd, reduceCtorEq, pz1 hpP0]
        refine dcall_of (p_parse_parser_expr_ok n x20 (IntKind.i64.wrap (a2 + (1 : Int))) _ h23 _ _ _ P0 (by simp only [go_sem, ↓reduceIte, hg0, hg6])) rfl ?_
        simp only [go_sem, ↓reduceIte, Nat.reduceEqDiff, Nat.reduceAdd, Nat.reduceLT, Nat.reduceLeDiff, pz1 hpP0]
        apply hK
        simp only [thenQ_normal, blockQ_normal]
        obtain rfl := some_eq hy7
        refine ⟨by decide, ?_⟩
        simp only [go_sem, ↓reduceIte, Nat.reduceEqDiff, reduceCtorEq, back_set, back_bump, back_tokset, back_self, back_out hpP0, pz1 hpP0]
      · replace hy7 := ite_f c15 hy7
        refine SW_seq ?_
        obtain ⟨x25, h26, hy7⟩ := bind_some hy7
        refine SW_reg fun K hK => ?_
        simp only [go_sem, ↓reduceIte, Nat.reduceEqDiff, Nat.reduceAdd, reduceCtorEq, pz1 hpP0, c15]
        refine SC.by_ (p_parse_parser_need_ok n x13.2 ([61] : Str) _ h26 _ _ _ P0 (by simp only [go_sem, ↓reduceIte, hg0])) ?_
        simp only [go_sem, Nat.reduceAdd]
        apply hK
        simp only [thenQ_normal]
        obtain ⟨x27, h28, hy7⟩ := bind_some hy7
        refine SW_reg fun K hK => ?_
        simp only [go_sem, ↓reduceIte, Nat.reduceEqDiff, Nat.reduceAdd, reduceCtorEq, pz1 hpP0]
        refine SC.by_ (p_parse_parser_expr_ok n x25 (IntKind.i64.wrap (a2 + (1 : Int))) _ h28 _ _ _ P0 (by simp only [go_sem, ↓reduceIte, hg0, hg6])) ?_
        simp only [go_sem, ↓reduceIte, Nat.reduceEqDiff, Nat.reduceAdd, Nat.reduceLT, Nat.reduceLeDiff, pz1 hpP0]
        apply hK
        simp only [thenQ_normal, blockQ_normal]
        obtain rfl := some_eq hy7
        refine ⟨by decide, ?_⟩
        simp only [go_sem, ↓reduceIte, Nat.reduceEqDiff, reduceCtorEq, back_set, back_bump, back_self, back_out hpP0, pz1 hpP0]
  · intro E29 m30 e31 _
    simp only [thenQ_normal]
    refine SW_seq ?_
    obtain ⟨x32, h33, h⟩ := bind_some h
    refine SW_reg fun K hK => ?_
    simp only [go_sem, ↓reduceIte, Nat.reduceAdd, e31]
    refine SC.by_ (p_parse_parser_need_ok n y7.1 ([59] : Str) _ h33 _ _ _ P0 (by simp only [go_sem, e31, hg0])) ?_
    simp only [go_sem, Nat.reduceAdd]
    apply hK
    simp only [thenQ_normal]
    refine SW_seq ?_
    refine SW_reg fun K hK => ?_
    simp only [go_sem, ↓reduceIte, Nat.reduceEqDiff, Nat.reduceAdd, pz1 hpP0, e31]
    apply hK
    simp only [thenQ_normal]
    refine SW_ret ?_
    try simp only []
    obtain rfl := some_eq h
    refine ⟨by first | exact .inl rfl | exact .inl trivial | exact .inr rfl | exact .inr trivial, ?_⟩
    simp only [go_sem, ↓reduceIte, Nat.reduceEqDiff, Nat.reduceAdd, back_set, back_out hpP0, e31]

def p_parse_parser_block_C (f : T_parse_parser → Int → Option (T_parse_Node × T_parse_parser)) : Prop := ∀ (a0 : T_parse_parser) (a1 : Int) (r : (T_parse_Node × T_parse_parser)), f a0 a1 = some r → ∀ (q : Pa) (m : M) (vs : List V) (P0 : Pa), vs.map V.weak1 = [.ptr P0 0, .lit (.int .i64 a1)] ∧ m.blk P0 = some ((T_parse_parser.C a0)) ∧ m.gl 0 = .eptr [(cA cS g_parse_words)] 0 0 ∧ m.gl 6 = .eptr [(cA (cA cS) g_parse_levels)] 0 0 → SC Tryd.prog 52 vs q m (fun v m' => v = .agg ((T_parse_Node.C r.1)) ∧ m' = (m.set P0 ((T_parse_parser.C r.2))))

def p_parse_parser_statement_C (f : T_parse_parser → Int → Option (T_parse_Node × T_parse_parser)) : Prop := ∀ (a0 : T_parse_parser) (a1 : Int) (r : (T_parse_Node × T_parse_parser)), f a0 a1 = some r → ∀ (q : Pa) (m : M) (vs : List V) (P0 : Pa), vs.map V.weak1 = [.ptr P0 0, .lit (.int .i64 a1)] ∧ m.blk P0 = some ((T_parse_parser.C a0)) ∧ m.gl 0 = .eptr [(cA cS g_parse_words)] 0 0 ∧ m.gl 6 = .eptr [(cA (cA cS) g_parse_levels)] 0 0 → SC Tryd.prog 89 vs q m (fun v m' => v = .agg ((T_parse_Node.C r.1)) ∧ m' = (m.set P0 ((T_parse_parser.C r.2))))

def p_parse_parser_choice_C (f : T_parse_parser → T_parse_Node → Int → Option (T_parse_Node × T_parse_parser)) : Prop := ∀ (a0 : T_parse_parser) (a1 : T_parse_Node) (a2 : Int) (r : (T_parse_Node × T_parse_parser)), f a0 a1 a2 = some r → ∀ (q : Pa) (m : M) (vs : List V) (P0 : Pa), vs.map V.weak1 = [.ptr P0 0, .agg ((T_parse_Node.C a1)), .lit (.int .i64 a2)] ∧ m.blk P0 = some ((T_parse_parser.C a0)) ∧ m.gl 0 = .eptr [(cA cS g_parse_words)] 0 0 ∧ m.gl 6 = .eptr [(cA (cA cS) g_parse_levels)] 0 0 → SC Tryd.prog 107 vs q m (fun v m' => v = .agg ((T_parse_Node.C r.1)) ∧ m' = (m.set P0 ((T_parse_parser.C r.2))))

def p_parse_parser_loop_C (f : T_parse_parser → T_parse_Node → Int → Option (T_parse_Node × T_parse_parser)) : Prop := ∀ (a0 : T_parse_parser) (a1 : T_parse_Node) (a2 : Int) (r : (T_parse_Node × T_parse_parser)), f a0 a1 a2 = some r → ∀ (q : Pa) (m : M) (vs : List V) (P0 : Pa), vs.map V.weak1 = [.ptr P0 0, .agg ((T_parse_Node.C a1)), .lit (.int .i64 a2)] ∧ m.blk P0 = some ((T_parse_parser.C a0)) ∧ m.gl 0 = .eptr [(cA cS g_parse_words)] 0 0 ∧ m.gl 6 = .eptr [(cA (cA cS) g_parse_levels)] 0 0 → SC Tryd.prog 108 vs q m (fun v m' => v = .agg ((T_parse_Node.C r.1)) ∧ m' = (m.set P0 ((T_parse_parser.C r.2))))

theorem p_parse_parser_block_b_ok {rec_p_parse_parser_statement : T_parse_parser → Int → Option (T_parse_Node × T_parse_parser)} (hrec_p_parse_parser_statement : p_parse_parser_statement_C rec_p_parse_parser_statement) (n : Nat) : p_parse_parser_block_C (p_parse_parser_block_b rec_p_parse_parser_statement n) := by
  rintro a0 a1 r h q m vs P0 ⟨hv, hmP0, hg0, hg6⟩
  refine SC.weak ?_
  rw [hv]
  refine SC.apart hmP0 fun hpP0 => ?_
  have hmsP0 := set_same hmP0
  try simp only [go_sem] at hmP0 hmsP0
  refine SC_of Tryd.func52 rfl (fun xs w => Tryd.call52 xs w) Tryd.ntmps52 (by kernel_rfl) (congrArg Array.toList Tryd.results52) V.weak (fun _ _ _ => V.weak_ok) ?_
  unfold p_parse_parser_block_b at h
  refine SW_seq ?_
  refine SW_reg fun K hK => ?_
  simp only [go_sem]
  apply hK
  simp only [thenQ_normal]
  refine SW_seq ?_
  obtain ⟨x2, h3, h⟩ := bind_some h
  refine SW_reg fun K hK => ?_
  simp only [go_sem, ↓reduceIte, Nat.reduceEqDiff, Nat.reduceAdd, reduceCtorEq]
  refine SC.by_ (p_parse_parser_deep_ok a0 a1 _ h3 _ _ _ P0 (by simp only [go_sem, ↓reduceIte, pz2 hpP0, hmP0])) ?_
  simp only [go_sem, Nat.reduceAdd]
  apply hK
  simp only [thenQ_normal]
  refine SW_seq ?_
  obtain ⟨x4, h6, h⟩ := bind_some h
  refine SW_reg fun K hK => ?_
  simp only [go_sem, ↓reduceIte, Nat.reduceAdd, reduceCtorEq]
  refine SC.mono (p_parse_parser_node_ok x2 (4 : Int) _ h6 _ _ _ P0 (by simp only [go_sem, ↓reduceIte])) ?_
  rintro _ _ ⟨o_x4, j_x4, s_x4, rfl, rfl⟩
  replace s_x4 : q <:+ o_x4 := List.IsSuffix.trans (by simp only [go_sem]) s_x4
  simp only [go_sem, ↓reduceIte, Nat.reduceEqDiff, Nat.reduceAdd]
  apply hK
  simp only [thenQ_normal]
  refine SW_seq ?_
  obtain ⟨x7, h8, h⟩ := bind_some h
  refine SW_reg fun K hK => ?_
  simp only [go_sem, ↓reduceIte, Nat.reduceAdd, reduceCtorEq]
  refine SC.by_ (p_parse_parser_need_ok n x4.2 ([123] : Str) _ h8 _ _ _ P0 (by simp only [go_sem, ↓reduceIte, pz2 hpP0, hg0])) ?_
  simp only [go_sem, Nat.reduceAdd]
  apply hK
  simp only [thenQ_normal]
  refine SW_seq ?_
  refine SW_block ?_
  obtain ⟨y12, hy12, h⟩ := bind_some h
  refine SW_countW [] [] rfl (fun c E' m' => ∃ (v10 : T_parse_parser), ∃ (v11 : T_parse_Node), p_parse_parser_block_l1 rec_p_parse_parser_statement n a1 c v10 v11 = some y12 ∧ E' 0 = .ptr P0 0 ∧ E' 1 = .lit (.int .i64 a1) ∧ E' 4 = .ptr (0 :: q) 0 ∧ E' 5 = .ptr (6 :: q) 0 ∧ m'.blk P0 = some ((T_parse_parser.C v10)) ∧ m'.blk (0 :: q) = some ([.lit (.int .i64 (0 : Int)), .lit (.int .i64 (0 : Int)), .lit (.string (bs [])), .lit (.int .u32 (0 : Int)), .list .self ([].map T_parse_Node.C)]) ∧ m'.blk (6 :: q) = some ([.lit (.int .i64 v11.Kind_), .lit (.int .i64 v11.At_), .lit (.string (bs v11.Text_)), .lit (.int .u32 v11.Num_), .list .self (v11.List_.map T_parse_Node.C)]) ∧ m'.gl = m.gl ∧ m.back q m' = (m.set P0 ((T_parse_parser.C v10)))) n ⟨x7, x4.1, hy12, ?_⟩ ?_
  · simp only [go_sem, ↓reduceIte, Nat.reduceEqDiff, reduceCtorEq, back_set, back_bump, back_tokset, back_self, back_out hpP0, pz2 hpP0, s_x4]
  rintro i9 c13 E14 m15 ⟨v10, v11, hy12, e16⟩ _
  rcases c13 with _ | c13
  · exact absurd hy12 (by rw [p_parse_parser_block_l1]; exact fun e => nomatch e)
  rw [p_parse_parser_block_l1] at hy12
  refine SW_seq ?_
  refine SW_seq ?_
  obtain ⟨y17, hy17, hy12⟩ := bind_some hy12
  refine SW_joinK 10 [] [] rfl (fun E' m' => E' 0 = .ptr P0 0 ∧ E' 1 = .lit (.int .i64 a1) ∧ E' 4 = .ptr (0 :: q) 0 ∧ E' 5 = .ptr (6 :: q) 0 ∧ E' 22 = .lit (.bool y17) ∧ m'.blk P0 = some ((T_parse_parser.C v10)) ∧ m'.blk (0 :: q) = some ([.lit (.int .i64 (0 : Int)), .lit (.int .i64 (0 : Int)), .lit (.string (bs [])), .lit (.int .u32 (0 : Int)), .list .self ([].map T_parse_Node.C)]) ∧ m'.blk (6 :: q) = some ([.lit (.int .i64 v11.Kind_), .lit (.int .i64 v11.At_), .lit (.string (bs v11.Text_)), .lit (.int .u32 v11.Num_), .list .self (v11.List_.map T_parse_Node.C)]) ∧ m'.gl = m.gl ∧ m.back q m' = (m.set P0 ((T_parse_parser.C v10)))) ?_ ?_
  · rcases bool_or (v10.e_ == (0 : Int)) with c18 | c18
    · replace hy17 := ite_t c18 hy17
      obtain ⟨x19, h20, hy17⟩ := bind_some hy17
      refine SW_reg fun K hK => ?_
      simp only [go_sem, ↓reduceIte, Nat.reduceEqDiff, Nat.reduceAdd, reduceCtorEq, c18, e16]
      refine SC.by_ (p_parse_parser_is_ok n v10 ([125] : Str) _ h20 _ _ _ P0 (by simp only [go_sem, e16, hg0])) ?_
      simp only [go_sem, ↓reduceIte, Nat.reduceEqDiff, Nat.reduceAdd]
      apply hK
      simp only [thenQ_normal]
      obtain rfl := some_eq hy17
      refine ⟨by decide, ?_⟩
      simp only [go_sem, ↓reduceIte, Nat.reduceEqDiff, reduceCtorEq, e16]
    · replace hy17 := ite_f c18 hy17
      refine SW_reg fun K hK => ?_
      simp only [go_sem, ↓reduceIte, Nat.reduceEqDiff, Nat.reduceAdd, c18, e16]
      apply hK
      simp only [thenQ_normal]
      obtain rfl := some_eq hy17
      refine ⟨by decide, ?_⟩
      simp only [go_sem, ↓reduceIte, Nat.reduceEqDiff, reduceCtorEq, e16]
  · intro E21 m22 e23 _
    simp only [thenQ_normal]
    refine SW_if y17 (by simp only [go_sem, e23]) (fun c24 => ?_) (fun c24 => ?_)
    · replace hy12 := ite_t c24 hy12
      refine SW_skip ?_
      try simp only [thenQ_normal]
      refine SW_block ?_
      obtain ⟨x25, h26, hy12⟩ := bind_some hy12
      obtain ⟨f27, hy12⟩ := need_some hy12
      have f28 : v11.List_.length + 1 ≤ 1073741824 := by first | omega | (simp only [List.length_append, List.length_cons, List.length_nil] at f27 ⊢; omega)
      have f29 : v11.List_.length ≤ 1073741823 := by first | omega | (simp only [List.length_append, List.length_cons, List.length_nil] at f27 ⊢; omega)
      refine SW_drawK (tbl := [0, 1, 0, 0, 12, 28, 63, 127, 255]) (ord := [(2, 0), (3, 0), (4, 0), (0, 0), (1, 1), (5, 0), (6, 0), (7, 0), (8, 0)]) 19 rfl (by kernel_rfl) (by kernel_rfl) fun K hK => ?_
      simp only [go_sem, ↓reduceIte, Nat.reduceEqDiff, Nat.reduceAdd, e23]
      refine dcall_of (hrec_p_parse_parser_statement v10 a1 _ h26 _ _ _ P0 (by simp only [go_sem, e23, hg0, hg6])) rfl ?_
      simp only [go_sem, ↓reduceIte, Nat.reduceEqDiff, Nat.reduceAdd, Nat.reduceLT, Nat.reduceLeDiff, pz2 hpP0, f28, e23]
      apply hK
      simp only [thenQ_normal, blockQ_normal]
      refine ⟨c13, Nat.lt_succ_self _, x25.2, ({ v11 with List_ := (v11.List_ ++ [x25.1]) } : T_parse_Node), hy12, ?_⟩
      simp only [go_sem, ↓reduceIte, Nat.reduceEqDiff, reduceCtorEq, back_set, back_bump, back_tokset, back_out hpP0, pz2 hpP0, e23]
    · replace hy12 := ite_f c24 hy12
      refine SW_exit ?_
      try simp only [thenQ_exit, blockQ_exit, ↓reduceIte, thenQ_normal]
      obtain rfl := some_eq hy12
      refine SW_seq ?_
      obtain ⟨x30, h31, h⟩ := bind_some h
      refine SW_reg fun K hK => ?_
      simp only [go_sem, ↓reduceIte, Nat.reduceAdd, e23]
      refine SC.by_ (p_parse_parser_need_ok n v10 ([125] : Str) _ h31 _ _ _ P0 (by simp only [go_sem, e23, hg0])) ?_
      simp only [go_sem, Nat.reduceAdd]
      apply hK
      simp only [thenQ_normal]
      refine SW_seq ?_
      refine SW_reg fun K hK => ?_
      simp only [go_sem, ↓reduceIte, Nat.reduceEqDiff, Nat.reduceAdd, pz2 hpP0, e23]
      apply hK
      simp only [thenQ_normal]
      refine SW_ret ?_
      try simp only []
      obtain rfl := some_eq h
      refine ⟨by first | exact .inl rfl | exact .inl trivial | exact .inr rfl | exact .inr trivial, ?_⟩
      simp only [go_sem, ↓reduceIte, Nat.reduceEqDiff, Nat.reduceAdd, back_set, back_out hpP0, e23]

theorem p_parse_parser_statement_b_ok {rec_p_parse_parser_choice : T_parse_parser → T_parse_Node → Int → Option (T_parse_Node × T_parse_parser)} (hrec_p_parse_parser_choice : p_parse_parser_choice_C rec_p_parse_parser_choice) {rec_p_parse_parser_loop : T_parse_parser → T_parse_Node → Int → Option (T_parse_Node × T_parse_parser)} (hrec_p_parse_parser_loop : p_parse_parser_loop_C rec_p_parse_parser_loop) (n : Nat) : p_parse_parser_statement_C (p_parse_parser_statement_b rec_p_parse_parser_choice rec_p_parse_parser_loop n) := by
  rintro a0 a1 r h q m vs P0 ⟨hv, hmP0, hg0, hg6⟩
  refine SC.weak ?_
  rw [hv]
  refine SC.apart hmP0 fun hpP0 => ?_
  have hmsP0 := set_same hmP0
  try simp only [go_sem] at hmP0 hmsP0
  refine SC_of Tryd.func89 rfl (fun xs w => Tryd.call89 xs w) Tryd.ntmps89 (by kernel_rfl) (congrArg Array.toList Tryd.results89) V.weak (fun _ _ _ => V.weak_ok) ?_
  unfold p_parse_parser_statement_b at h
  refine SW_seq ?_
  refine SW_reg fun K hK => ?_
  simp only [go_sem]
  apply hK
  simp only [thenQ_normal]
  refine SW_seq ?_
  obtain ⟨x2, h4, h⟩ := bind_some h
  refine SW_reg fun K hK => ?_
  simp only [go_sem, ↓reduceIte, Nat.reduceAdd, reduceCtorEq]
  refine SC.mono (p_parse_parser_node_ok a0 (8 : Int) _ h4 _ _ _ P0 (by simp only [go_sem, ↓reduceIte, pz1 hpP0, hmP0])) ?_
  rintro _ _ ⟨o_x2, j_x2, s_x2, rfl, rfl⟩
  replace s_x2 : q <:+ o_x2 := List.IsSuffix.trans (by simp only [go_sem]) s_x2
  simp only [go_sem, ↓reduceIte, Nat.reduceEqDiff, Nat.reduceAdd]
  apply hK
  simp only [thenQ_normal]
  refine SW_seq ?_
  obtain ⟨y5, hy5, h⟩ := bind_some h
  refine SW_joinK 26 [] [] rfl (fun E' m' => ∃ (y5a : (T_parse_parser × T_parse_Node)), y5 = .inl y5a ∧ E' 0 = .ptr P0 0 ∧ E' 4 = .ptr (0 :: q) 0 ∧ E' 5 = .ptr (3 :: q) 0 ∧ m'.blk P0 = some ((T_parse_parser.C y5a.1)) ∧ m'.blk (0 :: q) = some ([.lit (.int .i64 (0 : Int)), .lit (.int .i64 (0 : Int)), .lit (.string (bs [])), .lit (.int .u32 (0 : Int)), .list .self ([].map T_parse_Node.C)]) ∧ m'.blk (3 :: q) = some ([.lit (.int .i64 y5a.2.Kind_), .lit (.int .i64 y5a.2.At_), .lit (.string (bs y5a.2.Text_)), .lit (.int .u32 y5a.2.Num_), .list .self (y5a.2.List_.map T_parse_Node.C)]) ∧ m'.gl = m.gl ∧ m.back q m' = (m.set P0 ((T_parse_parser.C y5a.1)))) ?_ ?_
  · refine SW_block ?_
    refine SW_seq ?_
    obtain ⟨x6, h7, hy5⟩ := bind_some hy5
    refine SW_reg fun K hK => ?_
    simp only [go_sem, ↓reduceIte, Nat.reduceAdd, reduceCtorEq]
    refine SC.by_ (p_parse_parser_take_ok n x2.2 ([108, 101, 116] : Str) _ h7 _ _ _ P0 (by simp only [go_sem, ↓reduceIte, pz1 hpP0, hg0])) ?_
    simp only [go_sem, ↓reduceIte, Nat.reduceAdd]
    apply hK
    simp only [thenQ_normal]
    refine SW_if x6.1 (by simp only [go_sem, ↓reduceIte]) (fun c8 => ?_) (fun c8 => ?_)
    · replace hy5 := ite_t c8 hy5
      refine SW_seq ?_
      refine SW_reg fun K hK => ?_
      simp only [go_sem, ↓reduceIte, Nat.reduceEqDiff, Nat.reduceAdd, Nat.reduceLeDiff, pz1 hpP0, c8]
      apply hK
      simp only [thenQ_normal]
      refine SW_seq ?_
      obtain ⟨x9, h10, hy5⟩ := bind_some hy5
      refine SW_reg fun K hK => ?_
      simp only [go_sem, ↓reduceIte, Nat.reduceEqDiff, Nat.reduceAdd, reduceCtorEq]
      refine SC.by_ (p_parse_parser_named_ok n x6.2 ({ x2.1 with Kind_ := (5 : Int) } : T_parse_Node) (IntKind.i64.wrap (a1 + (1 : Int))) _ h10 _ _ _ P0 (by simp only [go_sem, ↓reduceIte, pz1 hpP0, hg0, hg6])) ?_
      simp only [go_sem, ↓reduceIte, Nat.reduceEqDiff, Nat.reduceAdd, reduceCtorEq, pz1 hpP0]
      apply hK
      simp only [thenQ_normal]
      refine SW_ret ?_
      try simp only [thenQ_ret, blockQ_ret]
      obtain rfl := some_eq hy5
      simp only [Sum.elim_inr] at h
      obtain rfl := some_eq h
      refine ⟨by first | exact .inl rfl | exact .inl trivial | exact .inr rfl | exact .inr trivial, ?_⟩
      simp only [go_sem, ↓reduceIte, Nat.reduceEqDiff, Nat.reduceAdd, back_set, back_bump, back_tokset, back_self, back_out hpP0, s_x2]
    · replace hy5 := ite_f c8 hy5
      refine SW_seq ?_
      obtain ⟨x11, h12, hy5⟩ := bind_some hy5
      refine SW_reg fun K hK => ?_
      simp only [go_sem, ↓reduceIte, Nat.reduceAdd, reduceCtorEq, c8]
      refine SC.by_ (p_parse_parser_take_ok n x6.2 ([118, 97, 114] : Str) _ h12 _ _ _ P0 (by simp only [go_sem, ↓reduceIte, hg0])) ?_
      simp only [go_sem, ↓reduceIte, Nat.reduceAdd]
      apply hK
      simp only [thenQ_normal]
      refine SW_if x11.1 (by simp only [go_sem, ↓reduceIte]) (fun c13 => ?_) (fun c13 => ?_)
      · replace hy5 := ite_t c13 hy5
        refine SW_seq ?_
        refine SW_reg fun K hK => ?_
        simp only [go_sem, ↓reduceIte, Nat.reduceEqDiff, Nat.reduceAdd, Nat.reduceLeDiff, pz1 hpP0, c13]
        apply hK
        simp only [thenQ_normal]
        refine SW_seq ?_
        obtain ⟨x14, h15, hy5⟩ := bind_some hy5
        refine SW_reg fun K hK => ?_
        simp only [go_sem, ↓reduceIte, Nat.reduceEqDiff, Nat.reduceAdd, reduceCtorEq]
        refine SC.by_ (p_parse_parser_named_ok n x11.2 ({ x2.1 with Kind_ := (6 : Int) } : T_parse_Node) (IntKind.i64.wrap (a1 + (1 : Int))) _ h15 _ _ _ P0 (by simp only [go_sem, ↓reduceIte, pz1 hpP0, hg0, hg6])) ?_
        simp only [go_sem, ↓reduceIte, Nat.reduceEqDiff, Nat.reduceAdd, reduceCtorEq, pz1 hpP0]
        apply hK
        simp only [thenQ_normal]
        refine SW_ret ?_
        try simp only [thenQ_ret, blockQ_ret]
        obtain rfl := some_eq hy5
        simp only [Sum.elim_inr] at h
        obtain rfl := some_eq h
        refine ⟨by first | exact .inl rfl | exact .inl trivial | exact .inr rfl | exact .inr trivial, ?_⟩
        simp only [go_sem, ↓reduceIte, Nat.reduceEqDiff, Nat.reduceAdd, back_set, back_bump, back_tokset, back_self, back_out hpP0, s_x2]
      · replace hy5 := ite_f c13 hy5
        refine SW_seq ?_
        obtain ⟨x16, h17, hy5⟩ := bind_some hy5
        refine SW_reg fun K hK => ?_
        simp only [go_sem, ↓reduceIte, Nat.reduceAdd, reduceCtorEq, c13]
        refine SC.by_ (p_parse_parser_take_ok n x11.2 ([97, 114, 114] : Str) _ h17 _ _ _ P0 (by simp only [go_sem, ↓reduceIte, hg0])) ?_
        simp only [go_sem, ↓reduceIte, Nat.reduceAdd]
        apply hK
        simp only [thenQ_normal]
        refine SW_if x16.1 (by simp only [go_sem, ↓reduceIte]) (fun c18 => ?_) (fun c18 => ?_)
        · replace hy5 := ite_t c18 hy5
          refine SW_seq ?_
          obtain ⟨x19, h20, hy5⟩ := bind_some hy5
          refine SW_reg fun K hK => ?_
          simp only [go_sem, ↓reduceIte, Nat.reduceAdd, reduceCtorEq, c18]
          refine SC.by_ (p_parse_parser_name_ok n x16.2 _ h20 _ _ _ P0 (by simp only [go_sem, ↓reduceIte, hg0])) ?_
          simp only [go_sem, ↓reduceIte, Nat.reduceEqDiff, Nat.reduceAdd, Nat.reduceLeDiff, pz1 hpP0]
          apply hK
          simp only [thenQ_normal]
          obtain ⟨x21, h22, hy5⟩ := bind_some hy5
          refine SW_reg fun K hK => ?_
          simp only [go_sem, ↓reduceIte, Nat.reduceAdd, reduceCtorEq]
          refine SC.by_ (p_parse_parser_size_ok n x19.2 _ h22 _ _ _ P0 (by simp only [go_sem, ↓reduceIte, pz1 hpP0, hg0])) ?_
          simp only [go_sem, ↓reduceIte, Nat.reduceEqDiff, Nat.reduceAdd, Nat.reduceLeDiff, pz1 hpP0]
          apply hK
          simp only [thenQ_normal, blockQ_normal]
          obtain rfl := some_eq hy5
          refine ⟨by decide, (x21.2, ({ x2.1 with Kind_ := (7 : Int), Text_ := x19.1, Num_ := x21.1 } : T_parse_Node)), rfl, ?_⟩
          simp only [go_sem, ↓reduceIte, Nat.reduceEqDiff, reduceCtorEq, back_set, back_bump, back_tokset, back_self, back_out hpP0, pz1 hpP0, s_x2]
        · replace hy5 := ite_f c18 hy5
          refine SW_seq ?_
          obtain ⟨x23, h24, hy5⟩ := bind_some hy5
          refine SW_reg fun K hK => ?_
          simp only [go_sem, ↓reduceIte, Nat.reduceAdd, reduceCtorEq, c18]
          refine SC.by_ (p_parse_parser_take_ok n x16.2 ([114, 101, 116, 117, 114, 110] : Str) _ h24 _ _ _ P0 (by simp only [go_sem, ↓reduceIte, hg0])) ?_
          simp only [go_sem, ↓reduceIte, Nat.reduceAdd]
          apply hK
          simp only [thenQ_normal]
          refine SW_if x23.1 (by simp only [go_sem, ↓reduceIte]) (fun c25 => ?_) (fun c25 => ?_)
          · replace hy5 := ite_t c25 hy5
            obtain ⟨x26, h27, hy5⟩ := bind_some hy5
            refine SW_reg fun K hK => ?_
            simp only [go_sem, ↓reduceIte, Nat.reduceEqDiff, Nat.reduceAdd, reduceCtorEq, c25]
            refine SC.by_ (p_parse_parser_expr_ok n x23.2 (IntKind.i64.wrap (a1 + (1 : Int))) _ h27 _ _ _ P0 (by simp only [go_sem, ↓reduceIte, hg0, hg6])) ?_
            simp only [go_sem, ↓reduceIte, Nat.reduceEqDiff, Nat.reduceAdd, Nat.reduceLT, Nat.reduceLeDiff, pz1 hpP0]
            apply hK
            simp only [thenQ_normal, blockQ_normal]
            obtain rfl := some_eq hy5
            refine ⟨by decide, (x26.2, ({ x2.1 with Kind_ := (13 : Int), List_ := [x26.1] } : T_parse_Node)), rfl, ?_⟩
            simp only [go_sem, ↓reduceIte, Nat.reduceEqDiff, reduceCtorEq, back_set, back_bump, back_tokset, back_self, back_out hpP0, pz1 hpP0, s_x2]
          · replace hy5 := ite_f c25 hy5
            refine SW_seq ?_
            obtain ⟨x28, h29, hy5⟩ := bind_some hy5
            refine SW_reg fun K hK => ?_
            simp only [go_sem, ↓reduceIte, Nat.reduceAdd, reduceCtorEq, c25]
            refine SC.by_ (p_parse_parser_take_ok n x23.2 ([105, 102] : Str) _ h29 _ _ _ P0 (by simp only [go_sem, ↓reduceIte, hg0])) ?_
            simp only [go_sem, ↓reduceIte, Nat.reduceAdd]
            apply hK
            simp only [thenQ_normal]
            refine SW_if x28.1 (by simp only [go_sem, ↓reduceIte]) (fun c30 => ?_) (fun c30 => ?_)
            · replace hy5 := ite_t c30 hy5
              refine SW_seq ?_
              obtain ⟨x31, h32, hy5⟩ := bind_some hy5
              refine SW_reg fun K hK => ?_
              simp only [go_sem, ↓reduceIte, Nat.reduceEqDiff, Nat.reduceAdd, reduceCtorEq, pz1 hpP0, c30]
              refine SC.by_ (hrec_p_parse_parser_choice x28.2 x2.1 a1 _ h32 _ _ _ P0 (by simp only [go_sem, ↓reduceIte, hg0, hg6])) ?_
              simp only [go_sem, ↓reduceIte, Nat.reduceEqDiff, Nat.reduceAdd, reduceCtorEq, pz1 hpP0]
              apply hK
              simp only [thenQ_normal]
              refine SW_ret ?_
              try simp only [thenQ_ret, blockQ_ret]
              obtain rfl := some_eq hy5
              simp only [Sum.elim_inr] at h
              obtain rfl := some_eq h
              refine ⟨by first | exact .inl rfl | exact .inl trivial | exact .inr rfl | exact .inr trivial, ?_⟩
              simp only [go_sem, ↓reduceIte, Nat.reduceEqDiff, Nat.reduceAdd, back_set, back_bump, back_tokset, back_self, back_out hpP0, s_x2]
            · replace hy5 := ite_f c30 hy5
              refine SW_seq ?_
              obtain ⟨x33, h34, hy5⟩ := bind_some hy5
              refine SW_reg fun K hK => ?_
              simp only [go_sem, ↓reduceIte, Nat.reduceAdd, reduceCtorEq, c30]
              refine SC.by_ (p_parse_parser_take_ok n x28.2 ([102, 111, 114] : Str) _ h34 _ _ _ P0 (by simp only [go_sem, ↓reduceIte, hg0])) ?_
              simp only [go_sem, ↓reduceIte, Nat.reduceAdd]
              apply hK
              simp only [thenQ_normal]
              refine SW_if x33.1 (by simp only [go_sem, ↓reduceIte]) (fun c35 => ?_) (fun c35 => ?_)
              · replace hy5 := ite_t c35 hy5
                refine SW_seq ?_
                obtain ⟨x36, h37, hy5⟩ := bind_some hy5
                refine SW_reg fun K hK => ?_
                simp only [go_sem, ↓reduceIte, Nat.reduceEqDiff, Nat.reduceAdd, reduceCtorEq, pz1 hpP0, c35]
                refine SC.by_ (hrec_p_parse_parser_loop x33.2 x2.1 a1 _ h37 _ _ _ P0 (by simp only [go_sem, ↓reduceIte, hg0, hg6])) ?_
                simp only [go_sem, ↓reduceIte, Nat.reduceEqDiff, Nat.reduceAdd, reduceCtorEq, pz1 hpP0]
                apply hK
                simp only [thenQ_normal]
                refine SW_ret ?_
                try simp only [thenQ_ret, blockQ_ret]
                obtain rfl := some_eq hy5
                simp only [Sum.elim_inr] at h
                obtain rfl := some_eq h
                refine ⟨by first | exact .inl rfl | exact .inl trivial | exact .inr rfl | exact .inr trivial, ?_⟩
                simp only [go_sem, ↓reduceIte, Nat.reduceEqDiff, Nat.reduceAdd, back_set, back_bump, back_tokset, back_self, back_out hpP0, s_x2]
              · replace hy5 := ite_f c35 hy5
                refine SW_seq ?_
                obtain ⟨x38, h39, hy5⟩ := bind_some hy5
                refine SW_reg fun K hK => ?_
                simp only [go_sem, ↓reduceIte, Nat.reduceEqDiff, Nat.reduceAdd, reduceCtorEq, pz1 hpP0, c35]
                refine SC.by_ (p_parse_parser_plain_ok n x33.2 x2.1 a1 _ h39 _ _ _ P0 (by simp only [go_sem, ↓reduceIte, hg0, hg6])) ?_
                simp only [go_sem, ↓reduceIte, Nat.reduceEqDiff, Nat.reduceAdd, reduceCtorEq, pz1 hpP0]
                apply hK
                simp only [thenQ_normal]
                refine SW_ret ?_
                try simp only [thenQ_ret, blockQ_ret]
                obtain rfl := some_eq hy5
                simp only [Sum.elim_inr] at h
                obtain rfl := some_eq h
                refine ⟨by first | exact .inl rfl | exact .inl trivial | exact .inr rfl | exact .inr trivial, ?_⟩
                simp only [go_sem, ↓reduceIte, Nat.reduceEqDiff, Nat.reduceAdd, back_set, back_bump, back_tokset, back_self, back_out hpP0, s_x2]
  · rintro E40 m41 ⟨y5a, rfl, e42⟩ _
    simp only [Sum.elim_inl] at h
    simp only [thenQ_normal]
    refine SW_seq ?_
    obtain ⟨x43, h44, h⟩ := bind_some h
    refine SW_reg fun K hK => ?_
    simp only [go_sem, ↓reduceIte, Nat.reduceAdd, e42]
    refine SC.by_ (p_parse_parser_need_ok n y5a.1 ([59] : Str) _ h44 _ _ _ P0 (by simp only [go_sem, e42, hg0])) ?_
    simp only [go_sem, Nat.reduceAdd]
    apply hK
    simp only [thenQ_normal]
    refine SW_seq ?_
    refine SW_reg fun K hK => ?_
    simp only [go_sem, ↓reduceIte, Nat.reduceEqDiff, Nat.reduceAdd, pz1 hpP0, e42]
    apply hK
    simp only [thenQ_normal]
    refine SW_ret ?_
    try simp only []
    obtain rfl := some_eq h
    refine ⟨by first | exact .inl rfl | exact .inl trivial | exact .inr rfl | exact .inr trivial, ?_⟩
    simp only [go_sem, ↓reduceIte, Nat.reduceEqDiff, Nat.reduceAdd, back_set, back_out hpP0, e42]

theorem p_parse_parser_choice_b_ok {rec_p_parse_parser_block : T_parse_parser → Int → Option (T_parse_Node × T_parse_parser)} (hrec_p_parse_parser_block : p_parse_parser_block_C rec_p_parse_parser_block) (n : Nat) : p_parse_parser_choice_C (p_parse_parser_choice_b rec_p_parse_parser_block n) := by
  rintro a0 a1 a2 r h q m vs P0 ⟨hv, hmP0, hg0, hg6⟩
  refine SC.weak ?_
  rw [hv]
  refine SC.apart hmP0 fun hpP0 => ?_
  have hmsP0 := set_same hmP0
  try simp only [go_sem] at hmP0 hmsP0
  refine SC_of Tryd.func107 rfl (fun xs w => Tryd.call107 xs w) Tryd.ntmps107 (by kernel_rfl) (congrArg Array.toList Tryd.results107) V.weak (fun _ _ _ => V.weak_ok) ?_
  unfold p_parse_parser_choice_b at h
  refine SW_seq ?_
  refine SW_reg fun K hK => ?_
  simp only [go_sem, Nat.reduceAdd]
  apply hK
  simp only [thenQ_normal]
  refine SW_seq ?_
  obtain ⟨x3, h4, h⟩ := bind_some h
  refine SW_reg fun K hK => ?_
  simp only [go_sem, ↓reduceIte, Nat.reduceEqDiff, Nat.reduceAdd, reduceCtorEq]
  refine SC.by_ (p_parse_parser_expr_ok n a0 (IntKind.i64.wrap (a2 + (1 : Int))) _ h4 _ _ _ P0 (by simp only [go_sem, ↓reduceIte, pz1 hpP0, hmP0, hg0, hg6])) ?_
  simp only [go_sem, ↓reduceIte, Nat.reduceEqDiff, Nat.reduceAdd, Nat.reduceLT, Nat.reduceLeDiff, pz1 hpP0]
  apply hK
  simp only [thenQ_normal]
  refine SW_seq ?_
  obtain ⟨x5, h6, h⟩ := bind_some h
  obtain ⟨f7, h⟩ := need_some h
  refine SW_drawK (tbl := [0, 1, 0, 0, 8, 28, 60, 127, 255, 511]) (ord := [(2, 0), (3, 0), (4, 0), (5, 0), (0, 0), (1, 1), (6, 0), (7, 0), (8, 0), (9, 0)]) 21 rfl (by kernel_rfl) (by kernel_rfl) fun K hK => ?_
  simp only [go_sem, ↓reduceIte, Nat.reduceEqDiff, Nat.reduceAdd, reduceCtorEq]
  refine dcall_of (hrec_p_parse_parser_block x3.2 (IntKind.i64.wrap (a2 + (1 : Int))) _ h6 _ _ _ P0 (by simp only [go_sem, ↓reduceIte, pz1 hpP0, hg0, hg6])) rfl ?_
  simp only [go_sem, ↓reduceIte, Nat.reduceEqDiff, Nat.reduceAdd, Nat.reduceLT, Nat.reduceLeDiff, pz1 hpP0]
  apply hK
  simp only [thenQ_normal]
  refine SW_seq ?_
  refine SW_seq ?_
  obtain ⟨x8, h9, h⟩ := bind_some h
  refine SW_reg fun K hK => ?_
  simp only [go_sem, ↓reduceIte, Nat.reduceAdd, reduceCtorEq]
  refine SC.by_ (p_parse_parser_take_ok n x5.2 ([101, 108, 115, 101] : Str) _ h9 _ _ _ P0 (by simp only [go_sem, ↓reduceIte, pz1 hpP0, hg0])) ?_
  simp only [go_sem, Nat.reduceAdd]
  apply hK
  simp only [thenQ_normal]
  refine SW_if x8.1 (by simp only [go_sem, ↓reduceIte]) (fun c10 => ?_) (fun c10 => ?_)
  · replace h := ite_t c10 h
    obtain ⟨x11, h12, h⟩ := bind_some h
    obtain ⟨f13, h⟩ := need_some h
    have f14 : 1 + 1 + 1 ≤ 1073741824 := by first | omega | (simp only [List.length_append, List.length_cons, List.length_nil] at f13 ⊢; omega)
    refine SW_drawK (tbl := [0, 1, 0, 0, 8, 28, 60, 127, 255, 511]) (ord := [(2, 0), (3, 0), (4, 0), (5, 0), (0, 0), (1, 1), (6, 0), (7, 0), (8, 0), (9, 0)]) 33 rfl (by kernel_rfl) (by kernel_rfl) fun K hK => ?_
    simp only [go_sem, ↓reduceIte, Nat.reduceEqDiff, Nat.reduceAdd, reduceCtorEq, c10]
    refine dcall_of (hrec_p_parse_parser_block x8.2 (IntKind.i64.wrap (a2 + (1 : Int))) _ h12 _ _ _ P0 (by simp only [go_sem, ↓reduceIte, hg0, hg6])) rfl ?_
    simp only [go_sem, ↓reduceIte, Nat.reduceEqDiff, Nat.reduceAdd, Nat.reduceLT, Nat.reduceLeDiff, pz1 hpP0, f14]
    apply hK
    simp only [thenQ_normal]
    refine SW_seq ?_
    refine SW_reg fun K hK => ?_
    simp only [go_sem, ↓reduceIte, Nat.reduceEqDiff, Nat.reduceAdd, pz1 hpP0]
    apply hK
    simp only [thenQ_normal]
    refine SW_ret ?_
    try simp only []
    obtain rfl := some_eq h
    refine ⟨by first | exact .inl rfl | exact .inl trivial | exact .inr rfl | exact .inr trivial, ?_⟩
    simp only [go_sem, ↓reduceIte, Nat.reduceEqDiff, Nat.reduceAdd, back_set, back_bump, back_tokset, back_self, back_out hpP0]
  · replace h := ite_f c10 h
    refine SW_skip ?_
    try simp only [thenQ_normal]
    refine SW_seq ?_
    refine SW_reg fun K hK => ?_
    simp only [go_sem, ↓reduceIte, Nat.reduceEqDiff, Nat.reduceAdd, pz1 hpP0, c10]
    apply hK
    simp only [thenQ_normal]
    refine SW_ret ?_
    try simp only []
    obtain rfl := some_eq h
    refine ⟨by first | exact .inl rfl | exact .inl trivial | exact .inr rfl | exact .inr trivial, ?_⟩
    simp only [go_sem, ↓reduceIte, Nat.reduceEqDiff, Nat.reduceAdd, back_set, back_bump, back_tokset, back_self, back_out hpP0]

theorem p_parse_parser_loop_b_ok {rec_p_parse_parser_block : T_parse_parser → Int → Option (T_parse_Node × T_parse_parser)} (hrec_p_parse_parser_block : p_parse_parser_block_C rec_p_parse_parser_block) (n : Nat) : p_parse_parser_loop_C (p_parse_parser_loop_b rec_p_parse_parser_block n) := by
  rintro a0 a1 a2 r h q m vs P0 ⟨hv, hmP0, hg0, hg6⟩
  refine SC.weak ?_
  rw [hv]
  refine SC.apart hmP0 fun hpP0 => ?_
  have hmsP0 := set_same hmP0
  try simp only [go_sem] at hmP0 hmsP0
  refine SC_of Tryd.func108 rfl (fun xs w => Tryd.call108 xs w) Tryd.ntmps108 (by kernel_rfl) (congrArg Array.toList Tryd.results108) V.weak (fun _ _ _ => V.weak_ok) ?_
  unfold p_parse_parser_loop_b at h
  refine SW_seq ?_
  refine SW_reg fun K hK => ?_
  simp only [go_sem, Nat.reduceAdd]
  apply hK
  simp only [thenQ_normal]
  refine SW_seq ?_
  obtain ⟨x3, h4, h⟩ := bind_some h
  refine SW_reg fun K hK => ?_
  simp only [go_sem, ↓reduceIte, Nat.reduceAdd, reduceCtorEq]
  refine SC.by_ (p_parse_parser_name_ok n a0 _ h4 _ _ _ P0 (by simp only [go_sem, ↓reduceIte, pz1 hpP0, hmP0, hg0])) ?_
  simp only [go_sem, ↓reduceIte, Nat.reduceEqDiff, Nat.reduceAdd, Nat.reduceLeDiff, pz1 hpP0]
  apply hK
  simp only [thenQ_normal]
  refine SW_seq ?_
  obtain ⟨x5, h6, h⟩ := bind_some h
  refine SW_reg fun K hK => ?_
  simp only [go_sem, ↓reduceIte, Nat.reduceAdd, reduceCtorEq]
  refine SC.by_ (p_parse_parser_need_ok n x3.2 ([105, 110] : Str) _ h6 _ _ _ P0 (by simp only [go_sem, ↓reduceIte, pz1 hpP0, hg0])) ?_
  simp only [go_sem, Nat.reduceAdd]
  apply hK
  simp only [thenQ_normal]
  refine SW_seq ?_
  obtain ⟨x7, h8, h⟩ := bind_some h
  refine SW_reg fun K hK => ?_
  simp only [go_sem, ↓reduceIte, Nat.reduceEqDiff, Nat.reduceAdd, reduceCtorEq]
  refine SC.by_ (p_parse_parser_expr_ok n x5 (IntKind.i64.wrap (a2 + (1 : Int))) _ h8 _ _ _ P0 (by simp only [go_sem, ↓reduceIte, hg0, hg6])) ?_
  simp only [go_sem, ↓reduceIte, Nat.reduceEqDiff, Nat.reduceAdd, Nat.reduceLT, Nat.reduceLeDiff, pz1 hpP0]
  apply hK
  simp only [thenQ_normal]
  refine SW_seq ?_
  obtain ⟨x9, h10, h⟩ := bind_some h
  refine SW_reg fun K hK => ?_
  simp only [go_sem, ↓reduceIte, Nat.reduceAdd, reduceCtorEq]
  refine SC.by_ (p_parse_parser_need_ok n x7.2 ([46, 46] : Str) _ h10 _ _ _ P0 (by simp only [go_sem, ↓reduceIte, pz1 hpP0, hg0])) ?_
  simp only [go_sem, Nat.reduceAdd]
  apply hK
  simp only [thenQ_normal]
  refine SW_seq ?_
  obtain ⟨x11, h12, h⟩ := bind_some h
  obtain ⟨f13, h⟩ := need_some h
  refine SW_drawK (tbl := [0, 1, 0, 0, 8, 28, 60, 127, 255, 511]) (ord := [(2, 0), (3, 0), (4, 0), (5, 0), (0, 0), (1, 1), (6, 0), (7, 0), (8, 0), (9, 0)]) 29 rfl (by kernel_rfl) (by kernel_rfl) fun K hK => ?_
  simp only [go_sem, ↓reduceIte, Nat.reduceEqDiff, Nat.reduceAdd, reduceCtorEq]
  refine dcall_of (p_parse_parser_expr_ok n x9 (IntKind.i64.wrap (a2 + (1 : Int))) _ h12 _ _ _ P0 (by simp only [go_sem, ↓reduceIte, hg0, hg6])) rfl ?_
  simp only [go_sem, ↓reduceIte, Nat.reduceEqDiff, Nat.reduceAdd, Nat.reduceLT, Nat.reduceLeDiff, pz1 hpP0]
  apply hK
  simp only [thenQ_normal]
  refine SW_seq ?_
  obtain ⟨x14, h15, h⟩ := bind_some h
  obtain ⟨f16, h⟩ := need_some h
  have f17 : 1 + 1 + 1 ≤ 1073741824 := by first | omega | (simp only [List.length_append, List.length_cons, List.length_nil] at f16 ⊢; omega)
  refine SW_drawK (tbl := [0, 1, 0, 0, 8, 28, 60, 127, 255, 511]) (ord := [(2, 0), (3, 0), (4, 0), (5, 0), (0, 0), (1, 1), (6, 0), (7, 0), (8, 0), (9, 0)]) 39 rfl (by kernel_rfl) (by kernel_rfl) fun K hK => ?_
  simp only [go_sem, ↓reduceIte, Nat.reduceEqDiff, Nat.reduceAdd, reduceCtorEq]
  refine dcall_of (hrec_p_parse_parser_block x11.2 (IntKind.i64.wrap (a2 + (1 : Int))) _ h15 _ _ _ P0 (by simp only [go_sem, ↓reduceIte, pz1 hpP0, hg0, hg6])) rfl ?_
  simp only [go_sem, ↓reduceIte, Nat.reduceEqDiff, Nat.reduceAdd, Nat.reduceLT, Nat.reduceLeDiff, pz1 hpP0, f17]
  apply hK
  simp only [thenQ_normal]
  refine SW_seq ?_
  refine SW_reg fun K hK => ?_
  simp only [go_sem, ↓reduceIte, Nat.reduceEqDiff, Nat.reduceAdd, pz1 hpP0]
  apply hK
  simp only [thenQ_normal]
  refine SW_ret ?_
  try simp only []
  obtain rfl := some_eq h
  refine ⟨by first | exact .inl rfl | exact .inl trivial | exact .inr rfl | exact .inr trivial, ?_⟩
  simp only [go_sem, ↓reduceIte, Nat.reduceEqDiff, Nat.reduceAdd, back_set, back_bump, back_tokset, back_self, back_out hpP0]

theorem p_parse_parser_block_grp_ok : ∀ n, p_parse_parser_block_C (p_parse_parser_block n) ∧ p_parse_parser_statement_C (p_parse_parser_statement n) ∧ p_parse_parser_choice_C (p_parse_parser_choice n) ∧ p_parse_parser_loop_C (p_parse_parser_loop n)
  | 0 => ⟨fun _ _ _ h => none_some_ h, fun _ _ _ h => none_some_ h, fun _ _ _ _ h => none_some_ h, fun _ _ _ _ h => none_some_ h⟩
  | n + 1 =>
    have ih := p_parse_parser_block_grp_ok n
    ⟨p_parse_parser_block_b_ok ih.2.1 n, p_parse_parser_statement_b_ok ih.2.2.1 ih.2.2.2 n, p_parse_parser_choice_b_ok ih.1 n, p_parse_parser_loop_b_ok ih.1 n⟩
theorem p_parse_parser_block_ok (n : Nat) : p_parse_parser_block_C (p_parse_parser_block n) := (p_parse_parser_block_grp_ok n).1
def p_parse_parser_function_C (f : T_parse_parser → Option (T_parse_Node × T_parse_parser)) : Prop := ∀ (a0 : T_parse_parser) (r : (T_parse_Node × T_parse_parser)), f a0 = some r → ∀ (q : Pa) (m : M) (vs : List V) (P0 : Pa), vs.map V.weak1 = [.ptr P0 0] ∧ m.blk P0 = some ((T_parse_parser.C a0)) ∧ m.gl 0 = .eptr [(cA cS g_parse_words)] 0 0 ∧ m.gl 6 = .eptr [(cA (cA cS) g_parse_levels)] 0 0 → SC Tryd.prog 30 vs q m (fun v m' => v = .agg ((T_parse_Node.C r.1)) ∧ m' = (m.set P0 ((T_parse_parser.C r.2))))

theorem p_parse_parser_function_ok (n : Nat) : p_parse_parser_function_C (p_parse_parser_function n) := by
  rintro a0 r h q m vs P0 ⟨hv, hmP0, hg0, hg6⟩
  refine SC.weak ?_
  rw [hv]
  refine SC.apart hmP0 fun hpP0 => ?_
  have hmsP0 := set_same hmP0
  try simp only [go_sem] at hmP0 hmsP0
  refine SC_of Tryd.func30 rfl (fun xs w => Tryd.call30 xs w) Tryd.ntmps30 (by kernel_rfl) (congrArg Array.toList Tryd.results30) V.weak (fun _ _ _ => V.weak_ok) ?_
  unfold p_parse_parser_function at h
  refine SW_seq ?_
  refine SW_reg fun K hK => ?_
  simp only [go_sem]
  apply hK
  simp only [thenQ_normal]
  refine SW_seq ?_
  obtain ⟨x2, h4, h⟩ := bind_some h
  refine SW_reg fun K hK => ?_
  simp only [go_sem, ↓reduceIte, Nat.reduceAdd, reduceCtorEq]
  refine SC.mono (p_parse_parser_node_ok a0 (2 : Int) _ h4 _ _ _ P0 (by simp only [go_sem, ↓reduceIte, pz1 hpP0, hmP0])) ?_
  rintro _ _ ⟨o_x2, j_x2, s_x2, rfl, rfl⟩
  replace s_x2 : q <:+ o_x2 := List.IsSuffix.trans (by simp only [go_sem]) s_x2
  simp only [go_sem, ↓reduceIte, Nat.reduceEqDiff, Nat.reduceAdd]
  apply hK
  simp only [thenQ_normal]
  refine SW_seq ?_
  refine SW_seq ?_
  obtain ⟨x5, h6, h⟩ := bind_some h
  refine SW_reg fun K hK => ?_
  simp only [go_sem, ↓reduceIte, Nat.reduceAdd, reduceCtorEq]
  refine SC.by_ (p_parse_parser_take_ok n x2.2 ([101, 120, 112, 111, 114, 116] : Str) _ h6 _ _ _ P0 (by simp only [go_sem, ↓reduceIte, pz1 hpP0, hg0])) ?_
  simp only [go_sem, Nat.reduceAdd]
  apply hK
  simp only [thenQ_normal]
  refine SW_if x5.1 (by simp only [go_sem, ↓reduceIte]) (fun c7 => ?_) (fun c7 => ?_)
  · replace h := ite_t c7 h
    refine SW_reg fun K hK => ?_
    simp only [go_sem, ↓reduceIte, Nat.reduceEqDiff, Nat.reduceAdd, Nat.reduceLeDiff, pz1 hpP0, c7]
    apply hK
    simp only [thenQ_normal]
    refine SW_seq ?_
    obtain ⟨x8, h9, h⟩ := bind_some h
    refine SW_reg fun K hK => ?_
    simp only [go_sem, ↓reduceIte, Nat.reduceAdd, reduceCtorEq]
    refine SC.by_ (p_parse_parser_need_ok n x5.2 ([102, 110] : Str) _ h9 _ _ _ P0 (by simp only [go_sem, ↓reduceIte, pz1 hpP0, hg0])) ?_
    simp only [go_sem, Nat.reduceAdd]
    apply hK
    simp only [thenQ_normal]
    refine SW_seq ?_
    obtain ⟨x10, h11, h⟩ := bind_some h
    refine SW_reg fun K hK => ?_
    simp only [go_sem, ↓reduceIte, Nat.reduceAdd, reduceCtorEq]
    refine SC.by_ (p_parse_parser_name_ok n x8 _ h11 _ _ _ P0 (by simp only [go_sem, ↓reduceIte, hg0])) ?_
    simp only [go_sem, ↓reduceIte, Nat.reduceEqDiff, Nat.reduceAdd, Nat.reduceLeDiff, pz1 hpP0]
    apply hK
    simp only [thenQ_normal]
    refine SW_seq ?_
    obtain ⟨x12, h13, h⟩ := bind_some h
    refine SW_reg fun K hK => ?_
    simp only [go_sem, ↓reduceIte, Nat.reduceEqDiff, Nat.reduceAdd, reduceCtorEq]
    refine SC.mono (p_parse_parser_list__param_ok n x10.2 _ h13 _ _ _ P0 (by simp only [go_sem, ↓reduceIte, pz1 hpP0, hg0])) ?_
    rintro _ _ ⟨o_x12, j_x12, s_x12, rfl, rfl⟩
    replace s_x12 : q <:+ o_x12 := List.IsSuffix.trans (by simp only [go_sem]) s_x12
    simp only [go_sem, ↓reduceIte, Nat.reduceEqDiff, Nat.reduceAdd, pz1 hpP0]
    apply hK
    simp only [thenQ_normal]
    refine SW_seq ?_
    refine SW_seq ?_
    obtain ⟨x14, h15, h⟩ := bind_some h
    refine SW_reg fun K hK => ?_
    simp only [go_sem, ↓reduceIte, Nat.reduceAdd, reduceCtorEq]
    refine SC.by_ (p_parse_parser_take_ok n x12.2 ([45, 62] : Str) _ h15 _ _ _ P0 (by simp only [go_sem, ↓reduceIte, pz1 hpP0, hg0])) ?_
    simp only [go_sem, Nat.reduceAdd]
    apply hK
    simp only [thenQ_normal]
    refine SW_if x14.1 (by simp only [go_sem, ↓reduceIte]) (fun c16 => ?_) (fun c16 => ?_)
    · replace h := ite_t c16 h
      refine SW_block ?_
      refine SW_seq ?_
      obtain ⟨x17, h18, h⟩ := bind_some h
      refine SW_reg fun K hK => ?_
      simp only [go_sem, ↓reduceIte, Nat.reduceAdd, reduceCtorEq, c16]
      refine SC.by_ (p_parse_parser_take_ok n x14.2 ([117, 51, 50] : Str) _ h18 _ _ _ P0 (by simp only [go_sem, ↓reduceIte, hg0])) ?_
      simp only [go_sem, ↓reduceIte, Nat.reduceAdd]
      apply hK
      simp only [thenQ_normal]
      refine SW_if x17.1 (by simp only [go_sem, ↓reduceIte]) (fun c19 => ?_) (fun c19 => ?_)
      · replace h := ite_t c19 h
        refine SW_reg fun K hK => ?_
        simp only [go_sem, ↓reduceIte, Nat.reduceEqDiff, Nat.reduceAdd, Nat.reduceLeDiff, pz1 hpP0, c19]
        apply hK
        simp only [thenQ_normal, blockQ_normal]
        refine SW_seq ?_
        obtain ⟨x20, h21, h⟩ := bind_some h
        obtain ⟨f22, h⟩ := need_some h
        have f23 : x12.1.length + 1 ≤ 1073741824 := by first | omega | (simp only [List.length_append, List.length_cons, List.length_nil] at f22 ⊢; omega)
        have f24 : x12.1.length ≤ 1073741823 := by first | omega | (simp only [List.length_append, List.length_cons, List.length_nil] at f22 ⊢; omega)
        refine SW_drawK (tbl := [0, 1, 0, 4, 12, 31, 63, 127]) (ord := [(2, 0), (3, 0), (0, 0), (1, 1), (4, 0), (5, 0), (6, 0), (7, 0)]) 39 rfl (by kernel_rfl) (by kernel_rfl) fun K hK => ?_
        simp only [go_sem, ↓reduceIte, Nat.reduceAdd, reduceCtorEq]
        refine dcall_of (p_parse_parser_block_ok n x17.2 (1 : Int) _ h21 _ _ _ P0 (by simp only [go_sem, ↓reduceIte, pz1 hpP0, hg0, hg6])) rfl ?_
        simp only [go_sem, ↓reduceIte, Nat.reduceEqDiff, Nat.reduceAdd, Nat.reduceLT, Nat.reduceLeDiff, pz1 hpP0, f23]
        apply hK
        simp only [thenQ_normal]
        refine SW_seq ?_
        refine SW_reg fun K hK => ?_
        simp only [go_sem, ↓reduceIte, Nat.reduceEqDiff, Nat.reduceAdd, reduceCtorEq, pz1 hpP0]
        apply hK
        simp only [thenQ_normal]
        refine SW_ret ?_
        try simp only []
        obtain rfl := some_eq h
        refine ⟨by first | exact .inl rfl | exact .inl trivial | exact .inr rfl | exact .inr trivial, ?_⟩
        simp only [go_sem, ↓reduceIte, Nat.reduceEqDiff, Nat.reduceAdd, back_set, back_bump, back_tokset, back_self, back_out hpP0, s_x2, s_x12]
      · replace h := ite_f c19 h
        refine SW_seq ?_
        obtain ⟨x25, h26, h⟩ := bind_some h
        refine SW_reg fun K hK => ?_
        simp only [go_sem, ↓reduceIte, Nat.reduceAdd, reduceCtorEq, c19]
        refine SC.by_ (p_parse_parser_need_ok n x17.2 ([117, 54, 52] : Str) _ h26 _ _ _ P0 (by simp only [go_sem, ↓reduceIte, hg0])) ?_
        simp only [go_sem, Nat.reduceAdd]
        apply hK
        simp only [thenQ_normal]
        refine SW_reg fun K hK => ?_
        simp only [go_sem, ↓reduceIte, Nat.reduceEqDiff, Nat.reduceAdd, Nat.reduceLeDiff, pz1 hpP0]
        apply hK
        simp only [thenQ_normal, blockQ_normal]
        refine SW_seq ?_
        obtain ⟨x27, h28, h⟩ := bind_some h
        obtain ⟨f29, h⟩ := need_some h
        have f30 : x12.1.length + 1 ≤ 1073741824 := by first | omega | (simp only [List.length_append, List.length_cons, List.length_nil] at f29 ⊢; omega)
        have f31 : x12.1.length ≤ 1073741823 := by first | omega | (simp only [List.length_append, List.length_cons, List.length_nil] at f29 ⊢; omega)
        refine SW_drawK (tbl := [0, 1, 0, 4, 12, 31, 63, 127]) (ord := [(2, 0), (3, 0), (0, 0), (1, 1), (4, 0), (5, 0), (6, 0), (7, 0)]) 41 rfl (by kernel_rfl) (by kernel_rfl) fun K hK => ?_
        simp only [go_sem, ↓reduceIte, Nat.reduceAdd, reduceCtorEq]
        refine dcall_of (p_parse_parser_block_ok n x25 (1 : Int) _ h28 _ _ _ P0 (by simp only [go_sem, ↓reduceIte, pz1 hpP0, hg0, hg6])) rfl ?_
        simp only [go_sem, ↓reduceIte, Nat.reduceEqDiff, Nat.reduceAdd, Nat.reduceLT, Nat.reduceLeDiff, pz1 hpP0, f30]
        apply hK
        simp only [thenQ_normal]
        refine SW_seq ?_
        refine SW_reg fun K hK => ?_
        simp only [go_sem, ↓reduceIte, Nat.reduceEqDiff, Nat.reduceAdd, reduceCtorEq, pz1 hpP0]
        apply hK
        simp only [thenQ_normal]
        refine SW_ret ?_
        try simp only []
        obtain rfl := some_eq h
        refine ⟨by first | exact .inl rfl | exact .inl trivial | exact .inr rfl | exact .inr trivial, ?_⟩
        simp only [go_sem, ↓reduceIte, Nat.reduceEqDiff, Nat.reduceAdd, back_set, back_bump, back_tokset, back_self, back_out hpP0, s_x2, s_x12]
    · replace h := ite_f c16 h
      refine SW_skip ?_
      try simp only [thenQ_normal]
      refine SW_seq ?_
      obtain ⟨x32, h33, h⟩ := bind_some h
      obtain ⟨f34, h⟩ := need_some h
      have f35 : x12.1.length + 1 ≤ 1073741824 := by first | omega | (simp only [List.length_append, List.length_cons, List.length_nil] at f34 ⊢; omega)
      have f36 : x12.1.length ≤ 1073741823 := by first | omega | (simp only [List.length_append, List.length_cons, List.length_nil] at f34 ⊢; omega)
      refine SW_drawK (tbl := [0, 1, 0, 4, 12, 31, 63, 127]) (ord := [(2, 0), (3, 0), (0, 0), (1, 1), (4, 0), (5, 0), (6, 0), (7, 0)]) 31 rfl (by kernel_rfl) (by kernel_rfl) fun K hK => ?_
      simp only [go_sem, ↓reduceIte, Nat.reduceAdd, reduceCtorEq, c16]
      refine dcall_of (p_parse_parser_block_ok n x14.2 (1 : Int) _ h33 _ _ _ P0 (by simp only [go_sem, ↓reduceIte, hg0, hg6])) rfl ?_
      simp only [go_sem, ↓reduceIte, Nat.reduceEqDiff, Nat.reduceAdd, Nat.reduceLT, Nat.reduceLeDiff, pz1 hpP0, f35]
      apply hK
      simp only [thenQ_normal]
      refine SW_seq ?_
      refine SW_reg fun K hK => ?_
      simp only [go_sem, ↓reduceIte, Nat.reduceEqDiff, Nat.reduceAdd, reduceCtorEq, pz1 hpP0]
      apply hK
      simp only [thenQ_normal]
      refine SW_ret ?_
      try simp only []
      obtain rfl := some_eq h
      refine ⟨by first | exact .inl rfl | exact .inl trivial | exact .inr rfl | exact .inr trivial, ?_⟩
      simp only [go_sem, ↓reduceIte, Nat.reduceEqDiff, Nat.reduceAdd, back_set, back_bump, back_tokset, back_self, back_out hpP0, s_x2, s_x12]
  · replace h := ite_f c7 h
    refine SW_skip ?_
    try simp only [thenQ_normal]
    refine SW_seq ?_
    obtain ⟨x37, h38, h⟩ := bind_some h
    refine SW_reg fun K hK => ?_
    simp only [go_sem, ↓reduceIte, Nat.reduceAdd, reduceCtorEq, c7]
    refine SC.by_ (p_parse_parser_need_ok n x5.2 ([102, 110] : Str) _ h38 _ _ _ P0 (by simp only [go_sem, ↓reduceIte, hg0])) ?_
    simp only [go_sem, Nat.reduceAdd]
    apply hK
    simp only [thenQ_normal]
    refine SW_seq ?_
    obtain ⟨x39, h40, h⟩ := bind_some h
    refine SW_reg fun K hK => ?_
    simp only [go_sem, ↓reduceIte, Nat.reduceAdd, reduceCtorEq]
    refine SC.by_ (p_parse_parser_name_ok n x37 _ h40 _ _ _ P0 (by simp only [go_sem, ↓reduceIte, hg0])) ?_
    simp only [go_sem, ↓reduceIte, Nat.reduceEqDiff, Nat.reduceAdd, Nat.reduceLeDiff, pz1 hpP0]
    apply hK
    simp only [thenQ_normal]
    refine SW_seq ?_
    obtain ⟨x41, h42, h⟩ := bind_some h
    refine SW_reg fun K hK => ?_
    simp only [go_sem, ↓reduceIte, Nat.reduceEqDiff, Nat.reduceAdd, reduceCtorEq]
    refine SC.mono (p_parse_parser_list__param_ok n x39.2 _ h42 _ _ _ P0 (by simp only [go_sem, ↓reduceIte, pz1 hpP0, hg0])) ?_
    rintro _ _ ⟨o_x41, j_x41, s_x41, rfl, rfl⟩
    replace s_x41 : q <:+ o_x41 := List.IsSuffix.trans (by simp only [go_sem]) s_x41
    simp only [go_sem, ↓reduceIte, Nat.reduceEqDiff, Nat.reduceAdd, pz1 hpP0]
    apply hK
    simp only [thenQ_normal]
    refine SW_seq ?_
    refine SW_seq ?_
    obtain ⟨x43, h44, h⟩ := bind_some h
    refine SW_reg fun K hK => ?_
    simp only [go_sem, ↓reduceIte, Nat.reduceAdd, reduceCtorEq]
    refine SC.by_ (p_parse_parser_take_ok n x41.2 ([45, 62] : Str) _ h44 _ _ _ P0 (by simp only [go_sem, ↓reduceIte, pz1 hpP0, hg0])) ?_
    simp only [go_sem, Nat.reduceAdd]
    apply hK
    simp only [thenQ_normal]
    refine SW_if x43.1 (by simp only [go_sem, ↓reduceIte]) (fun c45 => ?_) (fun c45 => ?_)
    · replace h := ite_t c45 h
      refine SW_block ?_
      refine SW_seq ?_
      obtain ⟨x46, h47, h⟩ := bind_some h
      refine SW_reg fun K hK => ?_
      simp only [go_sem, ↓reduceIte, Nat.reduceAdd, reduceCtorEq, c45]
      refine SC.by_ (p_parse_parser_take_ok n x43.2 ([117, 51, 50] : Str) _ h47 _ _ _ P0 (by simp only [go_sem, ↓reduceIte, hg0])) ?_
      simp only [go_sem, ↓reduceIte, Nat.reduceAdd]
      apply hK
      simp only [thenQ_normal]
      refine SW_if x46.1 (by simp only [go_sem, ↓reduceIte]) (fun c48 => ?_) (fun c48 => ?_)
      · replace h := ite_t c48 h
        refine SW_reg fun K hK => ?_
        simp only [go_sem, ↓reduceIte, Nat.reduceEqDiff, Nat.reduceAdd, Nat.reduceLeDiff, pz1 hpP0, c48]
        apply hK
        simp only [thenQ_normal, blockQ_normal]
        refine SW_seq ?_
        obtain ⟨x49, h50, h⟩ := bind_some h
        obtain ⟨f51, h⟩ := need_some h
        have f52 : x41.1.length + 1 ≤ 1073741824 := by first | omega | (simp only [List.length_append, List.length_cons, List.length_nil] at f51 ⊢; omega)
        have f53 : x41.1.length ≤ 1073741823 := by first | omega | (simp only [List.length_append, List.length_cons, List.length_nil] at f51 ⊢; omega)
        refine SW_drawK (tbl := [0, 1, 0, 4, 12, 31, 63, 127]) (ord := [(2, 0), (3, 0), (0, 0), (1, 1), (4, 0), (5, 0), (6, 0), (7, 0)]) 37 rfl (by kernel_rfl) (by kernel_rfl) fun K hK => ?_
        simp only [go_sem, ↓reduceIte, Nat.reduceAdd, reduceCtorEq]
        refine dcall_of (p_parse_parser_block_ok n x46.2 (1 : Int) _ h50 _ _ _ P0 (by simp only [go_sem, ↓reduceIte, pz1 hpP0, hg0, hg6])) rfl ?_
        simp only [go_sem, ↓reduceIte, Nat.reduceEqDiff, Nat.reduceAdd, Nat.reduceLT, Nat.reduceLeDiff, pz1 hpP0, f52]
        apply hK
        simp only [thenQ_normal]
        refine SW_seq ?_
        refine SW_reg fun K hK => ?_
        simp only [go_sem, ↓reduceIte, Nat.reduceEqDiff, Nat.reduceAdd, reduceCtorEq, pz1 hpP0]
        apply hK
        simp only [thenQ_normal]
        refine SW_ret ?_
        try simp only []
        obtain rfl := some_eq h
        refine ⟨by first | exact .inl rfl | exact .inl trivial | exact .inr rfl | exact .inr trivial, ?_⟩
        simp only [go_sem, ↓reduceIte, Nat.reduceEqDiff, Nat.reduceAdd, back_set, back_bump, back_tokset, back_self, back_out hpP0, s_x2, s_x41]
      · replace h := ite_f c48 h
        refine SW_seq ?_
        obtain ⟨x54, h55, h⟩ := bind_some h
        refine SW_reg fun K hK => ?_
        simp only [go_sem, ↓reduceIte, Nat.reduceAdd, reduceCtorEq, c48]
        refine SC.by_ (p_parse_parser_need_ok n x46.2 ([117, 54, 52] : Str) _ h55 _ _ _ P0 (by simp only [go_sem, ↓reduceIte, hg0])) ?_
        simp only [go_sem, Nat.reduceAdd]
        apply hK
        simp only [thenQ_normal]
        refine SW_reg fun K hK => ?_
        simp only [go_sem, ↓reduceIte, Nat.reduceEqDiff, Nat.reduceAdd, Nat.reduceLeDiff, pz1 hpP0]
        apply hK
        simp only [thenQ_normal, blockQ_normal]
        refine SW_seq ?_
        obtain ⟨x56, h57, h⟩ := bind_some h
        obtain ⟨f58, h⟩ := need_some h
        have f59 : x41.1.length + 1 ≤ 1073741824 := by first | omega | (simp only [List.length_append, List.length_cons, List.length_nil] at f58 ⊢; omega)
        have f60 : x41.1.length ≤ 1073741823 := by first | omega | (simp only [List.length_append, List.length_cons, List.length_nil] at f58 ⊢; omega)
        refine SW_drawK (tbl := [0, 1, 0, 4, 12, 31, 63, 127]) (ord := [(2, 0), (3, 0), (0, 0), (1, 1), (4, 0), (5, 0), (6, 0), (7, 0)]) 39 rfl (by kernel_rfl) (by kernel_rfl) fun K hK => ?_
        simp only [go_sem, ↓reduceIte, Nat.reduceAdd, reduceCtorEq]
        refine dcall_of (p_parse_parser_block_ok n x54 (1 : Int) _ h57 _ _ _ P0 (by simp only [go_sem, ↓reduceIte, pz1 hpP0, hg0, hg6])) rfl ?_
        simp only [go_sem, ↓reduceIte, Nat.reduceEqDiff, Nat.reduceAdd, Nat.reduceLT, Nat.reduceLeDiff, pz1 hpP0, f59]
        apply hK
        simp only [thenQ_normal]
        refine SW_seq ?_
        refine SW_reg fun K hK => ?_
        simp only [go_sem, ↓reduceIte, Nat.reduceEqDiff, Nat.reduceAdd, reduceCtorEq, pz1 hpP0]
        apply hK
        simp only [thenQ_normal]
        refine SW_ret ?_
        try simp only []
        obtain rfl := some_eq h
        refine ⟨by first | exact .inl rfl | exact .inl trivial | exact .inr rfl | exact .inr trivial, ?_⟩
        simp only [go_sem, ↓reduceIte, Nat.reduceEqDiff, Nat.reduceAdd, back_set, back_bump, back_tokset, back_self, back_out hpP0, s_x2, s_x41]
    · replace h := ite_f c45 h
      refine SW_skip ?_
      try simp only [thenQ_normal]
      refine SW_seq ?_
      obtain ⟨x61, h62, h⟩ := bind_some h
      obtain ⟨f63, h⟩ := need_some h
      have f64 : x41.1.length + 1 ≤ 1073741824 := by first | omega | (simp only [List.length_append, List.length_cons, List.length_nil] at f63 ⊢; omega)
      have f65 : x41.1.length ≤ 1073741823 := by first | omega | (simp only [List.length_append, List.length_cons, List.length_nil] at f63 ⊢; omega)
      refine SW_drawK (tbl := [0, 1, 0, 4, 12, 31, 63, 127]) (ord := [(2, 0), (3, 0), (0, 0), (1, 1), (4, 0), (5, 0), (6, 0), (7, 0)]) 29 rfl (by kernel_rfl) (by kernel_rfl) fun K hK => ?_
      simp only [go_sem, ↓reduceIte, Nat.reduceAdd, reduceCtorEq, c45]
      refine dcall_of (p_parse_parser_block_ok n x43.2 (1 : Int) _ h62 _ _ _ P0 (by simp only [go_sem, ↓reduceIte, hg0, hg6])) rfl ?_
      simp only [go_sem, ↓reduceIte, Nat.reduceEqDiff, Nat.reduceAdd, Nat.reduceLT, Nat.reduceLeDiff, pz1 hpP0, f64]
      apply hK
      simp only [thenQ_normal]
      refine SW_seq ?_
      refine SW_reg fun K hK => ?_
      simp only [go_sem, ↓reduceIte, Nat.reduceEqDiff, Nat.reduceAdd, reduceCtorEq, pz1 hpP0]
      apply hK
      simp only [thenQ_normal]
      refine SW_ret ?_
      try simp only []
      obtain rfl := some_eq h
      refine ⟨by first | exact .inl rfl | exact .inl trivial | exact .inr rfl | exact .inr trivial, ?_⟩
      simp only [go_sem, ↓reduceIte, Nat.reduceEqDiff, Nat.reduceAdd, back_set, back_bump, back_tokset, back_self, back_out hpP0, s_x2, s_x41]

end Go.Proofs.YtolhahlnccekcaaDoor.Abs
