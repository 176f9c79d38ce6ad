/-
  Parts of the parser's laws that are used further on: the flat tree, sizes, counts, and the loops over few words told exactly.
-/
import Derived.Test.YtolhahlnccekcaaDoorPsPr3
namespace Go.Proofs.YtolhahlnccekcaaDoor.Abs
open Go.RowKit
set_option linter.unusedVariables false
set_option linter.unusedSimpArgs false
mutual
def flatN : T_parse_Node → List T_remontoireref10_N
  | ⟨k, a, t, n, l⟩ => ⟨k, a, t, n, l.length⟩ :: flatL l
def flatL : List T_parse_Node → List T_remontoireref10_N
  | [] => []
  | x :: l => flatN x ++ flatL l
end
theorem flatN_eq (x : T_parse_Node) : flatN x = ⟨x.Kind_, x.At_, x.Text_, x.Num_, x.List_.length⟩ :: flatL x.List_ := by
  cases x
  rw [flatN]
theorem flatN_mk (k a : Int) (t : Str) (n : Int) (l : List T_parse_Node) : flatN ⟨k, a, t, n, l⟩ = ⟨k, a, t, n, l.length⟩ :: flatL l := by rw [flatN]
theorem flatL_nil : flatL [] = [] := by rw [flatL]
theorem flatL_cons (x : T_parse_Node) (l : List T_parse_Node) : flatL (x :: l) = flatN x ++ flatL l := by rw [flatL]
theorem flatL_app (l l' : List T_parse_Node) : flatL (l ++ l') = flatL l ++ flatL l' := by
  induction l with
  | nil => rw [flatL_nil]; rfl
  | cons x l ih => rw [List.cons_append, flatL_cons, flatL_cons, ih, List.append_assoc]
def sz (x : T_parse_Node) : Int := (flatN x).length
def szL (l : List T_parse_Node) : Int := (flatL l).length
theorem sz_eq (x : T_parse_Node) : sz x = 1 + szL x.List_ := by unfold sz szL; rw [flatN_eq, List.length_cons]; omega
theorem szL_nil : szL [] = 0 := by unfold szL; rw [flatL_nil]; rfl
theorem szL_cons (x : T_parse_Node) (l : List T_parse_Node) : szL (x :: l) = sz x + szL l := by unfold szL sz; rw [flatL_cons, List.length_append]; omega
theorem szL_app (l l' : List T_parse_Node) : szL (l ++ l') = szL l + szL l' := by unfold szL; rw [flatL_app, List.length_append]; omega
theorem szL_ge (l : List T_parse_Node) : (l.length : Int) ≤ szL l := by
  induction l with
  | nil => rw [szL_nil]; exact Int.le_refl _
  | cons x l ih => have := sz_eq x; have h2 : 0 ≤ szL x.List_ := by unfold szL; omega
                   rw [szL_cons, List.length_cons]; omega
theorem sz_pos (x : T_parse_Node) : 1 ≤ sz x := by have := sz_eq x; have h2 : 0 ≤ szL x.List_ := by unfold szL; omega
                                                   omega
theorem sz_mk (k a : Int) (t : Str) (u : Int) (l : List T_parse_Node) : sz ⟨k, a, t, u, l⟩ = 1 + szL l := sz_eq _
theorem szL_1 (x : T_parse_Node) : szL [x] = sz x := by rw [szL_cons, szL_nil]; omega
theorem szL_2 (x y : T_parse_Node) : szL [x, y] = sz x + sz y := by rw [szL_cons, szL_1]
theorem szL_3 (x y z : T_parse_Node) : szL [x, y, z] = sz x + sz y + sz z := by rw [szL_cons, szL_2]; omega
def tailP (n : Nat) (q : T_parse_parser) (at0 n0 n2 n4 : Int) : Option (T_parse_Node × T_parse_parser) :=
  (p_parse_parser_need n q ([102, 110] : Str)).bind fun x8 =>
  (p_parse_parser_name n x8).bind fun x10 =>
  (p_parse_parser_list__param n x10.2).bind fun x12 =>
  (p_parse_parser_take n x12.2 ([45, 62] : Str)).bind fun x14 =>
  if x14.1 = true then
    (p_parse_parser_take n x14.2 ([117, 51, 50] : Str)).bind fun x17 =>
    if x17.1 = true then
      (p_parse_parser_block n x17.2 (1 : Int)).bind fun x20 =>
      need (x12.1.length + [x20.1].length ≤ 1073741824) <|
      some (⟨2, at0, x10.1, n2, x12.1 ++ [x20.1]⟩, x20.2)
    else
      (p_parse_parser_need n x17.2 ([117, 54, 52] : Str)).bind fun x25 =>
      (p_parse_parser_block n x25 (1 : Int)).bind fun x27 =>
      need (x12.1.length + [x27.1].length ≤ 1073741824) <|
      some (⟨2, at0, x10.1, n4, x12.1 ++ [x27.1]⟩, x27.2)
  else
    (p_parse_parser_block n x14.2 (1 : Int)).bind fun x32 =>
    need (x12.1.length + [x32.1].length ≤ 1073741824) <|
    some (⟨2, at0, x10.1, n0, x12.1 ++ [x32.1]⟩, x32.2)
def tailP' (n : Nat) (q : T_parse_parser) (x : T_parse_Node) (n0 n2 n4 : Int) : Option (T_parse_Node × T_parse_parser) :=
  (p_parse_parser_need n q ([102, 110] : Str)).bind fun x8 =>
  (p_parse_parser_name n x8).bind fun x10 =>
  (p_parse_parser_list__param n x10.2).bind fun x12 =>
  (p_parse_parser_take n x12.2 ([45, 62] : Str)).bind fun x14 =>
  if x14.1 = true then
    (p_parse_parser_take n x14.2 ([117, 51, 50] : Str)).bind fun x17 =>
    if x17.1 = true then
      (p_parse_parser_block n x17.2 (1 : Int)).bind fun x20 =>
      need (x12.1.length + [x20.1].length ≤ 1073741824) <|
      some ({ x with Text_ := x10.1, Num_ := n2, List_ := x12.1 ++ [x20.1] }, x20.2)
    else
      (p_parse_parser_need n x17.2 ([117, 54, 52] : Str)).bind fun x25 =>
      (p_parse_parser_block n x25 (1 : Int)).bind fun x27 =>
      need (x12.1.length + [x27.1].length ≤ 1073741824) <|
      some ({ x with Text_ := x10.1, Num_ := n4, List_ := x12.1 ++ [x27.1] }, x27.2)
  else
    (p_parse_parser_block n x14.2 (1 : Int)).bind fun x32 =>
    need (x12.1.length + [x32.1].length ≤ 1073741824) <|
    some ({ x with Text_ := x10.1, Num_ := n0, List_ := x12.1 ++ [x32.1] }, x32.2)
theorem function_def (n : Nat) (p : T_parse_parser) : p_parse_parser_function n p = ((p_parse_parser_node p (2 : Int)).bind fun x2 => (p_parse_parser_take n x2.2 ([101, 120, 112, 111, 114, 116] : Str)).bind fun x5 =>
    if x5.1 = true then tailP' n x5.2 x2.1 1 (orK .u32 (1 : Int) (2 : Int)) (orK .u32 (1 : Int) (4 : Int)) else tailP' n x5.2 x2.1 x2.1.Num_ (orK .u32 x2.1.Num_ (2 : Int)) (orK .u32 x2.1.Num_ (4 : Int))) := rfl
theorem sz_mem {l : List T_parse_Node} {k : T_parse_Node} (h : k ∈ l) : sz k ≤ szL l := by
  obtain ⟨a, b, rfl⟩ := List.append_of_mem h
  rw [szL_app, szL_cons]
  have h1 : 0 ≤ szL a := by unfold szL; omega
  have h2 : 0 ≤ szL b := by unfold szL; omega
  omega
theorem flat_l1 {f : T_parse_Node → Int → Option (List T_remontoireref10_N)} {x : T_parse_Node} {d : Int} (hf : ∀ k ∈ x.List_, f k (IntKind.i64.wrap (d + 1)) = some (flatN k)) (hl : x.List_.length ≤ 1073741824) :
    ∀ (c v : Nat) (acc : List T_remontoireref10_N), x.List_.length < v + c → v ≤ x.List_.length → acc.length + szL (x.List_.drop v) ≤ 1073741824 → remontoirelaw10_flat_l1 f x d c acc v = some (acc ++ flatL (x.List_.drop v)) := by
  intro c
  induction c with
  | zero => intro v acc h1 h2; omega
  | succ c ih =>
    intro v acc h1 h2 h3
    unfold remontoirelaw10_flat_l1
    by_cases h4 : v < x.List_.length
    · have hd := List.drop_eq_getElem_cons h4
      have hi : idxL x.List_ v = some x.List_[v] := by
        unfold idxL
        rw [if_pos (by omega), Int.toNat_natCast, List.getElem?_eq_getElem h4]
      have hz : (flatN x.List_[v]).length = sz x.List_[v] := rfl
      rw [hd, szL_cons] at h3
      have h5 : 0 ≤ szL (x.List_.drop (v + 1)) := by unfold szL; omega
      rw [if_pos (by simp only [decide_eq_true_eq]; omega), hi, Option.bind_some, hf _ (List.getElem_mem h4), Option.bind_some, need_of (by omega), wrap64 (n := (v : Int) + 1) (by omega) (by omega)]
      rw [show ((v : Int) + 1) = ((v + 1 : Nat) : Int) by omega, ih (v + 1) _ (by omega) (by omega) (by rw [List.length_append]; omega), hd, flatL_cons, List.append_assoc]
    · rw [if_neg (by simp only [decide_eq_true_eq]; omega), List.drop_eq_nil_of_le (by omega), flatL_nil, List.append_nil]
theorem flat_eq : ∀ (n : Nat) (x : T_parse_Node) (d : Int), sz x < n → 0 ≤ d → d + sz x ≤ 20000 → remontoirelaw10_flat n x d = some (flatN x) := by
  intro n
  induction n with
  | zero => intro x d h; have := sz_pos x; omega
  | succ n ih =>
    intro x d h h0 hd
    show remontoirelaw10_flat_b (remontoirelaw10_flat n) n x d = _
    unfold remontoirelaw10_flat_b
    have h1 := sz_eq x
    have h2 := szL_ge x.List_
    rw [if_neg (by simp only [decide_eq_true_eq]; omega)]
    have h3 := flat_l1 (f := remontoirelaw10_flat n) (x := x) (d := d) (fun k hk => by
      have := sz_mem hk
      have := sz_pos k
      rw [wrap64 (by omega) (by omega)]
      exact ih k (d + 1) (by omega) (by omega) (by omega)) (by omega) n 0 [(T_remontoireref10_N.mk x.Kind_ x.At_ x.Text_ x.Num_ (x.List_.length : Int))] (by omega) (by omega) (by simp only [List.length_singleton, List.drop_zero]; omega)
    rw [show ((0 : Nat) : Int) = 0 from rfl] at h3
    rw [h3, Option.bind_some, List.drop_zero, flatN_eq]; rfl
section
variable {n : Nat} {p : T_parse_parser}
theorem takeP_f {s : Str} (h : isB p s = false) : takeP p s = p := by unfold takeP; rw [h]; rfl
theorem operand_l1_eq (h : PI p) (hn : 13 < n) {fo : T_parse_parser → Int → Option (T_parse_Node × T_parse_parser)} {a : Int} {c : Nat} {x y : T_parse_Node} : p_parse_parser_operand_l1 fo n a (c + 3) 0 p x y =
    if isB p [126] = true then (fo (takeP p [126]) (IntKind.i64.wrap (a + 1))).bind fun r => some (.inr ({ x with Kind_ := 18, Text_ := [126], List_ := [r.1] }, r.2))
    else if isB p [45] = true then (fo (takeP p [45]) (IntKind.i64.wrap (a + 1))).bind fun r => some (.inr ({ x with Kind_ := 18, Text_ := [45], List_ := [r.1] }, r.2))
    else some (.inl (p, x, y)) := by
  have w1 : IntKind.i64.wrap ((0 : Int) + 1) = 1 := by decide
  have w2 : IntKind.i64.wrap ((1 : Int) + 1) = 2 := by decide
  have i0 : idxL p_parse_parser_operand_k1 0 = some [126] := rfl
  have i1 : idxL p_parse_parser_operand_k1 1 = some [45] := rfl
  unfold p_parse_parser_operand_l1
  rw [if_pos (by decide), i0, Option.bind_some, take_eq h hn, Option.bind_some, w1]
  by_cases h1 : isB p [126] = true
  · rw [if_pos h1, if_pos h1]
  · rw [if_neg h1, if_neg h1, takeP_f (by simpa using h1)]
    unfold p_parse_parser_operand_l1
    rw [if_pos (by decide), i1, Option.bind_some, take_eq h hn, Option.bind_some, w2]
    by_cases h2 : isB p [45] = true
    · rw [if_pos h2, if_pos h2]
    · rw [if_neg h2, if_neg h2, takeP_f (by simpa using h2)]
      unfold p_parse_parser_operand_l1
      rw [if_neg (by decide)]
theorem param_l1_eq (h : PI p) (hn : 13 < n) {c : Nat} {x y : T_parse_Node} : p_parse_parser_param_l1 n (c + 4) 0 p x y =
    some (if isB p [112, 117, 98] = true then .inr ({ y with Num_ := 1 }, takeP p [112, 117, 98]) else if isB p [117, 51, 50] = true then .inr ({ y with Num_ := 2 }, takeP p [117, 51, 50]) else if isB p [117, 54, 52] = true then .inr ({ y with Num_ := 3 }, takeP p [117, 54, 52]) else .inl (p, x, y)) := by
  have i0 : idxL p_parse_parser_param_k1 0 = some [112, 117, 98] := rfl
  have i1 : idxL p_parse_parser_param_k1 1 = some [117, 51, 50] := rfl
  have i2 : idxL p_parse_parser_param_k1 2 = some [117, 54, 52] := rfl
  have w0 : IntKind.i64.wrap ((0 : Int) + 1) = 1 := by decide
  have w1 : IntKind.i64.wrap ((1 : Int) + 1) = 2 := by decide
  have w2 : IntKind.i64.wrap ((2 : Int) + 1) = 3 := by decide
  have u0 : IntKind.u32.wrap (IntKind.i64.wrap ((1 : Int) + 0)) = 1 := by decide
  have u1 : IntKind.u32.wrap 2 = 2 := by decide
  have u2 : IntKind.u32.wrap (IntKind.i64.wrap ((1 : Int) + 2)) = 3 := by decide
  unfold p_parse_parser_param_l1
  rw [if_pos (by decide), i0, Option.bind_some, take_eq h hn, Option.bind_some, w0, u0]
  by_cases h0 : isB p [112, 117, 98] = true
  · rw [if_pos h0, if_pos h0]
  rw [if_neg h0, if_neg h0, takeP_f (by simpa using h0)]
  unfold p_parse_parser_param_l1
  rw [if_pos (by decide), i1, Option.bind_some, take_eq h hn, Option.bind_some, w1, u1]
  by_cases h1 : isB p [117, 51, 50] = true
  · rw [if_pos h1, if_pos h1]
  rw [if_neg h1, if_neg h1, takeP_f (by simpa using h1)]
  unfold p_parse_parser_param_l1
  rw [if_pos (by decide), i2, Option.bind_some, take_eq h hn, Option.bind_some, w2, u2]
  by_cases h2 : isB p [117, 54, 52] = true
  · rw [if_pos h2, if_pos h2]
  rw [if_neg h2, if_neg h2, takeP_f (by simpa using h2)]
  unfold p_parse_parser_param_l1
  rw [if_neg (by decide)]
end
end Go.Proofs.YtolhahlnccekcaaDoor.Abs
