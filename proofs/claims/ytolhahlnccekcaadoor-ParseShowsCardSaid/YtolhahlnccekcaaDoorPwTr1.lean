/-
  ParseTrees, the lexer: the document's tokens are the program's.
-/
import Derived.Test.YtolhahlnccekcaaDoorPwTot
import Derived.KernelRfl
import Derived.Test.YtolhahlnccekcaaDoorPwPar1
namespace Go.Proofs.YtolhahlnccekcaaDoor.Abs
open Go.RowKit
set_option linter.unusedVariables false
set_option linter.unusedSimpArgs false
end Go.Proofs.YtolhahlnccekcaaDoor.Abs
namespace Go.Proofs.YtolhahlnccekcaaDoor.Abs
open Go.RowKit
set_option linter.unusedVariables false
set_option linter.unusedSimpArgs false
def cT (t : T_lex_Token) : T_remontoireref09_T := ⟨t.Kind_, t.At_, t.Text_, t.Num_⟩
end Go.Proofs.YtolhahlnccekcaaDoor.Abs
namespace Go.Proofs.YtolhahlnccekcaaDoor.Abs
open Go.RowKit
set_option linter.unusedVariables false
set_option linter.unusedSimpArgs false
def tokP (p : T_parse_parser) : T_lex_Token := (p.l_[p.at_.toNat]?).getD ⟨0, 0, [], 0⟩
def failP (p : T_parse_parser) (e : Int) : T_parse_parser := if p.e_ = 0 then { p with e_ := e, where_ := (tokP p).At_ } else p
def cntP (p : T_parse_parser) : T_parse_parser := { p with nodes_ := (IntKind.i64.wrap (p.nodes_ + (1 : Int))) }
def nodeP (p : T_parse_parser) : T_parse_parser := if 16384 < (cntP p).nodes_ then failP (cntP p) 136 else cntP p
def isB (p : T_parse_parser) (s : Str) : Bool := p.e_ == 0 && (decide ((tokP p).Text_ = s) && ((tokP p).Kind_ == 3 || ((tokP p).Kind_ == 1 && isWord s)))
def advP (p : T_parse_parser) : T_parse_parser := { p with at_ := (IntKind.i64.wrap (p.at_ + (1 : Int))) }
def takeP (p : T_parse_parser) (s : Str) : T_parse_parser := if isB p s = true then advP p else p
def needP (p : T_parse_parser) (s : Str) : T_parse_parser := if isB p s = true then advP p else failP p 110
def nameB (p : T_parse_parser) : Bool := p.e_ != 0 || ((tokP p).Kind_ != 1 || isWord (tokP p).Text_)
def nameP (p : T_parse_parser) : Str × T_parse_parser := if nameB p = true then ([], failP p 110) else ((tokP p).Text_, advP p)
def numB (p : T_parse_parser) : Bool := p.e_ != 0 || (tokP p).Kind_ != 2
def numP (p : T_parse_parser) : Int × T_parse_parser := if numB p = true then (0, failP p 110) else ((tokP p).Num_, advP p)
def deepP (p : T_parse_parser) (a : Int) : T_parse_parser := if 64 < a then failP p 111 else p
section
variable {p : T_parse_parser} {n : Nat}
theorem token_eq (h : PI p) : p_parse_parser_token p = some (tokP p) := by
  obtain ⟨t, e, _⟩ := token_tot h
  rw [e]
  unfold p_parse_parser_token at e
  obtain ⟨t', e1, e2⟩ := bind_some e
  cases e2
  obtain ⟨_, _, e3⟩ := idxL_some e1
  unfold tokP
  rw [e3]; rfl
theorem fail_eq (h : PI p) {e : Int} : p_parse_parser_fail p e = some (failP p e) := by
  unfold p_parse_parser_fail failP
  by_cases h1 : p.e_ = 0
  · rw [if_pos (by simpa using h1), if_pos h1, token_eq h]; rfl
  · rw [if_neg (by simpa using h1), if_neg h1]
theorem PI.cnt (h : PI p) : PI (cntP p) := ⟨h.lo, h.hi, h.big, h.toks⟩
theorem tok_cnt : tokP (cntP p) = tokP p := rfl
theorem tok_fail {e : Int} : tokP (failP p e) = tokP p := by unfold failP; split <;> rfl
theorem fail_gd (h : PI p) {e : Int} (he : e ≠ 0) : Gd p (failP p e) ∧ (failP p e).e_ ≠ 0 := (fail_tot h he).get (fail_eq h)
theorem node_eq (h : PI p) {k : Int} : p_parse_parser_node p k = some (⟨k, (tokP p).At_, [], 0, []⟩, nodeP p) := by
  have h2 := h.cnt
  unfold p_parse_parser_node nodeP
  by_cases h1 : 16384 < (cntP p).nodes_
  · have := (fail_gd h2 (e := 136) (by decide)).1
    rw [if_pos (by simpa [cntP] using h1), if_pos h1, show ({ p with nodes_ := (IntKind.i64.wrap (p.nodes_ + (1 : Int))) } : T_parse_parser) = cntP p from rfl, fail_eq h2, Option.bind_some, token_eq this.inv, Option.bind_some, tok_fail, tok_cnt]
  · rw [if_neg (by simpa [cntP] using h1), if_neg h1, show ({ p with nodes_ := (IntKind.i64.wrap (p.nodes_ + (1 : Int))) } : T_parse_parser) = cntP p from rfl, token_eq h2, Option.bind_some, tok_cnt]
theorem is_eq (h : PI p) (hn : 13 < n) {s : Str} : p_parse_parser_is n p s = some (isB p s) := by
  unfold p_parse_parser_is isB
  rw [token_eq h, Option.bind_some, Word_eq hn]
  cases p.e_ == 0 <;> cases decide ((tokP p).Text_ = s) <;> cases (tokP p).Kind_ == 3 <;> cases (tokP p).Kind_ == 1 <;> rfl
theorem take_eq (h : PI p) (hn : 13 < n) {s : Str} : p_parse_parser_take n p s = some (isB p s, takeP p s) := by
  unfold p_parse_parser_take takeP
  rw [is_eq h hn, Option.bind_some]
  cases isB p s <;> rfl
theorem need_eq (h : PI p) (hn : 13 < n) {s : Str} : p_parse_parser_need n p s = some (needP p s) := by
  unfold p_parse_parser_need needP
  rw [take_eq h hn, Option.bind_some]
  unfold takeP
  cases isB p s
  · simp only [Bool.not_false, if_true, Bool.false_eq_true, if_false]
    rw [fail_eq h]; rfl
  · rfl
theorem name_eq (h : PI p) (hn : 13 < n) : p_parse_parser_name n p = some (nameP p) := by
  unfold p_parse_parser_name nameP nameB
  rw [token_eq h, Option.bind_some, Word_eq hn, fail_eq h]
  cases p.e_ != 0 <;> cases (tokP p).Kind_ != 1 <;> cases isWord (tokP p).Text_ <;> rfl
theorem number_eq' (h : PI p) : p_parse_parser_number p = some (numP p) := by
  unfold p_parse_parser_number numP numB
  rw [token_eq h, Option.bind_some, fail_eq h]
  cases p.e_ != 0 <;> cases (tokP p).Kind_ != 2 <;> rfl
theorem deep_eq (h : PI p) {a : Int} : p_parse_parser_deep p a = some (deepP p a) := by
  unfold p_parse_parser_deep deepP
  rw [fail_eq h]
  by_cases h1 : 64 < a
  · rw [if_pos (by simpa using h1), if_pos h1]; rfl
  · rw [if_neg (by simpa using h1), if_neg h1]
theorem node_gd (h : PI p) : Gd p (nodeP p) := ((node_tot (k := 0) h).get (node_eq h)).1
theorem take_gd (h : PI p) {s : Str} : Gd p (takeP p s) ∧ (isB p s = true → p.e_ = 0 ∧ GA p (takeP p s) ∧ (takeP p s).e_ = 0) ∧ (isB p s = false → takeP p s = p) := (take_tot (n := 14) h (by decide)).get (take_eq h (by decide))
theorem need_ga (h : PI p) {s : Str} : GA p (needP p s) := (need_tot (n := 14) h (by decide)).get (need_eq h (by decide))
theorem name_ga (h : PI p) : GA p (nameP p).2 := (name_tot (n := 14) h (by decide)).get (name_eq h (by decide))
theorem num_ga (h : PI p) : GA p (numP p).2 := (number_tot h).get (number_eq' h)
theorem deep_gd (h : PI p) {a : Int} : Gd p (deepP p a) := (deep_tot h).get (deep_eq h)
/-! nodes -/
theorem take_nd {s : Str} : (takeP p s).nodes_ = p.nodes_ := by unfold takeP; split <;> rfl
/-! the document's -/
def conv (p : T_parse_parser) : T_remontoireref10_P := ⟨p.l_.map cT, p.at_, p.nodes_, p.e_, p.where_⟩
end
section
variable {p : T_parse_parser} {n : Nat}
def sizeP (p : T_parse_parser) : Int × T_parse_parser := ((numP (needP p [91])).1, needP (numP (needP p [91])).2 [93])
theorem size_eq (h : PI p) (hn : 13 < n) : p_parse_parser_size n p = some (sizeP p) := by
  unfold p_parse_parser_size sizeP
  rw [need_eq h hn, Option.bind_some, number_eq' (need_ga h).inv, Option.bind_some, need_eq (num_ga (need_ga h).inv).inv hn]; rfl
theorem size_ga (h : PI p) : GA p (sizeP p).2 := (need_ga h).ga ((num_ga (need_ga h).inv).ga (need_ga (num_ga (need_ga h).inv).inv))
/-! signs -/
def signP (p : T_parse_parser) (l : List Str) : Str := (l.find? fun y => decide (y ≠ []) && isB p y).getD []
theorem sign_l1_eq (h : PI p) (hn : 13 < n) (x : List Str) (hx : x.length = 3) : ∀ (c : Nat) (v : Nat), 3 < v + c → v ≤ 3 → (∀ y ∈ x.take v, (decide (y ≠ []) && isB p y) = false) →
    Tot (p_parse_parser_sign_l1 n x p c v) fun r => match r with | .inl _ => x.find? (fun y => decide (y ≠ []) && isB p y) = none | .inr t => x.find? (fun y => decide (y ≠ []) && isB p y) = some t := by
  intro c
  induction c with
  | zero => intro v h1 h2; omega
  | succ c ih =>
    intro v h1 h2 h3
    unfold p_parse_parser_sign_l1
    refine Tot.iteb (fun h4 => ?_) fun h4 => ?_
    · simp only [decide_eq_true_eq] at h4
      refine Tot.bind' (Tot.idx (by omega) (by omega) fun z hz => ?_)
      rw [Int.toNat_natCast] at hz
      rw [is_eq h hn, Option.bind_some]
      have hy : (if (decide (z ≠ ([] : Str))) = true then some (isB p z) else some false) = some (decide (z ≠ []) && isB p z) := by
        cases decide (z ≠ ([] : Str)) <;> rfl
      rw [hy, Option.bind_some]
      refine Tot.iteb (fun h5 => .some (find_at h3 hz h5)) fun h5 => ?_
      rw [wrap64 (by omega) (by omega)]
      refine ih (v + 1) (by omega) (by omega) ?_
      rw [take_step' hz]
      intro y hy
      rcases List.mem_append.1 hy with hy | hy
      · exact h3 y hy
      · rw [List.mem_singleton.1 hy]; exact h5
    · refine .some ?_
      simp only [decide_eq_false_iff_not] at h4
      rw [List.take_of_length_le (by omega)] at h3
      exact List.find?_eq_none.2 fun y hy => by simpa using h3 y hy
def levP (a : Int) : List Str := (idxL g_parse_levels a).getD []
theorem sign_eqP (h : PI p) (hn : 13 < n) {a : Int} (h0 : 0 ≤ a) (h1 : a < 7) : p_parse_parser_sign n p a = some (signP p (levP a)) := by
  unfold p_parse_parser_sign signP levP
  have hl : g_parse_levels.length = 7 := rfl
  obtain ⟨x, e, hx⟩ : Tot (idxL g_parse_levels a) fun x => x.length = 3 := Tot.idx h0 (by omega) fun x hx => by
    have : (g_parse_levels.all fun y => y.length == 3) = true := by decide
    simpa using List.all_eq_true.1 this x (List.mem_of_getElem? hx)
  rw [e, Option.bind_some]
  obtain ⟨r, e2, hr⟩ := sign_l1_eq h hn x hx n 0 (by omega) (by omega) (by simp)
  rw [show ((0 : Nat) : Int) = 0 from rfl] at e2
  rw [e2, Option.bind_some]
  simp only [Option.getD_some]
  cases r with
  | inl _ => rw [hr]; rfl
  | inr t => rw [hr]; rfl
theorem signP_e {l : List Str} (hs : signP p l ≠ []) : p.e_ = 0 := by
  unfold signP at hs
  cases h : l.find? (fun y => decide (y ≠ []) && isB p y) with
  | none => rw [h] at hs; exact absurd rfl hs
  | some y =>
    have := List.find?_some h
    simp only [Bool.and_eq_true] at this
    have := this.2
    unfold isB at this
    simp only [Bool.and_eq_true, beq_iff_eq] at this
    exact this.1
end
end Go.Proofs.YtolhahlnccekcaaDoor.Abs
namespace Go.Proofs.YtolhahlnccekcaaDoor.Abs
open Go.RowKit
set_option linter.unusedVariables false
set_option linter.unusedSimpArgs false
mutual
def flatN : T_parse_Node → List T_remontoireref10_N
  | ⟨k, a, t, n, l⟩ => ⟨k, a, t, n, l.length⟩ :: flatL l
def flatL : List T_parse_Node → List T_remontoireref10_N
  | [] => []
  | x :: l => flatN x ++ flatL l
end
theorem flatN_eq (x : T_parse_Node) : flatN x = ⟨x.Kind_, x.At_, x.Text_, x.Num_, x.List_.length⟩ :: flatL x.List_ := by
  cases x
  rw [flatN]
theorem flatL_nil : flatL [] = [] := by rw [flatL]
theorem flatL_cons (x : T_parse_Node) (l : List T_parse_Node) : flatL (x :: l) = flatN x ++ flatL l := by rw [flatL]
theorem flatL_app (l l' : List T_parse_Node) : flatL (l ++ l') = flatL l ++ flatL l' := by
  induction l with
  | nil => rw [flatL_nil]; rfl
  | cons x l ih => rw [List.cons_append, flatL_cons, flatL_cons, ih, List.append_assoc]
def sz (x : T_parse_Node) : Int := (flatN x).length
def szL (l : List T_parse_Node) : Int := (flatL l).length
theorem sz_eq (x : T_parse_Node) : sz x = 1 + szL x.List_ := by unfold sz szL; rw [flatN_eq, List.length_cons]; omega
theorem szL_nil : szL [] = 0 := by unfold szL; rw [flatL_nil]; rfl
theorem szL_cons (x : T_parse_Node) (l : List T_parse_Node) : szL (x :: l) = sz x + szL l := by unfold szL sz; rw [flatL_cons, List.length_append]; omega
theorem szL_app (l l' : List T_parse_Node) : szL (l ++ l') = szL l + szL l' := by unfold szL; rw [flatL_app, List.length_append]; omega
theorem szL_ge (l : List T_parse_Node) : (l.length : Int) ≤ szL l := by
  induction l with
  | nil => rw [szL_nil]; exact Int.le_refl _
  | cons x l ih => have := sz_eq x; have h2 : 0 ≤ szL x.List_ := by unfold szL; omega
                   rw [szL_cons, List.length_cons]; omega
theorem sz_pos (x : T_parse_Node) : 1 ≤ sz x := by have := sz_eq x; have h2 : 0 ≤ szL x.List_ := by unfold szL; omega
                                                   omega
theorem sz_mk (k a : Int) (t : Str) (u : Int) (l : List T_parse_Node) : sz ⟨k, a, t, u, l⟩ = 1 + szL l := sz_eq _
theorem szL_1 (x : T_parse_Node) : szL [x] = sz x := by rw [szL_cons, szL_nil]; omega
theorem szL_2 (x y : T_parse_Node) : szL [x, y] = sz x + sz y := by rw [szL_cons, szL_1]
theorem szL_3 (x y z : T_parse_Node) : szL [x, y, z] = sz x + sz y + sz z := by rw [szL_cons, szL_2]; omega
def tailP (n : Nat) (q : T_parse_parser) (at0 n0 n2 n4 : Int) : Option (T_parse_Node × T_parse_parser) :=
  (p_parse_parser_need n q ([102, 110] : Str)).bind fun x8 =>
  (p_parse_parser_name n x8).bind fun x10 =>
  (p_parse_parser_list__param n x10.2).bind fun x12 =>
  (p_parse_parser_take n x12.2 ([45, 62] : Str)).bind fun x14 =>
  if x14.1 = true then
    (p_parse_parser_take n x14.2 ([117, 51, 50] : Str)).bind fun x17 =>
    if x17.1 = true then
      (p_parse_parser_block n x17.2 (1 : Int)).bind fun x20 =>
      need (x12.1.length + [x20.1].length ≤ 1073741824) <|
      some (⟨2, at0, x10.1, n2, x12.1 ++ [x20.1]⟩, x20.2)
    else
      (p_parse_parser_need n x17.2 ([117, 54, 52] : Str)).bind fun x25 =>
      (p_parse_parser_block n x25 (1 : Int)).bind fun x27 =>
      need (x12.1.length + [x27.1].length ≤ 1073741824) <|
      some (⟨2, at0, x10.1, n4, x12.1 ++ [x27.1]⟩, x27.2)
  else
    (p_parse_parser_block n x14.2 (1 : Int)).bind fun x32 =>
    need (x12.1.length + [x32.1].length ≤ 1073741824) <|
    some (⟨2, at0, x10.1, n0, x12.1 ++ [x32.1]⟩, x32.2)
def tailP' (n : Nat) (q : T_parse_parser) (x : T_parse_Node) (n0 n2 n4 : Int) : Option (T_parse_Node × T_parse_parser) :=
  (p_parse_parser_need n q ([102, 110] : Str)).bind fun x8 =>
  (p_parse_parser_name n x8).bind fun x10 =>
  (p_parse_parser_list__param n x10.2).bind fun x12 =>
  (p_parse_parser_take n x12.2 ([45, 62] : Str)).bind fun x14 =>
  if x14.1 = true then
    (p_parse_parser_take n x14.2 ([117, 51, 50] : Str)).bind fun x17 =>
    if x17.1 = true then
      (p_parse_parser_block n x17.2 (1 : Int)).bind fun x20 =>
      need (x12.1.length + [x20.1].length ≤ 1073741824) <|
      some ({ x with Text_ := x10.1, Num_ := n2, List_ := x12.1 ++ [x20.1] }, x20.2)
    else
      (p_parse_parser_need n x17.2 ([117, 54, 52] : Str)).bind fun x25 =>
      (p_parse_parser_block n x25 (1 : Int)).bind fun x27 =>
      need (x12.1.length + [x27.1].length ≤ 1073741824) <|
      some ({ x with Text_ := x10.1, Num_ := n4, List_ := x12.1 ++ [x27.1] }, x27.2)
  else
    (p_parse_parser_block n x14.2 (1 : Int)).bind fun x32 =>
    need (x12.1.length + [x32.1].length ≤ 1073741824) <|
    some ({ x with Text_ := x10.1, Num_ := n0, List_ := x12.1 ++ [x32.1] }, x32.2)
theorem function_def (n : Nat) (p : T_parse_parser) : p_parse_parser_function n p = ((p_parse_parser_node p (2 : Int)).bind fun x2 => (p_parse_parser_take n x2.2 ([101, 120, 112, 111, 114, 116] : Str)).bind fun x5 =>
    if x5.1 = true then tailP' n x5.2 x2.1 1 (orK .u32 (1 : Int) (2 : Int)) (orK .u32 (1 : Int) (4 : Int)) else tailP' n x5.2 x2.1 x2.1.Num_ (orK .u32 x2.1.Num_ (2 : Int)) (orK .u32 x2.1.Num_ (4 : Int))) := rfl
theorem sz_mem {l : List T_parse_Node} {k : T_parse_Node} (h : k ∈ l) : sz k ≤ szL l := by
  obtain ⟨a, b, rfl⟩ := List.append_of_mem h
  rw [szL_app, szL_cons]
  have h1 : 0 ≤ szL a := by unfold szL; omega
  have h2 : 0 ≤ szL b := by unfold szL; omega
  omega
section
variable {n : Nat} {p : T_parse_parser}
theorem takeP_f {s : Str} (h : isB p s = false) : takeP p s = p := by unfold takeP; rw [h]; rfl
theorem operand_l1_eq (h : PI p) (hn : 13 < n) {fo : T_parse_parser → Int → Option (T_parse_Node × T_parse_parser)} {a : Int} {c : Nat} {x y : T_parse_Node} : p_parse_parser_operand_l1 fo n a (c + 3) 0 p x y =
    if isB p [126] = true then (fo (takeP p [126]) (IntKind.i64.wrap (a + 1))).bind fun r => some (.inr ({ x with Kind_ := 18, Text_ := [126], List_ := [r.1] }, r.2))
    else if isB p [45] = true then (fo (takeP p [45]) (IntKind.i64.wrap (a + 1))).bind fun r => some (.inr ({ x with Kind_ := 18, Text_ := [45], List_ := [r.1] }, r.2))
    else some (.inl (p, x, y)) := by
  have w1 : IntKind.i64.wrap ((0 : Int) + 1) = 1 := by decide
  have w2 : IntKind.i64.wrap ((1 : Int) + 1) = 2 := by decide
  have i0 : idxL p_parse_parser_operand_k1 0 = some [126] := rfl
  have i1 : idxL p_parse_parser_operand_k1 1 = some [45] := rfl
  unfold p_parse_parser_operand_l1
  rw [if_pos (by decide), i0, Option.bind_some, take_eq h hn, Option.bind_some, w1]
  by_cases h1 : isB p [126] = true
  · rw [if_pos h1, if_pos h1]
  · rw [if_neg h1, if_neg h1, takeP_f (by simpa using h1)]
    unfold p_parse_parser_operand_l1
    rw [if_pos (by decide), i1, Option.bind_some, take_eq h hn, Option.bind_some, w2]
    by_cases h2 : isB p [45] = true
    · rw [if_pos h2, if_pos h2]
    · rw [if_neg h2, if_neg h2, takeP_f (by simpa using h2)]
      unfold p_parse_parser_operand_l1
      rw [if_neg (by decide)]
theorem param_l1_eq (h : PI p) (hn : 13 < n) {c : Nat} {x y : T_parse_Node} : p_parse_parser_param_l1 n (c + 4) 0 p x y =
    some (if isB p [112, 117, 98] = true then .inr ({ y with Num_ := 1 }, takeP p [112, 117, 98]) else if isB p [117, 51, 50] = true then .inr ({ y with Num_ := 2 }, takeP p [117, 51, 50]) else if isB p [117, 54, 52] = true then .inr ({ y with Num_ := 3 }, takeP p [117, 54, 52]) else .inl (p, x, y)) := by
  have i0 : idxL p_parse_parser_param_k1 0 = some [112, 117, 98] := rfl
  have i1 : idxL p_parse_parser_param_k1 1 = some [117, 51, 50] := rfl
  have i2 : idxL p_parse_parser_param_k1 2 = some [117, 54, 52] := rfl
  have w0 : IntKind.i64.wrap ((0 : Int) + 1) = 1 := by decide
  have w1 : IntKind.i64.wrap ((1 : Int) + 1) = 2 := by decide
  have w2 : IntKind.i64.wrap ((2 : Int) + 1) = 3 := by decide
  have u0 : IntKind.u32.wrap (IntKind.i64.wrap ((1 : Int) + 0)) = 1 := by decide
  have u1 : IntKind.u32.wrap 2 = 2 := by decide
  have u2 : IntKind.u32.wrap (IntKind.i64.wrap ((1 : Int) + 2)) = 3 := by decide
  unfold p_parse_parser_param_l1
  rw [if_pos (by decide), i0, Option.bind_some, take_eq h hn, Option.bind_some, w0, u0]
  by_cases h0 : isB p [112, 117, 98] = true
  · rw [if_pos h0, if_pos h0]
  rw [if_neg h0, if_neg h0, takeP_f (by simpa using h0)]
  unfold p_parse_parser_param_l1
  rw [if_pos (by decide), i1, Option.bind_some, take_eq h hn, Option.bind_some, w1, u1]
  by_cases h1 : isB p [117, 51, 50] = true
  · rw [if_pos h1, if_pos h1]
  rw [if_neg h1, if_neg h1, takeP_f (by simpa using h1)]
  unfold p_parse_parser_param_l1
  rw [if_pos (by decide), i2, Option.bind_some, take_eq h hn, Option.bind_some, w2, u2]
  by_cases h2 : isB p [117, 54, 52] = true
  · rw [if_pos h2, if_pos h2]
  rw [if_neg h2, if_neg h2, takeP_f (by simpa using h2)]
  unfold p_parse_parser_param_l1
  rw [if_neg (by decide)]
end
end Go.Proofs.YtolhahlnccekcaaDoor.Abs
