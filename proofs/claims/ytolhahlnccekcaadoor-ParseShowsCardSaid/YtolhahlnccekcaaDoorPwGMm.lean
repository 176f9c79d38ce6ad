/-
  Plain models of functions. Written by a program of mine (gen.py) for this claim.
-/
import Derived.Test.YtolhahlnccekcaaDoorPwSv5
namespace Go.Proofs.YtolhahlnccekcaaDoor.Abs
open Go.RowKit
set_option linter.unusedVariables false
structure T_anon_name_args where
  name_ : Str
  args_ : Int
structure T_lex_Token where
  Kind_ : Int
  At_ : Int
  Text_ : Str
  Num_ : Int
def T_lex_Token.C (x : T_lex_Token) : List V := [.lit (.int .i64 x.Kind_), .lit (.int .i64 x.At_), .lit (.string (bs x.Text_)), .lit (.int .u32 x.Num_)]
@[go_sem] theorem T_lex_Token.C_eq (x : T_lex_Token) : T_lex_Token.C x = [.lit (.int .i64 x.Kind_), .lit (.int .i64 x.At_), .lit (.string (bs x.Text_)), .lit (.int .u32 x.Num_)] := _root_.id rfl
structure T_parse_Node where
  Kind_ : Int
  At_ : Int
  Text_ : Str
  Num_ : Int
  List_ : (List T_parse_Node)
mutual
def T_parse_Node.C : T_parse_Node → List V
  | ⟨a0, a1, a2, a3, a4⟩ => [.lit (.int .i64 a0), .lit (.int .i64 a1), .lit (.string (bs a2)), .lit (.int .u32 a3), .list .none (T_parse_Node.CL a4)]
def T_parse_Node.CL : List T_parse_Node → List (List V)
  | [] => []
  | x :: l => T_parse_Node.C x :: T_parse_Node.CL l
end
theorem T_parse_Node.CL_eq (l : List T_parse_Node) : T_parse_Node.CL l = l.map T_parse_Node.C := by
  induction l with
  | nil => rfl
  | cons x l ih => rw [T_parse_Node.CL, ih]; rfl
@[go_sem] theorem T_parse_Node.C_eq (x : T_parse_Node) : T_parse_Node.C x = [.lit (.int .i64 x.Kind_), .lit (.int .i64 x.At_), .lit (.string (bs x.Text_)), .lit (.int .u32 x.Num_), .list .none (x.List_.map T_parse_Node.C)] := by
  cases x
  simp only [T_parse_Node.C, T_parse_Node.CL_eq]
structure T_parse_parser where
  l_ : (List T_lex_Token)
  at_ : Int
  nodes_ : Int
  e_ : Int
  where_ : Int
def T_parse_parser.C (x : T_parse_parser) : List V := [.list .none (x.l_.map T_lex_Token.C), .lit (.int .i64 x.at_), .lit (.int .i64 x.nodes_), .lit (.int .i64 x.e_), .lit (.int .i64 x.where_)]
@[go_sem] theorem T_parse_parser.C_eq (x : T_parse_parser) : T_parse_parser.C x = [.list .none (x.l_.map T_lex_Token.C), .lit (.int .i64 x.at_), .lit (.int .i64 x.nodes_), .lit (.int .i64 x.e_), .lit (.int .i64 x.where_)] := _root_.id rfl
structure T_remontoireref10_N where
  Kind_ : Int
  At_ : Int
  Text_ : Str
  Num_ : Int
  Kids_ : Int
def T_remontoireref10_N.C (x : T_remontoireref10_N) : List V := [.lit (.int .i64 x.Kind_), .lit (.int .i64 x.At_), .lit (.string (bs x.Text_)), .lit (.int .u32 x.Num_), .lit (.int .i64 x.Kids_)]
@[go_sem] theorem T_remontoireref10_N.C_eq (x : T_remontoireref10_N) : T_remontoireref10_N.C x = [.lit (.int .i64 x.Kind_), .lit (.int .i64 x.At_), .lit (.string (bs x.Text_)), .lit (.int .u32 x.Num_), .lit (.int .i64 x.Kids_)] := _root_.id rfl
structure T_remontoireref09_T where
  Kind_ : Int
  At_ : Int
  Text_ : Str
  Num_ : Int
structure T_remontoireref10_P where
  L_ : (List T_remontoireref09_T)
  At_ : Int
  Nodes_ : Int
  E_ : Int
  Where_ : Int
def g_lex_signs : List Str := [[45, 62], [46, 46], [61, 61], [60, 60, 60], [60, 60], [62, 62], [60], [40], [41], [123], [125], [91], [93], [44], [59], [58], [61], [43], [45], [42], [47], [37], [38], [124], [94], [126]]
@[go_sem] theorem g_lex_signs_len : (cA cS g_lex_signs).length = 26 := by kernel_rfl
@[go_sem] theorem g_lex_signs_take : (cA cS g_lex_signs).take 26 = (cA cS g_lex_signs) := by kernel_rfl
def g_parse_words : List Str := [[102, 110], [101, 120, 112, 111, 114, 116], [108, 101, 116], [118, 97, 114], [97, 114, 114], [105, 102], [101, 108, 115, 101], [102, 111, 114], [105, 110], [114, 101, 116, 117, 114, 110], [112, 117, 98], [117, 51, 50], [117, 54, 52]]
@[go_sem] theorem g_parse_words_len : (cA cS g_parse_words).length = 13 := by kernel_rfl
@[go_sem] theorem g_parse_words_chunk : chunk 1 13 (cA cS g_parse_words) = g_parse_words.map cS := _root_.id rfl
def g_parse_levels : List (List Str) := [[[124], [], []], [[94], [], []], [[38], [], []], [[61, 61], [60], []], [[60, 60], [62, 62], [60, 60, 60]], [[43], [45], []], [[42], [47], [37]]]
def g_internal_strconv_uint64pow10 : List Int := [1, 10, 100, 1000, 10000, 100000, 1000000, 10000000, 100000000, 1000000000, 10000000000, 100000000000, 1000000000000, 10000000000000, 100000000000000, 1000000000000000, 10000000000000000, 100000000000000000, 1000000000000000000, 10000000000000000000]
def g_parse_kinds : List Str := [[], [112, 117, 98], [117, 51, 50], [117, 54, 52]]
/- lex.blank -/
def lex_blank (a0 : Int) : Option Bool :=
  (if (a0 == (32 : Int)) = true then
      some true
    else
      if (a0 == (9 : Int)) = true then
        some true
      else
        if (a0 == (13 : Int)) = true then
          some true
        else
          some (a0 == (10 : Int))).bind fun y1 =>
  some y1

/- internal/stringslite.HasPrefix -/
def internal_stringslite_HasPrefix (a0 : Str) (a1 : Str) : Option Bool :=
  (if (decide ((a1.length : Int) ≤ (a0.length : Int))) = true then
      need ((0 : Int) ≤ (a1.length : Int) ∧ (a1.length : Int) ≤ (a0.length : Int)) <|
      some (decide ((a0.take (a1.length : Int).toNat) = a1))
    else
      some false).bind fun y1 =>
  some y1

/- strings.HasPrefix -/
def strings_HasPrefix (a0 : Str) (a1 : Str) : Option Bool :=
  (internal_stringslite_HasPrefix a0 a1).bind fun x1 =>
  some x1

def internal_bytealg_IndexByteString (a0 : Str) (a1 : Int) : Option Int := some (Lib.indexByte a0 a1.toNat.toUInt8)

/- internal/stringslite.IndexByte -/
def internal_stringslite_IndexByte (a0 : Str) (a1 : Int) : Option Int :=
  (internal_bytealg_IndexByteString a0 a1).bind fun x1 =>
  some x1

/- strings.IndexByte -/
def strings_IndexByte (a0 : Str) (a1 : Int) : Option Int :=
  (internal_stringslite_IndexByte a0 a1).bind fun x1 =>
  some x1

/- lex.skip -/
def lex_skip_l1 (a0 : Str) : Nat → Int → Option (Int ⊕ Int)
  | 0, _ => none
  | c4 + 1, v2 =>
    if (decide (v2 < (a0.length : Int))) = true then
      (idxL a0 v2).bind fun x9 =>
      (lex_blank (x9.toNat : Int)).bind fun x10 =>
      if x10 = true then
        lex_skip_l1 a0 c4 (IntKind.i64.wrap (v2 + (1 : Int)))
      else
        need ((0 : Int) ≤ v2 ∧ v2 ≤ (a0.length : Int)) <|
        (strings_HasPrefix (a0.drop v2.toNat) ([47, 47] : Str)).bind fun x17 =>
        if x17 = true then
          need ((0 : Int) ≤ v2 ∧ v2 ≤ (a0.length : Int)) <|
          (strings_IndexByte (a0.drop v2.toNat) (10 : Int)).bind fun x22 =>
          if (decide (x22 < (0 : Int))) = true then
            some (.inr (a0.length : Int))
          else
            lex_skip_l1 a0 c4 (IntKind.i64.wrap (v2 + x22))
        else
          some (.inr v2)
    else
      some (.inl v2)
def lex_skip (n : Nat) (a0 : Str) (a1 : Int) : Option Int :=
  (lex_skip_l1 a0 n a1).bind fun y3 =>
  y3.elim (fun y3a =>
    some y3a) (fun y3a =>
    some y3a)

/- lex.Letter -/
def lex_Letter (a0 : Int) : Option Bool :=
  (if (decide ((97 : Int) ≤ a0)) = true then
      if (decide (a0 ≤ (122 : Int))) = true then
        some true
      else
        some (a0 == (95 : Int))
    else
      some (a0 == (95 : Int))).bind fun y1 =>
  some y1

/- lex.Digit -/
def lex_Digit (a0 : Int) : Option Bool :=
  (if (decide ((48 : Int) ≤ a0)) = true then
      some (decide (a0 ≤ (57 : Int)))
    else
      some false).bind fun y1 =>
  some y1

/- lex.word -/
def lex_word_l1 (a0 : Str) : Nat → Int → Option (Unit ⊕ Str)
  | 0, _ => none
  | c4 + 1, v2 =>
    if (decide (v2 < (a0.length : Int))) = true then
      ((idxL a0 v2).bind fun x10 =>
        (lex_Letter (x10.toNat : Int)).bind fun x11 =>
        if (!x11) = true then
          (lex_Digit (x10.toNat : Int)).bind fun x18 =>
          some (!x18)
        else
          some false).bind fun y9 =>
      if y9 = true then
        need ((0 : Int) ≤ v2 ∧ v2 ≤ (a0.length : Int)) <|
        some (.inr (a0.take v2.toNat))
      else
        lex_word_l1 a0 c4 (IntKind.i64.wrap (v2 + (1 : Int)))
    else
      some (.inl ())
def lex_word (n : Nat) (a0 : Str) : Option Str :=
  (lex_word_l1 a0 n (0 : Int)).bind fun y3 =>
  y3.elim (fun y3a =>
    some a0) (fun y3a =>
    some y3a)

/- internal/stringslite.CutPrefix -/
def internal_stringslite_CutPrefix (a0 : Str) (a1 : Str) : Option (Str × Bool) :=
  (internal_stringslite_HasPrefix a0 a1).bind fun x1 =>
  if (!x1) = true then
    some (a0, false)
  else
    need ((0 : Int) ≤ (a1.length : Int) ∧ (a1.length : Int) ≤ (a0.length : Int)) <|
    some ((a0.drop (a1.length : Int).toNat), true)

/- strings.CutPrefix -/
def strings_CutPrefix (a0 : Str) (a1 : Str) : Option (Str × Bool) :=
  (internal_stringslite_CutPrefix a0 a1).bind fun x1 =>
  some (x1.1, x1.2)

/- lex.value -/
def lex_value_l1 (x1 : (Str × Bool)) : Nat → Int → Int → Option (Int ⊕ (Int × Bool))
  | 0, _, _ => none
  | c8 + 1, v5, v6 =>
    if (decide (v6 < (x1.1.length : Int))) = true then
      need ((0 : Int) ≤ (16 : Int) ∧ (16 : Int) ≤ (([48, 49, 50, 51, 52, 53, 54, 55, 56, 57, 97, 98, 99, 100, 101, 102] : Str).length : Int)) <|
      (idxL x1.1 v6).bind fun x13 =>
      (strings_IndexByte (([48, 49, 50, 51, 52, 53, 54, 55, 56, 57, 97, 98, 99, 100, 101, 102] : Str).take (16 : Int).toNat) (x13.toNat : Int)).bind fun x14 =>
      (if (decide (x14 < (0 : Int))) = true then
          some true
        else
          some (decide ((4294967295 : Int) < (IntKind.i64.wrap ((IntKind.i64.wrap (v5 * (16 : Int))) + x14))))).bind fun y22 =>
      if y22 = true then
        some (.inr ((0 : Int), false))
      else
        lex_value_l1 x1 c8 (IntKind.i64.wrap ((IntKind.i64.wrap (v5 * (16 : Int))) + x14)) (IntKind.i64.wrap (v6 + (1 : Int)))
    else
      some (.inl v5)
def lex_value_l2 (a0 : Str) : Nat → Int → Int → Option (Int ⊕ (Int × Bool))
  | 0, _, _ => none
  | c32 + 1, v29, v30 =>
    if (decide (v30 < (a0.length : Int))) = true then
      need ((0 : Int) ≤ (10 : Int) ∧ (10 : Int) ≤ (([48, 49, 50, 51, 52, 53, 54, 55, 56, 57, 97, 98, 99, 100, 101, 102] : Str).length : Int)) <|
      (idxL a0 v30).bind fun x37 =>
      (strings_IndexByte (([48, 49, 50, 51, 52, 53, 54, 55, 56, 57, 97, 98, 99, 100, 101, 102] : Str).take (10 : Int).toNat) (x37.toNat : Int)).bind fun x38 =>
      (if (decide (x38 < (0 : Int))) = true then
          some true
        else
          some (decide ((4294967295 : Int) < (IntKind.i64.wrap ((IntKind.i64.wrap (v29 * (10 : Int))) + x38))))).bind fun y46 =>
      if y46 = true then
        some (.inr ((0 : Int), false))
      else
        lex_value_l2 a0 c32 (IntKind.i64.wrap ((IntKind.i64.wrap (v29 * (10 : Int))) + x38)) (IntKind.i64.wrap (v30 + (1 : Int)))
    else
      some (.inl v29)
def lex_value (n : Nat) (a0 : Str) : Option (Int × Bool) :=
  (strings_CutPrefix a0 ([48, 120] : Str)).bind fun x1 =>
  if x1.2 = true then
    (lex_value_l1 x1 n (0 : Int) (0 : Int)).bind fun y7 =>
    y7.elim (fun y7a =>
      some ((IntKind.u32.wrap y7a), (decide (x1.1 ≠ ([] : Str))))) (fun y7a =>
      some y7a)
  else
    (lex_value_l2 a0 n (0 : Int) (0 : Int)).bind fun y31 =>
    y31.elim (fun y31a =>
      some ((IntKind.u32.wrap y31a), (decide (a0 ≠ ([] : Str))))) (fun y31a =>
      some y31a)

/- lex.sign -/
def lex_sign_l1 (a0 : Str) : Nat → Int → Option (Unit ⊕ Str)
  | 0, _ => none
  | c4 + 1, v2 =>
    if (decide (v2 < (26 : Int))) = true then
      (idxL g_lex_signs v2).bind fun x9 =>
      (strings_HasPrefix a0 x9).bind fun x17 =>
      if x17 = true then
        some (.inr x9)
      else
        lex_sign_l1 a0 c4 (IntKind.i64.wrap (v2 + (1 : Int)))
    else
      some (.inl ())
def lex_sign (n : Nat) (a0 : Str) : Option Str :=
  (lex_sign_l1 a0 n (0 : Int)).bind fun y3 =>
  y3.elim (fun y3a =>
    some ([] : Str)) (fun y3a =>
    some y3a)

/- lex.next -/
def lex_next (n : Nat) (a0 : Str) (a1 : Int) : Option (T_lex_Token × Int) :=
  need ((0 : Int) ≤ a1 ∧ a1 ≤ (a0.length : Int)) <|
  (lex_word n (a0.drop a1.toNat)).bind fun x2 =>
  (idxL a0 a1).bind fun x7 =>
  (lex_Letter (x7.toNat : Int)).bind fun x8 =>
  if x8 = true then
    if (decide ((32 : Int) < (x2.length : Int))) = true then
      some ((T_lex_Token.mk (0 : Int) (0 : Int) [] (0 : Int)), (102 : Int))
    else
      some ((T_lex_Token.mk (1 : Int) a1 x2 (0 : Int)), (0 : Int))
  else
    (lex_Digit (x7.toNat : Int)).bind fun x16 =>
    if x16 = true then
      (lex_value n x2).bind fun x19 =>
      if (!x19.2) = true then
        some ((T_lex_Token.mk (0 : Int) (0 : Int) [] (0 : Int)), (101 : Int))
      else
        some ((T_lex_Token.mk (2 : Int) a1 x2 x19.1), (0 : Int))
    else
      need ((0 : Int) ≤ a1 ∧ a1 ≤ (a0.length : Int)) <|
      (lex_sign n (a0.drop a1.toNat)).bind fun x22 =>
      if (decide (x22 = ([] : Str))) = true then
        some ((T_lex_Token.mk (0 : Int) (0 : Int) [] (0 : Int)), (100 : Int))
      else
        some ((T_lex_Token.mk (3 : Int) a1 x22 (0 : Int)), (0 : Int))

/- lex.Tokens -/
def lex_Tokens_l1 (n : Nat) (a0 : Str) : Nat → (List T_lex_Token) → Int → Option ((List T_lex_Token) ⊕ ((List T_lex_Token) × Int × Int))
  | 0, _, _ => none
  | c8 + 1, v5, v6 =>
    if (decide (v6 < (a0.length : Int))) = true then
      (lex_next n a0 v6).bind fun x13 =>
      if (x13.2 != (0 : Int)) = true then
        some (.inr ([], x13.2, v6))
      else
        need (v5.length + [x13.1].length ≤ 1073741824) <|
        (lex_skip n a0 (IntKind.i64.wrap (v6 + (x13.1.Text_.length : Int)))).bind fun x20 =>
        lex_Tokens_l1 n a0 c8 (v5 ++ [x13.1]) x20
    else
      some (.inl v5)
def lex_Tokens (n : Nat) (a0 : Str) : Option ((List T_lex_Token) × Int × Int) :=
  if (decide ((65536 : Int) < (a0.length : Int))) = true then
    some ([], (161 : Int), (0 : Int))
  else
    (lex_skip n a0 (0 : Int)).bind fun x2 =>
    (lex_Tokens_l1 n a0 n [] x2).bind fun y7 =>
    y7.elim (fun y7a =>
      need (y7a.length + [(T_lex_Token.mk (4 : Int) (a0.length : Int) [] (0 : Int))].length ≤ 1073741824) <|
      some ((y7a ++ [(T_lex_Token.mk (4 : Int) (a0.length : Int) [] (0 : Int))]), (0 : Int), (0 : Int))) (fun y7a =>
      some y7a)

/- (*parse.parser).token -/
def p_parse_parser_token (a0 : T_parse_parser) : Option T_lex_Token :=
  (idxL a0.l_ a0.at_).bind fun x2 =>
  some x2

/- (*parse.parser).fail -/
def p_parse_parser_fail (a0 : T_parse_parser) (a1 : Int) : Option T_parse_parser :=
  if (a0.e_ == (0 : Int)) = true then
    (p_parse_parser_token a0).bind fun x2 =>
    some ({ a0 with e_ := a1, where_ := x2.At_ } : T_parse_parser)
  else
    some a0

/- (*parse.parser).node -/
def p_parse_parser_node (a0 : T_parse_parser) (a1 : Int) : Option (T_parse_Node × T_parse_parser) :=
  if (decide ((16384 : Int) < (IntKind.i64.wrap (a0.nodes_ + (1 : Int))))) = true then
    (p_parse_parser_fail ({ a0 with nodes_ := (IntKind.i64.wrap (a0.nodes_ + (1 : Int))) } : T_parse_parser) (136 : Int)).bind fun x3 =>
    (p_parse_parser_token x3).bind fun x5 =>
    some ((T_parse_Node.mk a1 x5.At_ [] (0 : Int) []), x3)
  else
    (p_parse_parser_token ({ a0 with nodes_ := (IntKind.i64.wrap (a0.nodes_ + (1 : Int))) } : T_parse_parser)).bind fun x7 =>
    some ((T_parse_Node.mk a1 x7.At_ [] (0 : Int) []), ({ a0 with nodes_ := (IntKind.i64.wrap (a0.nodes_ + (1 : Int))) } : T_parse_parser))

/- slices.Index[[]string,string] -/
def slices_Index_L_string_string_l1 (a0 : (List Str)) (a1 : Str) : Nat → Int → Option (Unit ⊕ Int)
  | 0, _ => none
  | c4 + 1, v2 =>
    if (decide (v2 < (a0.length : Int))) = true then
      (idxL a0 v2).bind fun x9 =>
      if (decide (a1 = x9)) = true then
        some (.inr v2)
      else
        slices_Index_L_string_string_l1 a0 a1 c4 (IntKind.i64.wrap (v2 + (1 : Int)))
    else
      some (.inl ())
def slices_Index_L_string_string (n : Nat) (a0 : (List Str)) (a1 : Str) : Option Int :=
  (slices_Index_L_string_string_l1 a0 a1 n (0 : Int)).bind fun y3 =>
  y3.elim (fun y3a =>
    some (-1 : Int)) (fun y3a =>
    some y3a)

/- slices.Contains[[]string,string] -/
def slices_Contains_L_string_string (n : Nat) (a0 : (List Str)) (a1 : Str) : Option Bool :=
  (slices_Index_L_string_string n a0 a1).bind fun x1 =>
  some (decide ((0 : Int) ≤ x1))

/- parse.Word -/
def parse_Word (n : Nat) (a0 : Str) : Option Bool :=
  (slices_Contains_L_string_string n g_parse_words a0).bind fun x1 =>
  some x1

/- (*parse.parser).is -/
def p_parse_parser_is (n : Nat) (a0 : T_parse_parser) (a1 : Str) : Option Bool :=
  (p_parse_parser_token a0).bind fun x1 =>
  (if (a0.e_ == (0 : Int)) = true then
      if (decide (x1.Text_ = a1)) = true then
        if (x1.Kind_ == (3 : Int)) = true then
          some true
        else
          if (x1.Kind_ == (1 : Int)) = true then
            (parse_Word n a1).bind fun x9 =>
            some x9
          else
            some false
      else
        some false
    else
      some false).bind fun y4 =>
  some y4

/- (*parse.parser).take -/
def p_parse_parser_take (n : Nat) (a0 : T_parse_parser) (a1 : Str) : Option (Bool × T_parse_parser) :=
  (p_parse_parser_is n a0 a1).bind fun x1 =>
  if (!x1) = true then
    some (false, a0)
  else
    some (true, ({ a0 with at_ := (IntKind.i64.wrap (a0.at_ + (1 : Int))) } : T_parse_parser))

/- (*parse.parser).need -/
def p_parse_parser_need (n : Nat) (a0 : T_parse_parser) (a1 : Str) : Option T_parse_parser :=
  (p_parse_parser_take n a0 a1).bind fun x1 =>
  if (!x1.1) = true then
    (p_parse_parser_fail x1.2 (110 : Int)).bind fun x4 =>
    some x4
  else
    some x1.2

/- (*parse.parser).name -/
def p_parse_parser_name (n : Nat) (a0 : T_parse_parser) : Option (Str × T_parse_parser) :=
  (p_parse_parser_token a0).bind fun x1 =>
  (if (a0.e_ != (0 : Int)) = true then
      some true
    else
      if (x1.Kind_ != (1 : Int)) = true then
        some true
      else
        (parse_Word n x1.Text_).bind fun x7 =>
        some x7).bind fun y4 =>
  if y4 = true then
    (p_parse_parser_fail a0 (110 : Int)).bind fun x13 =>
    some (([] : Str), x13)
  else
    some (x1.Text_, ({ a0 with at_ := (IntKind.i64.wrap (a0.at_ + (1 : Int))) } : T_parse_parser))

/- (*parse.parser).number -/
def p_parse_parser_number (a0 : T_parse_parser) : Option (Int × T_parse_parser) :=
  (p_parse_parser_token a0).bind fun x1 =>
  (if (a0.e_ != (0 : Int)) = true then
      some true
    else
      some (x1.Kind_ != (2 : Int))).bind fun y4 =>
  if y4 = true then
    (p_parse_parser_fail a0 (110 : Int)).bind fun x10 =>
    some ((0 : Int), x10)
  else
    some (x1.Num_, ({ a0 with at_ := (IntKind.i64.wrap (a0.at_ + (1 : Int))) } : T_parse_parser))

/- (*parse.parser).size -/
def p_parse_parser_size (n : Nat) (a0 : T_parse_parser) : Option (Int × T_parse_parser) :=
  (p_parse_parser_need n a0 ([91] : Str)).bind fun x1 =>
  (p_parse_parser_number x1).bind fun x3 =>
  (p_parse_parser_need n x3.2 ([93] : Str)).bind fun x5 =>
  some (x3.1, x5)

/- (*parse.parser).param -/
def p_parse_parser_param_k1 : List Str := [([112, 117, 98] : Str), ([117, 51, 50] : Str), ([117, 54, 52] : Str)]
def p_parse_parser_param_l1 (n : Nat) : Nat → Int → T_parse_parser → T_parse_Node → T_parse_Node → Option ((T_parse_parser × T_parse_Node × T_parse_Node) ⊕ (T_parse_Node × T_parse_parser))
  | 0, _, _, _, _ => none
  | c15 + 1, v10, v11, v12, v13 =>
    if (decide (v10 < (3 : Int))) = true then
      (idxL p_parse_parser_param_k1 v10).bind fun x20 =>
      (p_parse_parser_take n v11 x20).bind fun x29 =>
      if x29.1 = true then
        some (.inr (({ v13 with Num_ := (IntKind.u32.wrap (IntKind.i64.wrap ((1 : Int) + v10))) } : T_parse_Node), x29.2))
      else
        p_parse_parser_param_l1 n c15 (IntKind.i64.wrap (v10 + (1 : Int))) x29.2 v12 v13
    else
      some (.inl (v11, v12, v13))
def p_parse_parser_param (n : Nat) (a0 : T_parse_parser) : Option (T_parse_Node × T_parse_parser) :=
  (p_parse_parser_node a0 (3 : Int)).bind fun x2 =>
  (p_parse_parser_name n x2.2).bind fun x5 =>
  (p_parse_parser_need n x5.2 ([58] : Str)).bind fun x7 =>
  (p_parse_parser_param_l1 n n (0 : Int) x7 (T_parse_Node.mk (0 : Int) (0 : Int) [] (0 : Int) []) ({ x2.1 with Text_ := x5.1 } : T_parse_Node)).bind fun y14 =>
  y14.elim (fun y14a =>
    (p_parse_parser_node y14a.1 (14 : Int)).bind fun x37 =>
    (p_parse_parser_size n x37.2).bind fun x40 =>
    some (({ y14a.2.2 with Num_ := (4 : Int), List_ := [({ x37.1 with Num_ := x40.1 } : T_parse_Node)] } : T_parse_Node), x40.2)) (fun y14a =>
    some y14a)

/- (*parse.parser).list -/
def p_parse_parser_list__param_l1 (n : Nat) : Nat → (List T_parse_Node) → T_parse_parser → Option ((List T_parse_Node) × T_parse_parser)
  | 0, _, _ => none
  | c11 + 1, v8, v9 =>
    if (v9.e_ == (0 : Int)) = true then
      (p_parse_parser_param n v9).bind fun x16 =>
      need (v8.length + [x16.1].length ≤ 1073741824) <|
      (p_parse_parser_take n x16.2 ([44] : Str)).bind fun x21 =>
      if (!x21.1) = true then
        some ((v8 ++ [x16.1]), x21.2)
      else
        p_parse_parser_list__param_l1 n c11 (v8 ++ [x16.1]) x21.2
    else
      some (v8, v9)
def p_parse_parser_list__param (n : Nat) (a0 : T_parse_parser) : Option ((List T_parse_Node) × T_parse_parser) :=
  (p_parse_parser_need n a0 ([40] : Str)).bind fun x1 =>
  (p_parse_parser_take n x1 ([41] : Str)).bind fun x3 =>
  if x3.1 = true then
    some ([], x3.2)
  else
    ((p_parse_parser_list__param_l1 n n [] x3.2).bind fun y10 =>
      some (y10.1, y10.2)).bind fun y6 =>
    (p_parse_parser_need n y6.2 ([41] : Str)).bind fun x27 =>
    some (y6.1, x27)

/- (*parse.parser).deep -/
def p_parse_parser_deep (a0 : T_parse_parser) (a1 : Int) : Option T_parse_parser :=
  if (decide ((64 : Int) < a1)) = true then
    (p_parse_parser_fail a0 (111 : Int)).bind fun x2 =>
    some x2
  else
    some a0

/- (*parse.parser).sign -/
def p_parse_parser_sign_l1 (n : Nat) (x1 : (List Str)) (a0 : T_parse_parser) : Nat → Int → Option (Unit ⊕ Str)
  | 0, _ => none
  | c15 + 1, v13 =>
    if (decide (v13 < (3 : Int))) = true then
      (idxL x1 v13).bind fun x20 =>
      (if (decide (x20 ≠ ([] : Str))) = true then
          (p_parse_parser_is n a0 x20).bind fun x31 =>
          some x31
        else
          some false).bind fun y29 =>
      if y29 = true then
        some (.inr x20)
      else
        p_parse_parser_sign_l1 n x1 a0 c15 (IntKind.i64.wrap (v13 + (1 : Int)))
    else
      some (.inl ())
def p_parse_parser_sign (n : Nat) (a0 : T_parse_parser) (a1 : Int) : Option Str :=
  (idxL g_parse_levels a1).bind fun x1 =>
  (p_parse_parser_sign_l1 n x1 a0 n (0 : Int)).bind fun y14 =>
  y14.elim (fun y14a =>
    some ([] : Str)) (fun y14a =>
    some y14a)

/- (*parse.parser).list -/
def p_parse_parser_list__operand_1_l1 (rec_p_parse_parser_operand_1 : T_parse_parser → Int → Option (T_parse_Node × T_parse_parser)) (n : Nat) (a1 : Int) : Nat → (List T_parse_Node) → T_parse_parser → Option ((List T_parse_Node) × T_parse_parser)
  | 0, _, _ => none
  | c11 + 1, v8, v9 =>
    if (v9.e_ == (0 : Int)) = true then
      (rec_p_parse_parser_operand_1 v9 a1).bind fun x16 =>
      need (v8.length + [x16.1].length ≤ 1073741824) <|
      (p_parse_parser_take n x16.2 ([44] : Str)).bind fun x21 =>
      if (!x21.1) = true then
        some ((v8 ++ [x16.1]), x21.2)
      else
        p_parse_parser_list__operand_1_l1 rec_p_parse_parser_operand_1 n a1 c11 (v8 ++ [x16.1]) x21.2
    else
      some (v8, v9)
def p_parse_parser_list__operand_1_b (rec_p_parse_parser_operand_1 : T_parse_parser → Int → Option (T_parse_Node × T_parse_parser)) (n : Nat) (a0 : T_parse_parser) (a1 : Int) : Option ((List T_parse_Node) × T_parse_parser) :=
  (p_parse_parser_need n a0 ([40] : Str)).bind fun x1 =>
  (p_parse_parser_take n x1 ([41] : Str)).bind fun x3 =>
  if x3.1 = true then
    some ([], x3.2)
  else
    ((p_parse_parser_list__operand_1_l1 rec_p_parse_parser_operand_1 n a1 n [] x3.2).bind fun y10 =>
      some (y10.1, y10.2)).bind fun y6 =>
    (p_parse_parser_need n y6.2 ([41] : Str)).bind fun x27 =>
    some (y6.1, x27)

/- (*parse.parser).expr -/
def p_parse_parser_expr_b (rec_p_parse_parser_level : T_parse_parser → Int → Int → Option (T_parse_Node × T_parse_parser)) (n : Nat) (a0 : T_parse_parser) (a1 : Int) : Option (T_parse_Node × T_parse_parser) :=
  (rec_p_parse_parser_level a0 (0 : Int) a1).bind fun x2 =>
  some (x2.1, x2.2)

/- (*parse.parser).level -/
def p_parse_parser_level_l1 (rec_p_parse_parser_level : T_parse_parser → Int → Int → Option (T_parse_Node × T_parse_parser)) (n : Nat) (a1 : Int) (a2 : Int) : Nat → Str → T_parse_parser → T_parse_Node → Option (T_parse_parser × T_parse_Node)
  | 0, _, _, _ => none
  | c15 + 1, v11, v12, v13 =>
    if (decide (v11 ≠ ([] : Str))) = true then
      (p_parse_parser_node v12 (19 : Int)).bind fun x20 =>
      (p_parse_parser_need n x20.2 v11).bind fun x23 =>
      (rec_p_parse_parser_level x23 (IntKind.i64.wrap (a1 + (1 : Int))) a2).bind fun x25 =>
      if (a1 == (3 : Int)) = true then
        some (x25.2, ({ x20.1 with Text_ := v11, List_ := [v13, x25.1] } : T_parse_Node))
      else
        (p_parse_parser_sign n x25.2 a1).bind fun x28 =>
        p_parse_parser_level_l1 rec_p_parse_parser_level n a1 a2 c15 x28 x25.2 ({ x20.1 with Text_ := v11, List_ := [v13, x25.1] } : T_parse_Node)
    else
      some (v12, v13)
def p_parse_parser_level_b (rec_p_parse_parser_operand : T_parse_parser → Int → Option (T_parse_Node × T_parse_parser)) (rec_p_parse_parser_level : T_parse_parser → Int → Int → Option (T_parse_Node × T_parse_parser)) (n : Nat) (a0 : T_parse_parser) (a1 : Int) (a2 : Int) : Option (T_parse_Node × T_parse_parser) :=
  if (a1 == (7 : Int)) = true then
    (rec_p_parse_parser_operand a0 a2).bind fun x3 =>
    some (x3.1, x3.2)
  else
    (rec_p_parse_parser_level a0 (IntKind.i64.wrap (a1 + (1 : Int))) a2).bind fun x5 =>
    (p_parse_parser_sign n x5.2 a1).bind fun x8 =>
    (p_parse_parser_level_l1 rec_p_parse_parser_level n a1 a2 n x8 x5.2 x5.1).bind fun y14 =>
    some (y14.2, y14.1)

/- (*parse.parser).operand -/
def p_parse_parser_operand_k1 : List Str := [([126] : Str), ([45] : Str)]
def p_parse_parser_operand_l1 (rec_p_parse_parser_operand : T_parse_parser → Int → Option (T_parse_Node × T_parse_parser)) (n : Nat) (a1 : Int) : Nat → Int → T_parse_parser → T_parse_Node → T_parse_Node → Option ((T_parse_parser × T_parse_Node × T_parse_Node) ⊕ (T_parse_Node × T_parse_parser))
  | 0, _, _, _, _ => none
  | c23 + 1, v18, v19, v20, v21 =>
    if (decide (v18 < (2 : Int))) = true then
      (idxL p_parse_parser_operand_k1 v18).bind fun x28 =>
      (p_parse_parser_take n v19 x28).bind fun x37 =>
      if x37.1 = true then
        (rec_p_parse_parser_operand x37.2 (IntKind.i64.wrap (a1 + (1 : Int)))).bind fun x40 =>
        some (.inr (({ v20 with Kind_ := (18 : Int), Text_ := x28, List_ := [x40.1] } : T_parse_Node), x40.2))
      else
        p_parse_parser_operand_l1 rec_p_parse_parser_operand n a1 c23 (IntKind.i64.wrap (v18 + (1 : Int))) x37.2 v20 v21
    else
      some (.inl (v19, v20, v21))
def p_parse_parser_operand_b (rec_p_parse_parser_expr : T_parse_parser → Int → Option (T_parse_Node × T_parse_parser)) (rec_p_parse_parser_operand : T_parse_parser → Int → Option (T_parse_Node × T_parse_parser)) (rec_p_parse_parser_list__operand_1 : T_parse_parser → Int → Option ((List T_parse_Node) × T_parse_parser)) (n : Nat) (a0 : T_parse_parser) (a1 : Int) : Option (T_parse_Node × T_parse_parser) :=
  (p_parse_parser_deep a0 a1).bind fun x4 =>
  (p_parse_parser_take n x4 ([40] : Str)).bind fun x6 =>
  if x6.1 = true then
    (rec_p_parse_parser_expr x6.2 (IntKind.i64.wrap (a1 + (1 : Int)))).bind fun x9 =>
    (p_parse_parser_need n x9.2 ([41] : Str)).bind fun x12 =>
    some (x9.1, x12)
  else
    (p_parse_parser_node x6.2 (15 : Int)).bind fun x14 =>
    (p_parse_parser_operand_l1 rec_p_parse_parser_operand n a1 n (0 : Int) x14.2 x14.1 (T_parse_Node.mk (0 : Int) (0 : Int) [] (0 : Int) [])).bind fun y22 =>
    y22.elim (fun y22a =>
      (if (y22a.1.e_ == (0 : Int)) = true then
          (p_parse_parser_token y22a.1).bind fun x72 =>
          some (x72.Kind_ == (2 : Int))
        else
          some false).bind fun y70 =>
      if y70 = true then
        (p_parse_parser_number y22a.1).bind fun x78 =>
        some (({ y22a.2.1 with Kind_ := (14 : Int), Num_ := x78.1 } : T_parse_Node), x78.2)
      else
        (p_parse_parser_name n y22a.1).bind fun x80 =>
        ((p_parse_parser_is n x80.2 ([40] : Str)).bind fun x83 =>
          if x83 = true then
            (rec_p_parse_parser_list__operand_1 x80.2 a1).bind fun x86 =>
            some (x86.2, ({ y22a.2.1 with Kind_ := (17 : Int), Text_ := x80.1, List_ := x86.1 } : T_parse_Node))
          else
            (p_parse_parser_take n x80.2 ([91] : Str)).bind fun x88 =>
            if x88.1 = true then
              (rec_p_parse_parser_expr x88.2 (IntKind.i64.wrap (a1 + (1 : Int)))).bind fun x91 =>
              (p_parse_parser_need n x91.2 ([93] : Str)).bind fun x93 =>
              some (x93, ({ y22a.2.1 with Kind_ := (16 : Int), Text_ := x80.1, List_ := [x91.1] } : T_parse_Node))
            else
              some (x88.2, ({ y22a.2.1 with Text_ := x80.1 } : T_parse_Node))).bind fun y82 =>
        some (y82.2, y82.1)) (fun y22a =>
      some y22a)

/- (*parse.parser).operand$1 -/
def p_parse_parser_operand_1_b (rec_p_parse_parser_expr : T_parse_parser → Int → Option (T_parse_Node × T_parse_parser)) (n : Nat) (a0 : T_parse_parser) (a1 : Int) : Option (T_parse_Node × T_parse_parser) :=
  (rec_p_parse_parser_expr a0 (IntKind.i64.wrap (a1 + (1 : Int)))).bind fun x2 =>
  some (x2.1, x2.2)

def p_parse_parser_list__operand_1_grp : Nat → (T_parse_parser → Int → Option ((List T_parse_Node) × T_parse_parser)) × (T_parse_parser → Int → Option (T_parse_Node × T_parse_parser)) × (T_parse_parser → Int → Int → Option (T_parse_Node × T_parse_parser)) × (T_parse_parser → Int → Option (T_parse_Node × T_parse_parser)) × (T_parse_parser → Int → Option (T_parse_Node × T_parse_parser))
  | 0 => (fun _ _ => none, fun _ _ => none, fun _ _ _ => none, fun _ _ => none, fun _ _ => none)
  | n + 1 => (p_parse_parser_list__operand_1_b (p_parse_parser_list__operand_1_grp n).2.2.2.2 n, p_parse_parser_expr_b (p_parse_parser_list__operand_1_grp n).2.2.1 n, p_parse_parser_level_b (p_parse_parser_list__operand_1_grp n).2.2.2.1 (p_parse_parser_list__operand_1_grp n).2.2.1 n, p_parse_parser_operand_b (p_parse_parser_list__operand_1_grp n).2.1 (p_parse_parser_list__operand_1_grp n).2.2.2.1 (p_parse_parser_list__operand_1_grp n).1 n, p_parse_parser_operand_1_b (p_parse_parser_list__operand_1_grp n).2.1 n)
def p_parse_parser_list__operand_1 (n : Nat) : T_parse_parser → Int → Option ((List T_parse_Node) × T_parse_parser) := (p_parse_parser_list__operand_1_grp n).1
def p_parse_parser_expr (n : Nat) : T_parse_parser → Int → Option (T_parse_Node × T_parse_parser) := (p_parse_parser_list__operand_1_grp n).2.1
def p_parse_parser_level (n : Nat) : T_parse_parser → Int → Int → Option (T_parse_Node × T_parse_parser) := (p_parse_parser_list__operand_1_grp n).2.2.1
def p_parse_parser_operand (n : Nat) : T_parse_parser → Int → Option (T_parse_Node × T_parse_parser) := (p_parse_parser_list__operand_1_grp n).2.2.2.1
def p_parse_parser_operand_1 (n : Nat) : T_parse_parser → Int → Option (T_parse_Node × T_parse_parser) := (p_parse_parser_list__operand_1_grp n).2.2.2.2

/- (*parse.parser).named -/
def p_parse_parser_named (n : Nat) (a0 : T_parse_parser) (a1 : T_parse_Node) (a2 : Int) : Option (T_parse_Node × T_parse_parser) :=
  (p_parse_parser_name n a0).bind fun x3 =>
  (p_parse_parser_need n x3.2 ([61] : Str)).bind fun x5 =>
  (p_parse_parser_expr n x5 a2).bind fun x7 =>
  (p_parse_parser_need n x7.2 ([59] : Str)).bind fun x9 =>
  some (({ a1 with Text_ := x3.1, List_ := [x7.1] } : T_parse_Node), x9)

/- (*parse.parser).plain$1 -/
def p_parse_parser_plain_1 (n : Nat) (a0 : T_parse_parser) (a1 : Int) : Option (T_parse_Node × T_parse_parser) :=
  (p_parse_parser_expr n a0 (IntKind.i64.wrap (a1 + (2 : Int)))).bind fun x2 =>
  some (x2.1, x2.2)

/- (*parse.parser).list -/
def p_parse_parser_list__plain_1_l1 (n : Nat) (a1 : Int) : Nat → (List T_parse_Node) → T_parse_parser → Option ((List T_parse_Node) × T_parse_parser)
  | 0, _, _ => none
  | c11 + 1, v8, v9 =>
    if (v9.e_ == (0 : Int)) = true then
      (p_parse_parser_plain_1 n v9 a1).bind fun x16 =>
      need (v8.length + [x16.1].length ≤ 1073741824) <|
      (p_parse_parser_take n x16.2 ([44] : Str)).bind fun x21 =>
      if (!x21.1) = true then
        some ((v8 ++ [x16.1]), x21.2)
      else
        p_parse_parser_list__plain_1_l1 n a1 c11 (v8 ++ [x16.1]) x21.2
    else
      some (v8, v9)
def p_parse_parser_list__plain_1 (n : Nat) (a0 : T_parse_parser) (a1 : Int) : Option ((List T_parse_Node) × T_parse_parser) :=
  (p_parse_parser_need n a0 ([40] : Str)).bind fun x1 =>
  (p_parse_parser_take n x1 ([41] : Str)).bind fun x3 =>
  if x3.1 = true then
    some ([], x3.2)
  else
    ((p_parse_parser_list__plain_1_l1 n a1 n [] x3.2).bind fun y10 =>
      some (y10.1, y10.2)).bind fun y6 =>
    (p_parse_parser_need n y6.2 ([41] : Str)).bind fun x27 =>
    some (y6.1, x27)

/- (*parse.parser).plain -/
def p_parse_parser_plain (n : Nat) (a0 : T_parse_parser) (a1 : T_parse_Node) (a2 : Int) : Option (T_parse_Node × T_parse_parser) :=
  (p_parse_parser_name n a0).bind fun x5 =>
  ((p_parse_parser_is n x5.2 ([40] : Str)).bind fun x8 =>
    if x8 = true then
      (p_parse_parser_list__plain_1 n x5.2 a2).bind fun x11 =>
      some (x11.2, ({ a1 with Kind_ := (10 : Int), Text_ := x5.1, List_ := x11.1 } : T_parse_Node))
    else
      (p_parse_parser_take n x5.2 ([91] : Str)).bind fun x13 =>
      if x13.1 = true then
        (p_parse_parser_expr n x13.2 (IntKind.i64.wrap (a2 + (2 : Int)))).bind fun x16 =>
        (p_parse_parser_need n x16.2 ([93] : Str)).bind fun x18 =>
        (p_parse_parser_need n x18 ([61] : Str)).bind fun x20 =>
        (p_parse_parser_expr n x20 (IntKind.i64.wrap (a2 + (1 : Int)))).bind fun x22 =>
        need ([x16.1].length + [x22.1].length ≤ 1073741824) <|
        some (x22.2, ({ a1 with Kind_ := (9 : Int), Text_ := x5.1, List_ := ([x16.1] ++ [x22.1]) } : T_parse_Node))
      else
        (p_parse_parser_need n x13.2 ([61] : Str)).bind fun x25 =>
        (p_parse_parser_expr n x25 (IntKind.i64.wrap (a2 + (1 : Int)))).bind fun x27 =>
        some (x27.2, ({ a1 with Text_ := x5.1, List_ := [x27.1] } : T_parse_Node))).bind fun y7 =>
  (p_parse_parser_need n y7.1 ([59] : Str)).bind fun x32 =>
  some (y7.2, x32)

/- (*parse.parser).block -/
def p_parse_parser_block_l1 (rec_p_parse_parser_statement : T_parse_parser → Int → Option (T_parse_Node × T_parse_parser)) (n : Nat) (a1 : Int) : Nat → T_parse_parser → T_parse_Node → Option (T_parse_parser × T_parse_Node)
  | 0, _, _ => none
  | c13 + 1, v10, v11 =>
    (if (v10.e_ == (0 : Int)) = true then
        (p_parse_parser_is n v10 ([125] : Str)).bind fun x19 =>
        some (!x19)
      else
        some false).bind fun y17 =>
    if y17 = true then
      (rec_p_parse_parser_statement v10 a1).bind fun x25 =>
      need (v11.List_.length + [x25.1].length ≤ 1073741824) <|
      p_parse_parser_block_l1 rec_p_parse_parser_statement n a1 c13 x25.2 ({ v11 with List_ := (v11.List_ ++ [x25.1]) } : T_parse_Node)
    else
      some (v10, v11)
def p_parse_parser_block_b (rec_p_parse_parser_statement : T_parse_parser → Int → Option (T_parse_Node × T_parse_parser)) (n : Nat) (a0 : T_parse_parser) (a1 : Int) : Option (T_parse_Node × T_parse_parser) :=
  (p_parse_parser_deep a0 a1).bind fun x2 =>
  (p_parse_parser_node x2 (4 : Int)).bind fun x4 =>
  (p_parse_parser_need n x4.2 ([123] : Str)).bind fun x7 =>
  (p_parse_parser_block_l1 rec_p_parse_parser_statement n a1 n x7 x4.1).bind fun y12 =>
  (p_parse_parser_need n y12.1 ([125] : Str)).bind fun x32 =>
  some (y12.2, x32)

/- (*parse.parser).statement -/
def p_parse_parser_statement_b (rec_p_parse_parser_choice : T_parse_parser → T_parse_Node → Int → Option (T_parse_Node × T_parse_parser)) (rec_p_parse_parser_loop : T_parse_parser → T_parse_Node → Int → Option (T_parse_Node × T_parse_parser)) (n : Nat) (a0 : T_parse_parser) (a1 : Int) : Option (T_parse_Node × T_parse_parser) :=
  (p_parse_parser_node a0 (8 : Int)).bind fun x2 =>
  ((p_parse_parser_take n x2.2 ([108, 101, 116] : Str)).bind fun x6 =>
    if x6.1 = true then
      (p_parse_parser_named n x6.2 ({ x2.1 with Kind_ := (5 : Int) } : T_parse_Node) (IntKind.i64.wrap (a1 + (1 : Int)))).bind fun x9 =>
      some (.inr (x9.1, x9.2))
    else
      (p_parse_parser_take n x6.2 ([118, 97, 114] : Str)).bind fun x11 =>
      if x11.1 = true then
        (p_parse_parser_named n x11.2 ({ x2.1 with Kind_ := (6 : Int) } : T_parse_Node) (IntKind.i64.wrap (a1 + (1 : Int)))).bind fun x14 =>
        some (.inr (x14.1, x14.2))
      else
        (p_parse_parser_take n x11.2 ([97, 114, 114] : Str)).bind fun x16 =>
        if x16.1 = true then
          (p_parse_parser_name n x16.2).bind fun x19 =>
          (p_parse_parser_size n x19.2).bind fun x21 =>
          some (.inl (x21.2, ({ x2.1 with Kind_ := (7 : Int), Text_ := x19.1, Num_ := x21.1 } : T_parse_Node)))
        else
          (p_parse_parser_take n x16.2 ([114, 101, 116, 117, 114, 110] : Str)).bind fun x23 =>
          if x23.1 = true then
            (p_parse_parser_expr n x23.2 (IntKind.i64.wrap (a1 + (1 : Int)))).bind fun x26 =>
            some (.inl (x26.2, ({ x2.1 with Kind_ := (13 : Int), List_ := [x26.1] } : T_parse_Node)))
          else
            (p_parse_parser_take n x23.2 ([105, 102] : Str)).bind fun x28 =>
            if x28.1 = true then
              (rec_p_parse_parser_choice x28.2 x2.1 a1).bind fun x31 =>
              some (.inr (x31.1, x31.2))
            else
              (p_parse_parser_take n x28.2 ([102, 111, 114] : Str)).bind fun x33 =>
              if x33.1 = true then
                (rec_p_parse_parser_loop x33.2 x2.1 a1).bind fun x36 =>
                some (.inr (x36.1, x36.2))
              else
                (p_parse_parser_plain n x33.2 x2.1 a1).bind fun x38 =>
                some (.inr (x38.1, x38.2)) : Option ((T_parse_parser × T_parse_Node) ⊕ (T_parse_Node × T_parse_parser))).bind fun y5 =>
  y5.elim (fun y5a =>
    (p_parse_parser_need n y5a.1 ([59] : Str)).bind fun x43 =>
    some (y5a.2, x43)) (fun y5a =>
    some y5a)

/- (*parse.parser).choice -/
def p_parse_parser_choice_b (rec_p_parse_parser_block : T_parse_parser → Int → Option (T_parse_Node × T_parse_parser)) (n : Nat) (a0 : T_parse_parser) (a1 : T_parse_Node) (a2 : Int) : Option (T_parse_Node × T_parse_parser) :=
  (p_parse_parser_expr n a0 (IntKind.i64.wrap (a2 + (1 : Int)))).bind fun x3 =>
  (rec_p_parse_parser_block x3.2 (IntKind.i64.wrap (a2 + (1 : Int)))).bind fun x5 =>
  need ([x3.1].length + [x5.1].length ≤ 1073741824) <|
  (p_parse_parser_take n x5.2 ([101, 108, 115, 101] : Str)).bind fun x8 =>
  if x8.1 = true then
    (rec_p_parse_parser_block x8.2 (IntKind.i64.wrap (a2 + (1 : Int)))).bind fun x11 =>
    need (([x3.1] ++ [x5.1]).length + [x11.1].length ≤ 1073741824) <|
    some (({ a1 with Kind_ := (11 : Int), List_ := (([x3.1] ++ [x5.1]) ++ [x11.1]) } : T_parse_Node), x11.2)
  else
    some (({ a1 with Kind_ := (11 : Int), List_ := ([x3.1] ++ [x5.1]) } : T_parse_Node), x8.2)

/- (*parse.parser).loop -/
def p_parse_parser_loop_b (rec_p_parse_parser_block : T_parse_parser → Int → Option (T_parse_Node × T_parse_parser)) (n : Nat) (a0 : T_parse_parser) (a1 : T_parse_Node) (a2 : Int) : Option (T_parse_Node × T_parse_parser) :=
  (p_parse_parser_name n a0).bind fun x3 =>
  (p_parse_parser_need n x3.2 ([105, 110] : Str)).bind fun x5 =>
  (p_parse_parser_expr n x5 (IntKind.i64.wrap (a2 + (1 : Int)))).bind fun x7 =>
  (p_parse_parser_need n x7.2 ([46, 46] : Str)).bind fun x9 =>
  (p_parse_parser_expr n x9 (IntKind.i64.wrap (a2 + (1 : Int)))).bind fun x11 =>
  need ([x7.1].length + [x11.1].length ≤ 1073741824) <|
  (rec_p_parse_parser_block x11.2 (IntKind.i64.wrap (a2 + (1 : Int)))).bind fun x14 =>
  need (([x7.1] ++ [x11.1]).length + [x14.1].length ≤ 1073741824) <|
  some (({ a1 with Kind_ := (12 : Int), Text_ := x3.1, List_ := (([x7.1] ++ [x11.1]) ++ [x14.1]) } : T_parse_Node), x14.2)

def p_parse_parser_block_grp : Nat → (T_parse_parser → Int → Option (T_parse_Node × T_parse_parser)) × (T_parse_parser → Int → Option (T_parse_Node × T_parse_parser)) × (T_parse_parser → T_parse_Node → Int → Option (T_parse_Node × T_parse_parser)) × (T_parse_parser → T_parse_Node → Int → Option (T_parse_Node × T_parse_parser))
  | 0 => (fun _ _ => none, fun _ _ => none, fun _ _ _ => none, fun _ _ _ => none)
  | n + 1 => (p_parse_parser_block_b (p_parse_parser_block_grp n).2.1 n, p_parse_parser_statement_b (p_parse_parser_block_grp n).2.2.1 (p_parse_parser_block_grp n).2.2.2 n, p_parse_parser_choice_b (p_parse_parser_block_grp n).1 n, p_parse_parser_loop_b (p_parse_parser_block_grp n).1 n)
def p_parse_parser_block (n : Nat) : T_parse_parser → Int → Option (T_parse_Node × T_parse_parser) := (p_parse_parser_block_grp n).1
def p_parse_parser_statement (n : Nat) : T_parse_parser → Int → Option (T_parse_Node × T_parse_parser) := (p_parse_parser_block_grp n).2.1
def p_parse_parser_choice (n : Nat) : T_parse_parser → T_parse_Node → Int → Option (T_parse_Node × T_parse_parser) := (p_parse_parser_block_grp n).2.2.1
def p_parse_parser_loop (n : Nat) : T_parse_parser → T_parse_Node → Int → Option (T_parse_Node × T_parse_parser) := (p_parse_parser_block_grp n).2.2.2

/- (*parse.parser).function -/
def p_parse_parser_function (n : Nat) (a0 : T_parse_parser) : Option (T_parse_Node × T_parse_parser) :=
  (p_parse_parser_node a0 (2 : Int)).bind fun x2 =>
  (p_parse_parser_take n x2.2 ([101, 120, 112, 111, 114, 116] : Str)).bind fun x5 =>
  if x5.1 = true then
    (p_parse_parser_need n x5.2 ([102, 110] : Str)).bind fun x8 =>
    (p_parse_parser_name n x8).bind fun x10 =>
    (p_parse_parser_list__param n x10.2).bind fun x12 =>
    (p_parse_parser_take n x12.2 ([45, 62] : Str)).bind fun x14 =>
    if x14.1 = true then
      (p_parse_parser_take n x14.2 ([117, 51, 50] : Str)).bind fun x17 =>
      if x17.1 = true then
        (p_parse_parser_block n x17.2 (1 : Int)).bind fun x20 =>
        need (x12.1.length + [x20.1].length ≤ 1073741824) <|
        some (({ x2.1 with Text_ := x10.1, Num_ := (orK .u32 (1 : Int) (2 : Int)), List_ := (x12.1 ++ [x20.1]) } : T_parse_Node), x20.2)
      else
        (p_parse_parser_need n x17.2 ([117, 54, 52] : Str)).bind fun x25 =>
        (p_parse_parser_block n x25 (1 : Int)).bind fun x27 =>
        need (x12.1.length + [x27.1].length ≤ 1073741824) <|
        some (({ x2.1 with Text_ := x10.1, Num_ := (orK .u32 (1 : Int) (4 : Int)), List_ := (x12.1 ++ [x27.1]) } : T_parse_Node), x27.2)
    else
      (p_parse_parser_block n x14.2 (1 : Int)).bind fun x32 =>
      need (x12.1.length + [x32.1].length ≤ 1073741824) <|
      some (({ x2.1 with Text_ := x10.1, Num_ := (1 : Int), List_ := (x12.1 ++ [x32.1]) } : T_parse_Node), x32.2)
  else
    (p_parse_parser_need n x5.2 ([102, 110] : Str)).bind fun x37 =>
    (p_parse_parser_name n x37).bind fun x39 =>
    (p_parse_parser_list__param n x39.2).bind fun x41 =>
    (p_parse_parser_take n x41.2 ([45, 62] : Str)).bind fun x43 =>
    if x43.1 = true then
      (p_parse_parser_take n x43.2 ([117, 51, 50] : Str)).bind fun x46 =>
      if x46.1 = true then
        (p_parse_parser_block n x46.2 (1 : Int)).bind fun x49 =>
        need (x41.1.length + [x49.1].length ≤ 1073741824) <|
        some (({ x2.1 with Text_ := x39.1, Num_ := (orK .u32 x2.1.Num_ (2 : Int)), List_ := (x41.1 ++ [x49.1]) } : T_parse_Node), x49.2)
      else
        (p_parse_parser_need n x46.2 ([117, 54, 52] : Str)).bind fun x54 =>
        (p_parse_parser_block n x54 (1 : Int)).bind fun x56 =>
        need (x41.1.length + [x56.1].length ≤ 1073741824) <|
        some (({ x2.1 with Text_ := x39.1, Num_ := (orK .u32 x2.1.Num_ (4 : Int)), List_ := (x41.1 ++ [x56.1]) } : T_parse_Node), x56.2)
    else
      (p_parse_parser_block n x43.2 (1 : Int)).bind fun x61 =>
      need (x41.1.length + [x61.1].length ≤ 1073741824) <|
      some (({ x2.1 with Text_ := x39.1, List_ := (x41.1 ++ [x61.1]) } : T_parse_Node), x61.2)

/- parse.Parse -/
def parse_Parse_l1 (n : Nat) : Nat → T_parse_parser → T_parse_Node → Option (T_parse_parser × T_parse_Node)
  | 0, _, _ => none
  | c13 + 1, v10, v11 =>
    (if (v10.e_ == (0 : Int)) = true then
        (p_parse_parser_token v10).bind fun x19 =>
        some (x19.Kind_ != (4 : Int))
      else
        some false).bind fun y17 =>
    if y17 = true then
      (p_parse_parser_function n v10).bind fun x25 =>
      need (v11.List_.length + [x25.1].length ≤ 1073741824) <|
      parse_Parse_l1 n c13 x25.2 ({ v11 with List_ := (v11.List_ ++ [x25.1]) } : T_parse_Node)
    else
      some (v10, v11)
def parse_Parse (n : Nat) (a0 : Str) : Option (T_parse_Node × Int × Int) :=
  (lex_Tokens n a0).bind fun x2 =>
  if (x2.2.1 != (0 : Int)) = true then
    some ((T_parse_Node.mk (0 : Int) (0 : Int) [] (0 : Int) []), x2.2.1, x2.2.2)
  else
    (p_parse_parser_node (T_parse_parser.mk x2.1 (0 : Int) (0 : Int) (0 : Int) (0 : Int)) (1 : Int)).bind fun x6 =>
    (parse_Parse_l1 n n x6.2 x6.1).bind fun y12 =>
    if (y12.1.e_ != (0 : Int)) = true then
      some ((T_parse_Node.mk (0 : Int) (0 : Int) [] (0 : Int) []), y12.1.e_, y12.1.where_)
    else
      some (y12.2, (0 : Int), (0 : Int))

/- remontoirelaw10.flat -/
def remontoirelaw10_flat_l1 (rec_remontoirelaw10_flat : T_parse_Node → Int → Option (List T_remontoireref10_N)) (a0 : T_parse_Node) (a1 : Int) : Nat → (List T_remontoireref10_N) → Int → Option (List T_remontoireref10_N)
  | 0, _, _ => none
  | c7 + 1, v4, v5 =>
    if (decide (v5 < (a0.List_.length : Int))) = true then
      (idxL a0.List_ v5).bind fun x12 =>
      (rec_remontoirelaw10_flat x12 (IntKind.i64.wrap (a1 + (1 : Int)))).bind fun x18 =>
      need (v4.length + x18.length ≤ 1073741824) <|
      remontoirelaw10_flat_l1 rec_remontoirelaw10_flat a0 a1 c7 (v4 ++ x18) (IntKind.i64.wrap (v5 + (1 : Int)))
    else
      some v4
def remontoirelaw10_flat_b (rec_remontoirelaw10_flat : T_parse_Node → Int → Option (List T_remontoireref10_N)) (n : Nat) (a0 : T_parse_Node) (a1 : Int) : Option (List T_remontoireref10_N) :=
  if (decide ((20000 : Int) < a1)) = true then
    some [(T_remontoireref10_N.mk a0.Kind_ a0.At_ a0.Text_ a0.Num_ (a0.List_.length : Int))]
  else
    (remontoirelaw10_flat_l1 rec_remontoirelaw10_flat a0 a1 n [(T_remontoireref10_N.mk a0.Kind_ a0.At_ a0.Text_ a0.Num_ (a0.List_.length : Int))] (0 : Int)).bind fun y6 =>
    some y6

def remontoirelaw10_flat : Nat → T_parse_Node → Int → Option (List T_remontoireref10_N)
  | 0 => fun _ _ => none
  | n + 1 => remontoirelaw10_flat_b (remontoirelaw10_flat n) n

/- remontoirelaw10.anchor -/
def remontoirelaw10_anchor (n : Nat) : Option Bool :=
  (parse_Parse n ([102, 110, 32, 102, 40, 41, 123, 120, 61, 49, 43, 50, 42, 51, 59, 125] : Str)).bind fun x1 =>
  (remontoirelaw10_flat n x1.1 (0 : Int)).bind fun x4 =>
  (if (x1.2.1 == (0 : Int)) = true then
      if ((x4.length : Int) == (9 : Int)) = true then
        (idxL x4 (4 : Int)).bind fun x9 =>
        if (decide (x9.Text_ = ([43] : Str))) = true then
          (idxL x4 (6 : Int)).bind fun x16 =>
          some (decide (x16.Text_ = ([42] : Str)))
        else
          some false
      else
        some false
    else
      some false).bind fun y6 =>
  some y6

/- remontoireref09.blanks -/
/- remontoireref09.letter -/
/- remontoireref09.digit -/
/- remontoireref09.number -/
/- remontoireref09.signLen -/
/- remontoireref09.Tokens -/
/- (remontoireref10.P).fail -/
/- (remontoireref10.P).node -/
/- remontoireref10.Word -/
/- (remontoireref10.P).is -/
/- (remontoireref10.P).take -/
/- (remontoireref10.P).need -/
/- (remontoireref10.P).name -/
/- (remontoireref10.P).number -/
/- (remontoireref10.P).size -/
/- (remontoireref10.P).param -/
/- (remontoireref10.P).params -/
/- (remontoireref10.P).sign -/
/- (remontoireref10.P).level -/
/- (remontoireref10.P).args -/
/- (remontoireref10.P).operand -/
/- (remontoireref10.P).one -/
/- (remontoireref10.P).plain -/
/- (remontoireref10.P).block -/
/- (remontoireref10.P).statement -/
/- (remontoireref10.P).within -/
/- (remontoireref10.P).function -/
/- remontoireref10.Parse -/
/- parse.Count -/
/- remontoirelaw10.ParseTrees -/
/- parse.Same -/
def parse_Same_b (rec_slices_EqualFunc_L_parse_Node_L_parse_Node_parse_Node_parse_Node__Same : (List T_parse_Node) → (List T_parse_Node) → Option Bool) (n : Nat) (a0 : T_parse_Node) (a1 : T_parse_Node) : Option Bool :=
  (if (a0.Kind_ == a1.Kind_) = true then
      if (decide (a0.Text_ = a1.Text_)) = true then
        if (a0.Num_ == a1.Num_) = true then
          (rec_slices_EqualFunc_L_parse_Node_L_parse_Node_parse_Node_parse_Node__Same a0.List_ a1.List_).bind fun x7 =>
          some x7
        else
          some false
      else
        some false
    else
      some false).bind fun y3 =>
  some y3

/- slices.EqualFunc[[]parse.Node,[]parse.Node,parse.Node,parse.Node] -/
def slices_EqualFunc_L_parse_Node_L_parse_Node_parse_Node_parse_Node__Same_l1 (rec_parse_Same : T_parse_Node → T_parse_Node → Option Bool) (a0 : (List T_parse_Node)) (a1 : (List T_parse_Node)) : Nat → Int → Option (Unit ⊕ Bool)
  | 0, _ => none
  | c5 + 1, v3 =>
    if (decide (v3 < (a0.length : Int))) = true then
      (idxL a0 v3).bind fun x10 =>
      (idxL a1 v3).bind fun x16 =>
      (rec_parse_Same x10 x16).bind fun x22 =>
      if (!x22) = true then
        some (.inr false)
      else
        slices_EqualFunc_L_parse_Node_L_parse_Node_parse_Node_parse_Node__Same_l1 rec_parse_Same a0 a1 c5 (IntKind.i64.wrap (v3 + (1 : Int)))
    else
      some (.inl ())
def slices_EqualFunc_L_parse_Node_L_parse_Node_parse_Node_parse_Node__Same_b (rec_parse_Same : T_parse_Node → T_parse_Node → Option Bool) (n : Nat) (a0 : (List T_parse_Node)) (a1 : (List T_parse_Node)) : Option Bool :=
  if ((a0.length : Int) != (a1.length : Int)) = true then
    some false
  else
    (slices_EqualFunc_L_parse_Node_L_parse_Node_parse_Node_parse_Node__Same_l1 rec_parse_Same a0 a1 n (0 : Int)).bind fun y4 =>
    y4.elim (fun y4a =>
      some true) (fun y4a =>
      some y4a)

def parse_Same_grp : Nat → (T_parse_Node → T_parse_Node → Option Bool) × ((List T_parse_Node) → (List T_parse_Node) → Option Bool)
  | 0 => (fun _ _ => none, fun _ _ => none)
  | n + 1 => (parse_Same_b (parse_Same_grp n).2 n, slices_EqualFunc_L_parse_Node_L_parse_Node_parse_Node_parse_Node__Same_b (parse_Same_grp n).1 n)
def parse_Same (n : Nat) : T_parse_Node → T_parse_Node → Option Bool := (parse_Same_grp n).1
def slices_EqualFunc_L_parse_Node_L_parse_Node_parse_Node_parse_Node__Same (n : Nat) : (List T_parse_Node) → (List T_parse_Node) → Option Bool := (parse_Same_grp n).2

/- remontoirelaw10.ParseJoins -/
def strings_Join (a0 : List Str) (a1 : Str) : Option Str := need (a0.length ≤ 140737488355328 ∧ (Lib.join a0 a1).length ≤ 140737488355328) <| some (Lib.join a0 a1)

def parse_digits (a0 : Int) : Option Str := need (0 ≤ a0 ∧ a0 ≤ 4294967295) <| some (Lib.decDigits a0.toNat)

/- parse.text -/
def parse_text_b (rec_parse_several : (List T_parse_Node) → Option Str) (rec_parse_function : T_parse_Node → Option Str) (rec_parse_param : T_parse_Node → Option Str) (rec_parse_at : T_parse_Node → Int → Option Str) (rec_parse_all : (List T_parse_Node) → Option Str) (rec_parse_statement : T_parse_Node → Option Str) (n : Nat) (a0 : T_parse_Node) : Option Str :=
  if (a0.Kind_ == (1 : Int)) = true then
    (rec_parse_several a0.List_).bind fun x3 =>
    some x3
  else
    if (a0.Kind_ == (2 : Int)) = true then
      (rec_parse_function a0).bind fun x6 =>
      some x6
    else
      if (a0.Kind_ == (3 : Int)) = true then
        (rec_parse_param a0).bind fun x9 =>
        some x9
      else
        if (a0.Kind_ == (4 : Int)) = true then
          (rec_parse_several a0.List_).bind fun x12 =>
          need (([123, 10] : Str).length + x12.length ≤ 4611686018427387904) <|
          need ((([123, 10] : Str) ++ x12).length + ([125] : Str).length ≤ 4611686018427387904) <|
          some ((([123, 10] : Str) ++ x12) ++ ([125] : Str))
        else
          if (a0.Kind_ == (14 : Int)) = true then
            (parse_digits a0.Num_).bind fun x20 =>
            some x20
          else
            if (a0.Kind_ == (15 : Int)) = true then
              some a0.Text_
            else
              if (a0.Kind_ == (16 : Int)) = true then
                (rec_parse_at a0 (0 : Int)).bind fun x24 =>
                need (a0.Text_.length + ([91] : Str).length ≤ 4611686018427387904) <|
                need ((a0.Text_ ++ ([91] : Str)).length + x24.length ≤ 4611686018427387904) <|
                need (((a0.Text_ ++ ([91] : Str)) ++ x24).length + ([93] : Str).length ≤ 4611686018427387904) <|
                some (((a0.Text_ ++ ([91] : Str)) ++ x24) ++ ([93] : Str))
              else
                if (a0.Kind_ == (17 : Int)) = true then
                  (rec_parse_all a0.List_).bind fun x35 =>
                  need (a0.Text_.length + ([40] : Str).length ≤ 4611686018427387904) <|
                  need ((a0.Text_ ++ ([40] : Str)).length + x35.length ≤ 4611686018427387904) <|
                  need (((a0.Text_ ++ ([40] : Str)) ++ x35).length + ([41] : Str).length ≤ 4611686018427387904) <|
                  some (((a0.Text_ ++ ([40] : Str)) ++ x35) ++ ([41] : Str))
                else
                  if (a0.Kind_ == (18 : Int)) = true then
                    (rec_parse_at a0 (0 : Int)).bind fun x46 =>
                    need (([40] : Str).length + a0.Text_.length ≤ 4611686018427387904) <|
                    need ((([40] : Str) ++ a0.Text_).length + x46.length ≤ 4611686018427387904) <|
                    need (((([40] : Str) ++ a0.Text_) ++ x46).length + ([41] : Str).length ≤ 4611686018427387904) <|
                    some (((([40] : Str) ++ a0.Text_) ++ x46) ++ ([41] : Str))
                  else
                    if (a0.Kind_ == (19 : Int)) = true then
                      (rec_parse_at a0 (0 : Int)).bind fun x56 =>
                      (rec_parse_at a0 (1 : Int)).bind fun x57 =>
                      need (([40] : Str).length + x56.length ≤ 4611686018427387904) <|
                      need ((([40] : Str) ++ x56).length + ([32] : Str).length ≤ 4611686018427387904) <|
                      need (((([40] : Str) ++ x56) ++ ([32] : Str)).length + a0.Text_.length ≤ 4611686018427387904) <|
                      need ((((([40] : Str) ++ x56) ++ ([32] : Str)) ++ a0.Text_).length + ([32] : Str).length ≤ 4611686018427387904) <|
                      need (((((([40] : Str) ++ x56) ++ ([32] : Str)) ++ a0.Text_) ++ ([32] : Str)).length + x57.length ≤ 4611686018427387904) <|
                      need ((((((([40] : Str) ++ x56) ++ ([32] : Str)) ++ a0.Text_) ++ ([32] : Str)) ++ x57).length + ([41] : Str).length ≤ 4611686018427387904) <|
                      some ((((((([40] : Str) ++ x56) ++ ([32] : Str)) ++ a0.Text_) ++ ([32] : Str)) ++ x57) ++ ([41] : Str))
                    else
                      (rec_parse_statement a0).bind fun x75 =>
                      some x75

/- parse.several -/
def parse_several_b (rec_parse_text : T_parse_Node → Option Str) (n : Nat) (a0 : (List T_parse_Node)) : Option Str := severalL rec_parse_text a0 []

/- parse.function -/
def parse_function_b (rec_parse_all : (List T_parse_Node) → Option Str) (rec_parse_at : T_parse_Node → Int → Option Str) (n : Nat) (a0 : T_parse_Node) : Option Str :=
  need ((0 : Int) ≤ (max (IntKind.i64.wrap ((a0.List_.length : Int) - (1 : Int))) (0 : Int)) ∧ (max (IntKind.i64.wrap ((a0.List_.length : Int) - (1 : Int))) (0 : Int)) ≤ (a0.List_.length : Int)) <|
  (rec_parse_all (a0.List_.take (max (IntKind.i64.wrap ((a0.List_.length : Int) - (1 : Int))) (0 : Int)).toNat)).bind fun x2 =>
  need (([102, 110, 32] : Str).length + a0.Text_.length ≤ 4611686018427387904) <|
  need ((([102, 110, 32] : Str) ++ a0.Text_).length + ([40] : Str).length ≤ 4611686018427387904) <|
  need (((([102, 110, 32] : Str) ++ a0.Text_) ++ ([40] : Str)).length + x2.length ≤ 4611686018427387904) <|
  need ((((([102, 110, 32] : Str) ++ a0.Text_) ++ ([40] : Str)) ++ x2).length + ([41] : Str).length ≤ 4611686018427387904) <|
  if ((andK .u32 a0.Num_ (1 : Int)) != (0 : Int)) = true then
    need (([101, 120, 112, 111, 114, 116, 32] : Str).length + ((((([102, 110, 32] : Str) ++ a0.Text_) ++ ([40] : Str)) ++ x2) ++ ([41] : Str)).length ≤ 4611686018427387904) <|
    if ((andK .u32 a0.Num_ (2 : Int)) != (0 : Int)) = true then
      need ((([101, 120, 112, 111, 114, 116, 32] : Str) ++ ((((([102, 110, 32] : Str) ++ a0.Text_) ++ ([40] : Str)) ++ x2) ++ ([41] : Str))).length + ([32, 45, 62, 32, 117, 51, 50] : Str).length ≤ 4611686018427387904) <|
      if ((andK .u32 a0.Num_ (4 : Int)) != (0 : Int)) = true then
        need (((([101, 120, 112, 111, 114, 116, 32] : Str) ++ ((((([102, 110, 32] : Str) ++ a0.Text_) ++ ([40] : Str)) ++ x2) ++ ([41] : Str))) ++ ([32, 45, 62, 32, 117, 51, 50] : Str)).length + ([32, 45, 62, 32, 117, 54, 52] : Str).length ≤ 4611686018427387904) <|
        need ((((([101, 120, 112, 111, 114, 116, 32] : Str) ++ ((((([102, 110, 32] : Str) ++ a0.Text_) ++ ([40] : Str)) ++ x2) ++ ([41] : Str))) ++ ([32, 45, 62, 32, 117, 51, 50] : Str)) ++ ([32, 45, 62, 32, 117, 54, 52] : Str)).length + ([32] : Str).length ≤ 4611686018427387904) <|
        (rec_parse_at a0 (max (IntKind.i64.wrap ((a0.List_.length : Int) - (1 : Int))) (0 : Int))).bind fun x27 =>
        need (((((([101, 120, 112, 111, 114, 116, 32] : Str) ++ ((((([102, 110, 32] : Str) ++ a0.Text_) ++ ([40] : Str)) ++ x2) ++ ([41] : Str))) ++ ([32, 45, 62, 32, 117, 51, 50] : Str)) ++ ([32, 45, 62, 32, 117, 54, 52] : Str)) ++ ([32] : Str)).length + x27.length ≤ 4611686018427387904) <|
        some (((((([101, 120, 112, 111, 114, 116, 32] : Str) ++ ((((([102, 110, 32] : Str) ++ a0.Text_) ++ ([40] : Str)) ++ x2) ++ ([41] : Str))) ++ ([32, 45, 62, 32, 117, 51, 50] : Str)) ++ ([32, 45, 62, 32, 117, 54, 52] : Str)) ++ ([32] : Str)) ++ x27)
      else
        need (((([101, 120, 112, 111, 114, 116, 32] : Str) ++ ((((([102, 110, 32] : Str) ++ a0.Text_) ++ ([40] : Str)) ++ x2) ++ ([41] : Str))) ++ ([32, 45, 62, 32, 117, 51, 50] : Str)).length + ([32] : Str).length ≤ 4611686018427387904) <|
        (rec_parse_at a0 (max (IntKind.i64.wrap ((a0.List_.length : Int) - (1 : Int))) (0 : Int))).bind fun x34 =>
        need ((((([101, 120, 112, 111, 114, 116, 32] : Str) ++ ((((([102, 110, 32] : Str) ++ a0.Text_) ++ ([40] : Str)) ++ x2) ++ ([41] : Str))) ++ ([32, 45, 62, 32, 117, 51, 50] : Str)) ++ ([32] : Str)).length + x34.length ≤ 4611686018427387904) <|
        some ((((([101, 120, 112, 111, 114, 116, 32] : Str) ++ ((((([102, 110, 32] : Str) ++ a0.Text_) ++ ([40] : Str)) ++ x2) ++ ([41] : Str))) ++ ([32, 45, 62, 32, 117, 51, 50] : Str)) ++ ([32] : Str)) ++ x34)
    else
      if ((andK .u32 a0.Num_ (4 : Int)) != (0 : Int)) = true then
        need ((([101, 120, 112, 111, 114, 116, 32] : Str) ++ ((((([102, 110, 32] : Str) ++ a0.Text_) ++ ([40] : Str)) ++ x2) ++ ([41] : Str))).length + ([32, 45, 62, 32, 117, 54, 52] : Str).length ≤ 4611686018427387904) <|
        need (((([101, 120, 112, 111, 114, 116, 32] : Str) ++ ((((([102, 110, 32] : Str) ++ a0.Text_) ++ ([40] : Str)) ++ x2) ++ ([41] : Str))) ++ ([32, 45, 62, 32, 117, 54, 52] : Str)).length + ([32] : Str).length ≤ 4611686018427387904) <|
        (rec_parse_at a0 (max (IntKind.i64.wrap ((a0.List_.length : Int) - (1 : Int))) (0 : Int))).bind fun x45 =>
        need ((((([101, 120, 112, 111, 114, 116, 32] : Str) ++ ((((([102, 110, 32] : Str) ++ a0.Text_) ++ ([40] : Str)) ++ x2) ++ ([41] : Str))) ++ ([32, 45, 62, 32, 117, 54, 52] : Str)) ++ ([32] : Str)).length + x45.length ≤ 4611686018427387904) <|
        some ((((([101, 120, 112, 111, 114, 116, 32] : Str) ++ ((((([102, 110, 32] : Str) ++ a0.Text_) ++ ([40] : Str)) ++ x2) ++ ([41] : Str))) ++ ([32, 45, 62, 32, 117, 54, 52] : Str)) ++ ([32] : Str)) ++ x45)
      else
        need ((([101, 120, 112, 111, 114, 116, 32] : Str) ++ ((((([102, 110, 32] : Str) ++ a0.Text_) ++ ([40] : Str)) ++ x2) ++ ([41] : Str))).length + ([32] : Str).length ≤ 4611686018427387904) <|
        (rec_parse_at a0 (max (IntKind.i64.wrap ((a0.List_.length : Int) - (1 : Int))) (0 : Int))).bind fun x52 =>
        need (((([101, 120, 112, 111, 114, 116, 32] : Str) ++ ((((([102, 110, 32] : Str) ++ a0.Text_) ++ ([40] : Str)) ++ x2) ++ ([41] : Str))) ++ ([32] : Str)).length + x52.length ≤ 4611686018427387904) <|
        some (((([101, 120, 112, 111, 114, 116, 32] : Str) ++ ((((([102, 110, 32] : Str) ++ a0.Text_) ++ ([40] : Str)) ++ x2) ++ ([41] : Str))) ++ ([32] : Str)) ++ x52)
  else
    if ((andK .u32 a0.Num_ (2 : Int)) != (0 : Int)) = true then
      need (((((([102, 110, 32] : Str) ++ a0.Text_) ++ ([40] : Str)) ++ x2) ++ ([41] : Str)).length + ([32, 45, 62, 32, 117, 51, 50] : Str).length ≤ 4611686018427387904) <|
      if ((andK .u32 a0.Num_ (4 : Int)) != (0 : Int)) = true then
        need ((((((([102, 110, 32] : Str) ++ a0.Text_) ++ ([40] : Str)) ++ x2) ++ ([41] : Str)) ++ ([32, 45, 62, 32, 117, 51, 50] : Str)).length + ([32, 45, 62, 32, 117, 54, 52] : Str).length ≤ 4611686018427387904) <|
        need (((((((([102, 110, 32] : Str) ++ a0.Text_) ++ ([40] : Str)) ++ x2) ++ ([41] : Str)) ++ ([32, 45, 62, 32, 117, 51, 50] : Str)) ++ ([32, 45, 62, 32, 117, 54, 52] : Str)).length + ([32] : Str).length ≤ 4611686018427387904) <|
        (rec_parse_at a0 (max (IntKind.i64.wrap ((a0.List_.length : Int) - (1 : Int))) (0 : Int))).bind fun x67 =>
        need ((((((((([102, 110, 32] : Str) ++ a0.Text_) ++ ([40] : Str)) ++ x2) ++ ([41] : Str)) ++ ([32, 45, 62, 32, 117, 51, 50] : Str)) ++ ([32, 45, 62, 32, 117, 54, 52] : Str)) ++ ([32] : Str)).length + x67.length ≤ 4611686018427387904) <|
        some ((((((((([102, 110, 32] : Str) ++ a0.Text_) ++ ([40] : Str)) ++ x2) ++ ([41] : Str)) ++ ([32, 45, 62, 32, 117, 51, 50] : Str)) ++ ([32, 45, 62, 32, 117, 54, 52] : Str)) ++ ([32] : Str)) ++ x67)
      else
        need ((((((([102, 110, 32] : Str) ++ a0.Text_) ++ ([40] : Str)) ++ x2) ++ ([41] : Str)) ++ ([32, 45, 62, 32, 117, 51, 50] : Str)).length + ([32] : Str).length ≤ 4611686018427387904) <|
        (rec_parse_at a0 (max (IntKind.i64.wrap ((a0.List_.length : Int) - (1 : Int))) (0 : Int))).bind fun x74 =>
        need (((((((([102, 110, 32] : Str) ++ a0.Text_) ++ ([40] : Str)) ++ x2) ++ ([41] : Str)) ++ ([32, 45, 62, 32, 117, 51, 50] : Str)) ++ ([32] : Str)).length + x74.length ≤ 4611686018427387904) <|
        some (((((((([102, 110, 32] : Str) ++ a0.Text_) ++ ([40] : Str)) ++ x2) ++ ([41] : Str)) ++ ([32, 45, 62, 32, 117, 51, 50] : Str)) ++ ([32] : Str)) ++ x74)
    else
      if ((andK .u32 a0.Num_ (4 : Int)) != (0 : Int)) = true then
        need (((((([102, 110, 32] : Str) ++ a0.Text_) ++ ([40] : Str)) ++ x2) ++ ([41] : Str)).length + ([32, 45, 62, 32, 117, 54, 52] : Str).length ≤ 4611686018427387904) <|
        need ((((((([102, 110, 32] : Str) ++ a0.Text_) ++ ([40] : Str)) ++ x2) ++ ([41] : Str)) ++ ([32, 45, 62, 32, 117, 54, 52] : Str)).length + ([32] : Str).length ≤ 4611686018427387904) <|
        (rec_parse_at a0 (max (IntKind.i64.wrap ((a0.List_.length : Int) - (1 : Int))) (0 : Int))).bind fun x85 =>
        need (((((((([102, 110, 32] : Str) ++ a0.Text_) ++ ([40] : Str)) ++ x2) ++ ([41] : Str)) ++ ([32, 45, 62, 32, 117, 54, 52] : Str)) ++ ([32] : Str)).length + x85.length ≤ 4611686018427387904) <|
        some (((((((([102, 110, 32] : Str) ++ a0.Text_) ++ ([40] : Str)) ++ x2) ++ ([41] : Str)) ++ ([32, 45, 62, 32, 117, 54, 52] : Str)) ++ ([32] : Str)) ++ x85)
      else
        need (((((([102, 110, 32] : Str) ++ a0.Text_) ++ ([40] : Str)) ++ x2) ++ ([41] : Str)).length + ([32] : Str).length ≤ 4611686018427387904) <|
        (rec_parse_at a0 (max (IntKind.i64.wrap ((a0.List_.length : Int) - (1 : Int))) (0 : Int))).bind fun x92 =>
        need ((((((([102, 110, 32] : Str) ++ a0.Text_) ++ ([40] : Str)) ++ x2) ++ ([41] : Str)) ++ ([32] : Str)).length + x92.length ≤ 4611686018427387904) <|
        some ((((((([102, 110, 32] : Str) ++ a0.Text_) ++ ([40] : Str)) ++ x2) ++ ([41] : Str)) ++ ([32] : Str)) ++ x92)

/- parse.param -/
def parse_param_b (rec_parse_at : T_parse_Node → Int → Option Str) (n : Nat) (a0 : T_parse_Node) : Option Str :=
  (if (decide ((1 : Int) ≤ a0.Num_)) = true then
      some (decide ((IntKind.i64.wrap a0.Num_) < (4 : Int)))
    else
      some false).bind fun y2 =>
  if y2 = true then
    need (a0.Text_.length + ([58, 32] : Str).length ≤ 4611686018427387904) <|
    (idxL g_parse_kinds a0.Num_).bind fun x8 =>
    need ((a0.Text_ ++ ([58, 32] : Str)).length + x8.length ≤ 4611686018427387904) <|
    some ((a0.Text_ ++ ([58, 32] : Str)) ++ x8)
  else
    (rec_parse_at a0 (0 : Int)).bind fun x21 =>
    need (a0.Text_.length + ([58, 32, 91] : Str).length ≤ 4611686018427387904) <|
    need ((a0.Text_ ++ ([58, 32, 91] : Str)).length + x21.length ≤ 4611686018427387904) <|
    need (((a0.Text_ ++ ([58, 32, 91] : Str)) ++ x21).length + ([93] : Str).length ≤ 4611686018427387904) <|
    some (((a0.Text_ ++ ([58, 32, 91] : Str)) ++ x21) ++ ([93] : Str))

/- parse.at -/
def parse_at_b (rec_parse_text : T_parse_Node → Option Str) (n : Nat) (a0 : T_parse_Node) (a1 : Int) : Option Str :=
  if (decide ((a0.List_.length : Int) ≤ a1)) = true then
    some ([] : Str)
  else
    (idxL a0.List_ a1).bind fun x3 =>
    (rec_parse_text x3).bind fun x4 =>
    some x4

/- parse.all -/
def parse_all_l1 (rec_parse_text : T_parse_Node → Option Str) (a0 : (List T_parse_Node)) : Nat → (List Str) → Int → Option (List Str)
  | 0, _, _ => none
  | c5 + 1, v2, v3 =>
    if (decide (v3 < (a0.length : Int))) = true then
      (idxL a0 v3).bind fun x10 =>
      (rec_parse_text x10).bind fun x16 =>
      need (v2.length + [x16].length ≤ 1073741824) <|
      parse_all_l1 rec_parse_text a0 c5 (v2 ++ [x16]) (IntKind.i64.wrap (v3 + (1 : Int)))
    else
      some v2
def parse_all_b (rec_parse_text : T_parse_Node → Option Str) (n : Nat) (a0 : (List T_parse_Node)) : Option Str :=
  (parse_all_l1 rec_parse_text a0 n [] (0 : Int)).bind fun y4 =>
  (strings_Join y4 ([44, 32] : Str)).bind fun x23 =>
  some x23

/- parse.statement -/
def parse_statement_b (rec_parse_at : T_parse_Node → Int → Option Str) (rec_parse_all : (List T_parse_Node) → Option Str) (n : Nat) (a0 : T_parse_Node) : Option Str :=
  if (a0.Kind_ == (5 : Int)) = true then
    (rec_parse_at a0 (0 : Int)).bind fun x3 =>
    need (([108, 101, 116, 32] : Str).length + a0.Text_.length ≤ 4611686018427387904) <|
    need ((([108, 101, 116, 32] : Str) ++ a0.Text_).length + ([32, 61, 32] : Str).length ≤ 4611686018427387904) <|
    need (((([108, 101, 116, 32] : Str) ++ a0.Text_) ++ ([32, 61, 32] : Str)).length + x3.length ≤ 4611686018427387904) <|
    need ((((([108, 101, 116, 32] : Str) ++ a0.Text_) ++ ([32, 61, 32] : Str)) ++ x3).length + ([59] : Str).length ≤ 4611686018427387904) <|
    some ((((([108, 101, 116, 32] : Str) ++ a0.Text_) ++ ([32, 61, 32] : Str)) ++ x3) ++ ([59] : Str))
  else
    if (a0.Kind_ == (6 : Int)) = true then
      (rec_parse_at a0 (0 : Int)).bind fun x16 =>
      need (([118, 97, 114, 32] : Str).length + a0.Text_.length ≤ 4611686018427387904) <|
      need ((([118, 97, 114, 32] : Str) ++ a0.Text_).length + ([32, 61, 32] : Str).length ≤ 4611686018427387904) <|
      need (((([118, 97, 114, 32] : Str) ++ a0.Text_) ++ ([32, 61, 32] : Str)).length + x16.length ≤ 4611686018427387904) <|
      need ((((([118, 97, 114, 32] : Str) ++ a0.Text_) ++ ([32, 61, 32] : Str)) ++ x16).length + ([59] : Str).length ≤ 4611686018427387904) <|
      some ((((([118, 97, 114, 32] : Str) ++ a0.Text_) ++ ([32, 61, 32] : Str)) ++ x16) ++ ([59] : Str))
    else
      if (a0.Kind_ == (7 : Int)) = true then
        (parse_digits a0.Num_).bind fun x29 =>
        need (([97, 114, 114, 32] : Str).length + a0.Text_.length ≤ 4611686018427387904) <|
        need ((([97, 114, 114, 32] : Str) ++ a0.Text_).length + ([91] : Str).length ≤ 4611686018427387904) <|
        need (((([97, 114, 114, 32] : Str) ++ a0.Text_) ++ ([91] : Str)).length + x29.length ≤ 4611686018427387904) <|
        need ((((([97, 114, 114, 32] : Str) ++ a0.Text_) ++ ([91] : Str)) ++ x29).length + ([93, 59] : Str).length ≤ 4611686018427387904) <|
        some ((((([97, 114, 114, 32] : Str) ++ a0.Text_) ++ ([91] : Str)) ++ x29) ++ ([93, 59] : Str))
      else
        if (a0.Kind_ == (8 : Int)) = true then
          (rec_parse_at a0 (0 : Int)).bind fun x42 =>
          need (a0.Text_.length + ([32, 61, 32] : Str).length ≤ 4611686018427387904) <|
          need ((a0.Text_ ++ ([32, 61, 32] : Str)).length + x42.length ≤ 4611686018427387904) <|
          need (((a0.Text_ ++ ([32, 61, 32] : Str)) ++ x42).length + ([59] : Str).length ≤ 4611686018427387904) <|
          some (((a0.Text_ ++ ([32, 61, 32] : Str)) ++ x42) ++ ([59] : Str))
        else
          if (a0.Kind_ == (9 : Int)) = true then
            (rec_parse_at a0 (0 : Int)).bind fun x53 =>
            (rec_parse_at a0 (1 : Int)).bind fun x54 =>
            need (a0.Text_.length + ([91] : Str).length ≤ 4611686018427387904) <|
            need ((a0.Text_ ++ ([91] : Str)).length + x53.length ≤ 4611686018427387904) <|
            need (((a0.Text_ ++ ([91] : Str)) ++ x53).length + ([93, 32, 61, 32] : Str).length ≤ 4611686018427387904) <|
            need ((((a0.Text_ ++ ([91] : Str)) ++ x53) ++ ([93, 32, 61, 32] : Str)).length + x54.length ≤ 4611686018427387904) <|
            need (((((a0.Text_ ++ ([91] : Str)) ++ x53) ++ ([93, 32, 61, 32] : Str)) ++ x54).length + ([59] : Str).length ≤ 4611686018427387904) <|
            some (((((a0.Text_ ++ ([91] : Str)) ++ x53) ++ ([93, 32, 61, 32] : Str)) ++ x54) ++ ([59] : Str))
          else
            if (a0.Kind_ == (10 : Int)) = true then
              (rec_parse_all a0.List_).bind fun x71 =>
              need (a0.Text_.length + ([40] : Str).length ≤ 4611686018427387904) <|
              need ((a0.Text_ ++ ([40] : Str)).length + x71.length ≤ 4611686018427387904) <|
              need (((a0.Text_ ++ ([40] : Str)) ++ x71).length + ([41, 59] : Str).length ≤ 4611686018427387904) <|
              some (((a0.Text_ ++ ([40] : Str)) ++ x71) ++ ([41, 59] : Str))
            else
              if (a0.Kind_ == (12 : Int)) = true then
                (rec_parse_at a0 (0 : Int)).bind fun x82 =>
                (rec_parse_at a0 (1 : Int)).bind fun x83 =>
                (rec_parse_at a0 (2 : Int)).bind fun x84 =>
                need (([102, 111, 114, 32] : Str).length + a0.Text_.length ≤ 4611686018427387904) <|
                need ((([102, 111, 114, 32] : Str) ++ a0.Text_).length + ([32, 105, 110, 32] : Str).length ≤ 4611686018427387904) <|
                need (((([102, 111, 114, 32] : Str) ++ a0.Text_) ++ ([32, 105, 110, 32] : Str)).length + x82.length ≤ 4611686018427387904) <|
                need ((((([102, 111, 114, 32] : Str) ++ a0.Text_) ++ ([32, 105, 110, 32] : Str)) ++ x82).length + ([32, 46, 46, 32] : Str).length ≤ 4611686018427387904) <|
                need (((((([102, 111, 114, 32] : Str) ++ a0.Text_) ++ ([32, 105, 110, 32] : Str)) ++ x82) ++ ([32, 46, 46, 32] : Str)).length + x83.length ≤ 4611686018427387904) <|
                need ((((((([102, 111, 114, 32] : Str) ++ a0.Text_) ++ ([32, 105, 110, 32] : Str)) ++ x82) ++ ([32, 46, 46, 32] : Str)) ++ x83).length + ([32] : Str).length ≤ 4611686018427387904) <|
                need (((((((([102, 111, 114, 32] : Str) ++ a0.Text_) ++ ([32, 105, 110, 32] : Str)) ++ x82) ++ ([32, 46, 46, 32] : Str)) ++ x83) ++ ([32] : Str)).length + x84.length ≤ 4611686018427387904) <|
                some (((((((([102, 111, 114, 32] : Str) ++ a0.Text_) ++ ([32, 105, 110, 32] : Str)) ++ x82) ++ ([32, 46, 46, 32] : Str)) ++ x83) ++ ([32] : Str)) ++ x84)
              else
                if (a0.Kind_ == (13 : Int)) = true then
                  (rec_parse_at a0 (0 : Int)).bind fun x106 =>
                  need (([114, 101, 116, 117, 114, 110, 32] : Str).length + x106.length ≤ 4611686018427387904) <|
                  need ((([114, 101, 116, 117, 114, 110, 32] : Str) ++ x106).length + ([59] : Str).length ≤ 4611686018427387904) <|
                  some ((([114, 101, 116, 117, 114, 110, 32] : Str) ++ x106) ++ ([59] : Str))
                else
                  (rec_parse_at a0 (0 : Int)).bind fun x113 =>
                  (rec_parse_at a0 (1 : Int)).bind fun x114 =>
                  need (([105, 102, 32] : Str).length + x113.length ≤ 4611686018427387904) <|
                  need ((([105, 102, 32] : Str) ++ x113).length + ([32] : Str).length ≤ 4611686018427387904) <|
                  need (((([105, 102, 32] : Str) ++ x113) ++ ([32] : Str)).length + x114.length ≤ 4611686018427387904) <|
                  if (decide ((2 : Int) < (a0.List_.length : Int))) = true then
                    (rec_parse_at a0 (2 : Int)).bind fun x125 =>
                    need (([32, 101, 108, 115, 101, 32] : Str).length + x125.length ≤ 4611686018427387904) <|
                    need ((((([105, 102, 32] : Str) ++ x113) ++ ([32] : Str)) ++ x114).length + (([32, 101, 108, 115, 101, 32] : Str) ++ x125).length ≤ 4611686018427387904) <|
                    some ((((([105, 102, 32] : Str) ++ x113) ++ ([32] : Str)) ++ x114) ++ (([32, 101, 108, 115, 101, 32] : Str) ++ x125))
                  else
                    some (((([105, 102, 32] : Str) ++ x113) ++ ([32] : Str)) ++ x114)

def parse_text_grp : Nat → (T_parse_Node → Option Str) × ((List T_parse_Node) → Option Str) × (T_parse_Node → Option Str) × (T_parse_Node → Option Str) × (T_parse_Node → Int → Option Str) × ((List T_parse_Node) → Option Str) × (T_parse_Node → Option Str)
  | 0 => (fun _ => none, fun _ => none, fun _ => none, fun _ => none, fun _ _ => none, fun _ => none, fun _ => none)
  | n + 1 => (parse_text_b (parse_text_grp n).2.1 (parse_text_grp n).2.2.1 (parse_text_grp n).2.2.2.1 (parse_text_grp n).2.2.2.2.1 (parse_text_grp n).2.2.2.2.2.1 (parse_text_grp n).2.2.2.2.2.2 n, parse_several_b (parse_text_grp n).1 n, parse_function_b (parse_text_grp n).2.2.2.2.2.1 (parse_text_grp n).2.2.2.2.1 n, parse_param_b (parse_text_grp n).2.2.2.2.1 n, parse_at_b (parse_text_grp n).1 n, parse_all_b (parse_text_grp n).1 n, parse_statement_b (parse_text_grp n).2.2.2.2.1 (parse_text_grp n).2.2.2.2.2.1 n)
def parse_text (n : Nat) : T_parse_Node → Option Str := (parse_text_grp n).1
def parse_several (n : Nat) : (List T_parse_Node) → Option Str := (parse_text_grp n).2.1
def parse_function (n : Nat) : T_parse_Node → Option Str := (parse_text_grp n).2.2.1
def parse_param (n : Nat) : T_parse_Node → Option Str := (parse_text_grp n).2.2.2.1
def parse_at (n : Nat) : T_parse_Node → Int → Option Str := (parse_text_grp n).2.2.2.2.1
def parse_all (n : Nat) : (List T_parse_Node) → Option Str := (parse_text_grp n).2.2.2.2.2.1
def parse_statement (n : Nat) : T_parse_Node → Option Str := (parse_text_grp n).2.2.2.2.2.2

/- parse.Show -/
def parse_Show (n : Nat) (a0 : T_parse_Node) : Option Str :=
  (parse_text n a0).bind fun x2 =>
  some x2

/- remontoirelaw10.ParseShows -/
def remontoirelaw10_ParseShows (n : Nat) (a0 : Str) : Option Bool :=
  (remontoirelaw10_anchor n).bind fun x1 =>
  if (!x1) = true then
    some false
  else
    if (decide ((3000 : Int) < (a0.length : Int))) = true then
      some true
    else
      (parse_Parse n a0).bind fun x5 =>
      if (x5.2.1 != (0 : Int)) = true then
        some true
      else
        (parse_Show n x5.1).bind fun x9 =>
        need (x9.length ≤ 4611686018427387904) <|
        (parse_Parse n x9).bind fun x11 =>
        (if (x11.2.1 == (111 : Int)) = true then
            some true
          else
            some (x11.2.1 == (161 : Int))).bind fun y16 =>
        if y16 = true then
          some true
        else
          (if (x11.2.1 == (0 : Int)) = true then
              (parse_Same n x5.1 x11.1).bind fun x24 =>
              if x24 = true then
                (parse_Show n x11.1).bind fun x27 =>
                some (decide (x27 = x9))
              else
                some false
            else
              some false).bind fun y22 =>
          some y22
end Go.Proofs.YtolhahlnccekcaaDoor.Abs
