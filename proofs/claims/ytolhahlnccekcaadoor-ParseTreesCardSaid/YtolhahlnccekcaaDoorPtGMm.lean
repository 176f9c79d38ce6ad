/-
  Plain models of functions. Written by a program of mine (gen.py) for this claim.
-/
import Derived.Test.YtolhahlnccekcaaDoorPtS6
namespace Go.Proofs.YtolhahlnccekcaaDoor.Abs
open Go.RowKit
set_option linter.unusedVariables false
structure T_anon_name_args where
  name_ : Str
  args_ : Int
structure T_lex_Token where
  Kind_ : Int
  At_ : Int
  Text_ : Str
  Num_ : Int
def T_lex_Token.C (x : T_lex_Token) : List V := [.lit (.int .i64 x.Kind_), .lit (.int .i64 x.At_), .lit (.string (bs x.Text_)), .lit (.int .u32 x.Num_)]
@[go_sem] theorem T_lex_Token.C_eq (x : T_lex_Token) : T_lex_Token.C x = [.lit (.int .i64 x.Kind_), .lit (.int .i64 x.At_), .lit (.string (bs x.Text_)), .lit (.int .u32 x.Num_)] := _root_.id rfl
structure T_parse_Node where
  Kind_ : Int
  At_ : Int
  Text_ : Str
  Num_ : Int
  List_ : (List T_parse_Node)
mutual
def T_parse_Node.C : T_parse_Node → List V
  | ⟨a0, a1, a2, a3, a4⟩ => [.lit (.int .i64 a0), .lit (.int .i64 a1), .lit (.string (bs a2)), .lit (.int .u32 a3), .list .none (T_parse_Node.CL a4)]
def T_parse_Node.CL : List T_parse_Node → List (List V)
  | [] => []
  | x :: l => T_parse_Node.C x :: T_parse_Node.CL l
end
theorem T_parse_Node.CL_eq (l : List T_parse_Node) : T_parse_Node.CL l = l.map T_parse_Node.C := by
  induction l with
  | nil => rfl
  | cons x l ih => rw [T_parse_Node.CL, ih]; rfl
@[go_sem] theorem T_parse_Node.C_eq (x : T_parse_Node) : T_parse_Node.C x = [.lit (.int .i64 x.Kind_), .lit (.int .i64 x.At_), .lit (.string (bs x.Text_)), .lit (.int .u32 x.Num_), .list .none (x.List_.map T_parse_Node.C)] := by
  cases x
  simp only [T_parse_Node.C, T_parse_Node.CL_eq]
structure T_parse_parser where
  l_ : (List T_lex_Token)
  at_ : Int
  nodes_ : Int
  e_ : Int
  where_ : Int
def T_parse_parser.C (x : T_parse_parser) : List V := [.list .none (x.l_.map T_lex_Token.C), .lit (.int .i64 x.at_), .lit (.int .i64 x.nodes_), .lit (.int .i64 x.e_), .lit (.int .i64 x.where_)]
@[go_sem] theorem T_parse_parser.C_eq (x : T_parse_parser) : T_parse_parser.C x = [.list .none (x.l_.map T_lex_Token.C), .lit (.int .i64 x.at_), .lit (.int .i64 x.nodes_), .lit (.int .i64 x.e_), .lit (.int .i64 x.where_)] := _root_.id rfl
structure T_remontoireref10_N where
  Kind_ : Int
  At_ : Int
  Text_ : Str
  Num_ : Int
  Kids_ : Int
def T_remontoireref10_N.C (x : T_remontoireref10_N) : List V := [.lit (.int .i64 x.Kind_), .lit (.int .i64 x.At_), .lit (.string (bs x.Text_)), .lit (.int .u32 x.Num_), .lit (.int .i64 x.Kids_)]
@[go_sem] theorem T_remontoireref10_N.C_eq (x : T_remontoireref10_N) : T_remontoireref10_N.C x = [.lit (.int .i64 x.Kind_), .lit (.int .i64 x.At_), .lit (.string (bs x.Text_)), .lit (.int .u32 x.Num_), .lit (.int .i64 x.Kids_)] := _root_.id rfl
structure T_remontoireref09_T where
  Kind_ : Int
  At_ : Int
  Text_ : Str
  Num_ : Int
def T_remontoireref09_T.C (x : T_remontoireref09_T) : List V := [.lit (.int .i64 x.Kind_), .lit (.int .i64 x.At_), .lit (.string (bs x.Text_)), .lit (.int .u32 x.Num_)]
@[go_sem] theorem T_remontoireref09_T.C_eq (x : T_remontoireref09_T) : T_remontoireref09_T.C x = [.lit (.int .i64 x.Kind_), .lit (.int .i64 x.At_), .lit (.string (bs x.Text_)), .lit (.int .u32 x.Num_)] := _root_.id rfl
structure T_remontoireref10_P where
  L_ : (List T_remontoireref09_T)
  At_ : Int
  Nodes_ : Int
  E_ : Int
  Where_ : Int
def T_remontoireref10_P.C (x : T_remontoireref10_P) : List V := [.list .none (x.L_.map T_remontoireref09_T.C), .lit (.int .i64 x.At_), .lit (.int .i64 x.Nodes_), .lit (.int .i64 x.E_), .lit (.int .i64 x.Where_)]
@[go_sem] theorem T_remontoireref10_P.C_eq (x : T_remontoireref10_P) : T_remontoireref10_P.C x = [.list .none (x.L_.map T_remontoireref09_T.C), .lit (.int .i64 x.At_), .lit (.int .i64 x.Nodes_), .lit (.int .i64 x.E_), .lit (.int .i64 x.Where_)] := _root_.id rfl
def g_lex_signs : List Str := [[45, 62], [46, 46], [61, 61], [60, 60, 60], [60, 60], [62, 62], [60], [40], [41], [123], [125], [91], [93], [44], [59], [58], [61], [43], [45], [42], [47], [37], [38], [124], [94], [126]]
@[go_sem] theorem g_lex_signs_len : (cA cS g_lex_signs).length = 26 := by kernel_rfl
@[go_sem] theorem g_lex_signs_take : (cA cS g_lex_signs).take 26 = (cA cS g_lex_signs) := by kernel_rfl
def g_parse_words : List Str := [[102, 110], [101, 120, 112, 111, 114, 116], [108, 101, 116], [118, 97, 114], [97, 114, 114], [105, 102], [101, 108, 115, 101], [102, 111, 114], [105, 110], [114, 101, 116, 117, 114, 110], [112, 117, 98], [117, 51, 50], [117, 54, 52]]
@[go_sem] theorem g_parse_words_len : (cA cS g_parse_words).length = 13 := by kernel_rfl
@[go_sem] theorem g_parse_words_chunk : chunk 1 13 (cA cS g_parse_words) = g_parse_words.map cS := _root_.id rfl
def g_parse_levels : List (List Str) := [[[124], [], []], [[94], [], []], [[38], [], []], [[61, 61], [60], []], [[60, 60], [62, 62], [60, 60, 60]], [[43], [45], []], [[42], [47], [37]]]
/- lex.blank -/
def lex_blank (a0 : Int) : Option Bool :=
  (if (a0 == (32 : Int)) = true then
      some true
    else
      if (a0 == (9 : Int)) = true then
        some true
      else
        if (a0 == (13 : Int)) = true then
          some true
        else
          some (a0 == (10 : Int))).bind fun y1 =>
  some y1

/- internal/stringslite.HasPrefix -/
def internal_stringslite_HasPrefix (a0 : Str) (a1 : Str) : Option Bool :=
  (if (decide ((a1.length : Int) ≤ (a0.length : Int))) = true then
      need ((0 : Int) ≤ (a1.length : Int) ∧ (a1.length : Int) ≤ (a0.length : Int)) <|
      some (decide ((a0.take (a1.length : Int).toNat) = a1))
    else
      some false).bind fun y1 =>
  some y1

/- strings.HasPrefix -/
def strings_HasPrefix (a0 : Str) (a1 : Str) : Option Bool :=
  (internal_stringslite_HasPrefix a0 a1).bind fun x1 =>
  some x1

def internal_bytealg_IndexByteString (a0 : Str) (a1 : Int) : Option Int := some (Lib.indexByte a0 a1.toNat.toUInt8)

/- internal/stringslite.IndexByte -/
def internal_stringslite_IndexByte (a0 : Str) (a1 : Int) : Option Int :=
  (internal_bytealg_IndexByteString a0 a1).bind fun x1 =>
  some x1

/- strings.IndexByte -/
def strings_IndexByte (a0 : Str) (a1 : Int) : Option Int :=
  (internal_stringslite_IndexByte a0 a1).bind fun x1 =>
  some x1

/- lex.skip -/
def lex_skip_l1 (a0 : Str) : Nat → Int → Option (Int ⊕ Int)
  | 0, _ => none
  | c4 + 1, v2 =>
    if (decide (v2 < (a0.length : Int))) = true then
      (idxL a0 v2).bind fun x9 =>
      (lex_blank (x9.toNat : Int)).bind fun x10 =>
      if x10 = true then
        lex_skip_l1 a0 c4 (IntKind.i64.wrap (v2 + (1 : Int)))
      else
        need ((0 : Int) ≤ v2 ∧ v2 ≤ (a0.length : Int)) <|
        (strings_HasPrefix (a0.drop v2.toNat) ([47, 47] : Str)).bind fun x17 =>
        if x17 = true then
          need ((0 : Int) ≤ v2 ∧ v2 ≤ (a0.length : Int)) <|
          (strings_IndexByte (a0.drop v2.toNat) (10 : Int)).bind fun x22 =>
          if (decide (x22 < (0 : Int))) = true then
            some (.inr (a0.length : Int))
          else
            lex_skip_l1 a0 c4 (IntKind.i64.wrap (v2 + x22))
        else
          some (.inr v2)
    else
      some (.inl v2)
def lex_skip (n : Nat) (a0 : Str) (a1 : Int) : Option Int :=
  (lex_skip_l1 a0 n a1).bind fun y3 =>
  y3.elim (fun y3a =>
    some y3a) (fun y3a =>
    some y3a)

/- lex.Letter -/
def lex_Letter (a0 : Int) : Option Bool :=
  (if (decide ((97 : Int) ≤ a0)) = true then
      if (decide (a0 ≤ (122 : Int))) = true then
        some true
      else
        some (a0 == (95 : Int))
    else
      some (a0 == (95 : Int))).bind fun y1 =>
  some y1

/- lex.Digit -/
def lex_Digit (a0 : Int) : Option Bool :=
  (if (decide ((48 : Int) ≤ a0)) = true then
      some (decide (a0 ≤ (57 : Int)))
    else
      some false).bind fun y1 =>
  some y1

/- lex.word -/
def lex_word_l1 (a0 : Str) : Nat → Int → Option (Unit ⊕ Str)
  | 0, _ => none
  | c4 + 1, v2 =>
    if (decide (v2 < (a0.length : Int))) = true then
      ((idxL a0 v2).bind fun x10 =>
        (lex_Letter (x10.toNat : Int)).bind fun x11 =>
        if (!x11) = true then
          (lex_Digit (x10.toNat : Int)).bind fun x18 =>
          some (!x18)
        else
          some false).bind fun y9 =>
      if y9 = true then
        need ((0 : Int) ≤ v2 ∧ v2 ≤ (a0.length : Int)) <|
        some (.inr (a0.take v2.toNat))
      else
        lex_word_l1 a0 c4 (IntKind.i64.wrap (v2 + (1 : Int)))
    else
      some (.inl ())
def lex_word (n : Nat) (a0 : Str) : Option Str :=
  (lex_word_l1 a0 n (0 : Int)).bind fun y3 =>
  y3.elim (fun y3a =>
    some a0) (fun y3a =>
    some y3a)

/- internal/stringslite.CutPrefix -/
def internal_stringslite_CutPrefix (a0 : Str) (a1 : Str) : Option (Str × Bool) :=
  (internal_stringslite_HasPrefix a0 a1).bind fun x1 =>
  if (!x1) = true then
    some (a0, false)
  else
    need ((0 : Int) ≤ (a1.length : Int) ∧ (a1.length : Int) ≤ (a0.length : Int)) <|
    some ((a0.drop (a1.length : Int).toNat), true)

/- strings.CutPrefix -/
def strings_CutPrefix (a0 : Str) (a1 : Str) : Option (Str × Bool) :=
  (internal_stringslite_CutPrefix a0 a1).bind fun x1 =>
  some (x1.1, x1.2)

/- lex.value -/
def lex_value_l1 (x1 : (Str × Bool)) : Nat → Int → Int → Option (Int ⊕ (Int × Bool))
  | 0, _, _ => none
  | c8 + 1, v5, v6 =>
    if (decide (v6 < (x1.1.length : Int))) = true then
      need ((0 : Int) ≤ (16 : Int) ∧ (16 : Int) ≤ (([48, 49, 50, 51, 52, 53, 54, 55, 56, 57, 97, 98, 99, 100, 101, 102] : Str).length : Int)) <|
      (idxL x1.1 v6).bind fun x13 =>
      (strings_IndexByte (([48, 49, 50, 51, 52, 53, 54, 55, 56, 57, 97, 98, 99, 100, 101, 102] : Str).take (16 : Int).toNat) (x13.toNat : Int)).bind fun x14 =>
      (if (decide (x14 < (0 : Int))) = true then
          some true
        else
          some (decide ((4294967295 : Int) < (IntKind.i64.wrap ((IntKind.i64.wrap (v5 * (16 : Int))) + x14))))).bind fun y22 =>
      if y22 = true then
        some (.inr ((0 : Int), false))
      else
        lex_value_l1 x1 c8 (IntKind.i64.wrap ((IntKind.i64.wrap (v5 * (16 : Int))) + x14)) (IntKind.i64.wrap (v6 + (1 : Int)))
    else
      some (.inl v5)
def lex_value_l2 (a0 : Str) : Nat → Int → Int → Option (Int ⊕ (Int × Bool))
  | 0, _, _ => none
  | c32 + 1, v29, v30 =>
    if (decide (v30 < (a0.length : Int))) = true then
      need ((0 : Int) ≤ (10 : Int) ∧ (10 : Int) ≤ (([48, 49, 50, 51, 52, 53, 54, 55, 56, 57, 97, 98, 99, 100, 101, 102] : Str).length : Int)) <|
      (idxL a0 v30).bind fun x37 =>
      (strings_IndexByte (([48, 49, 50, 51, 52, 53, 54, 55, 56, 57, 97, 98, 99, 100, 101, 102] : Str).take (10 : Int).toNat) (x37.toNat : Int)).bind fun x38 =>
      (if (decide (x38 < (0 : Int))) = true then
          some true
        else
          some (decide ((4294967295 : Int) < (IntKind.i64.wrap ((IntKind.i64.wrap (v29 * (10 : Int))) + x38))))).bind fun y46 =>
      if y46 = true then
        some (.inr ((0 : Int), false))
      else
        lex_value_l2 a0 c32 (IntKind.i64.wrap ((IntKind.i64.wrap (v29 * (10 : Int))) + x38)) (IntKind.i64.wrap (v30 + (1 : Int)))
    else
      some (.inl v29)
def lex_value (n : Nat) (a0 : Str) : Option (Int × Bool) :=
  (strings_CutPrefix a0 ([48, 120] : Str)).bind fun x1 =>
  if x1.2 = true then
    (lex_value_l1 x1 n (0 : Int) (0 : Int)).bind fun y7 =>
    y7.elim (fun y7a =>
      some ((IntKind.u32.wrap y7a), (decide (x1.1 ≠ ([] : Str))))) (fun y7a =>
      some y7a)
  else
    (lex_value_l2 a0 n (0 : Int) (0 : Int)).bind fun y31 =>
    y31.elim (fun y31a =>
      some ((IntKind.u32.wrap y31a), (decide (a0 ≠ ([] : Str))))) (fun y31a =>
      some y31a)

/- lex.sign -/
def lex_sign_l1 (a0 : Str) : Nat → Int → Option (Unit ⊕ Str)
  | 0, _ => none
  | c4 + 1, v2 =>
    if (decide (v2 < (26 : Int))) = true then
      (idxL g_lex_signs v2).bind fun x9 =>
      (strings_HasPrefix a0 x9).bind fun x17 =>
      if x17 = true then
        some (.inr x9)
      else
        lex_sign_l1 a0 c4 (IntKind.i64.wrap (v2 + (1 : Int)))
    else
      some (.inl ())
def lex_sign (n : Nat) (a0 : Str) : Option Str :=
  (lex_sign_l1 a0 n (0 : Int)).bind fun y3 =>
  y3.elim (fun y3a =>
    some ([] : Str)) (fun y3a =>
    some y3a)

/- lex.next -/
def lex_next (n : Nat) (a0 : Str) (a1 : Int) : Option (T_lex_Token × Int) :=
  need ((0 : Int) ≤ a1 ∧ a1 ≤ (a0.length : Int)) <|
  (lex_word n (a0.drop a1.toNat)).bind fun x2 =>
  (idxL a0 a1).bind fun x7 =>
  (lex_Letter (x7.toNat : Int)).bind fun x8 =>
  if x8 = true then
    if (decide ((32 : Int) < (x2.length : Int))) = true then
      some ((T_lex_Token.mk (0 : Int) (0 : Int) [] (0 : Int)), (102 : Int))
    else
      some ((T_lex_Token.mk (1 : Int) a1 x2 (0 : Int)), (0 : Int))
  else
    (lex_Digit (x7.toNat : Int)).bind fun x16 =>
    if x16 = true then
      (lex_value n x2).bind fun x19 =>
      if (!x19.2) = true then
        some ((T_lex_Token.mk (0 : Int) (0 : Int) [] (0 : Int)), (101 : Int))
      else
        some ((T_lex_Token.mk (2 : Int) a1 x2 x19.1), (0 : Int))
    else
      need ((0 : Int) ≤ a1 ∧ a1 ≤ (a0.length : Int)) <|
      (lex_sign n (a0.drop a1.toNat)).bind fun x22 =>
      if (decide (x22 = ([] : Str))) = true then
        some ((T_lex_Token.mk (0 : Int) (0 : Int) [] (0 : Int)), (100 : Int))
      else
        some ((T_lex_Token.mk (3 : Int) a1 x22 (0 : Int)), (0 : Int))

/- lex.Tokens -/
def lex_Tokens_l1 (n : Nat) (a0 : Str) : Nat → (List T_lex_Token) → Int → Option ((List T_lex_Token) ⊕ ((List T_lex_Token) × Int × Int))
  | 0, _, _ => none
  | c8 + 1, v5, v6 =>
    if (decide (v6 < (a0.length : Int))) = true then
      (lex_next n a0 v6).bind fun x13 =>
      if (x13.2 != (0 : Int)) = true then
        some (.inr ([], x13.2, v6))
      else
        need (v5.length + [x13.1].length ≤ 1073741824) <|
        (lex_skip n a0 (IntKind.i64.wrap (v6 + (x13.1.Text_.length : Int)))).bind fun x20 =>
        lex_Tokens_l1 n a0 c8 (v5 ++ [x13.1]) x20
    else
      some (.inl v5)
def lex_Tokens (n : Nat) (a0 : Str) : Option ((List T_lex_Token) × Int × Int) :=
  if (decide ((65536 : Int) < (a0.length : Int))) = true then
    some ([], (161 : Int), (0 : Int))
  else
    (lex_skip n a0 (0 : Int)).bind fun x2 =>
    (lex_Tokens_l1 n a0 n [] x2).bind fun y7 =>
    y7.elim (fun y7a =>
      need (y7a.length + [(T_lex_Token.mk (4 : Int) (a0.length : Int) [] (0 : Int))].length ≤ 1073741824) <|
      some ((y7a ++ [(T_lex_Token.mk (4 : Int) (a0.length : Int) [] (0 : Int))]), (0 : Int), (0 : Int))) (fun y7a =>
      some y7a)

/- (*parse.parser).token -/
def p_parse_parser_token (a0 : T_parse_parser) : Option T_lex_Token :=
  (idxL a0.l_ a0.at_).bind fun x2 =>
  some x2

/- (*parse.parser).fail -/
def p_parse_parser_fail (a0 : T_parse_parser) (a1 : Int) : Option T_parse_parser :=
  if (a0.e_ == (0 : Int)) = true then
    (p_parse_parser_token a0).bind fun x2 =>
    some ({ a0 with e_ := a1, where_ := x2.At_ } : T_parse_parser)
  else
    some a0

/- (*parse.parser).node -/
def p_parse_parser_node (a0 : T_parse_parser) (a1 : Int) : Option (T_parse_Node × T_parse_parser) :=
  if (decide ((16384 : Int) < (IntKind.i64.wrap (a0.nodes_ + (1 : Int))))) = true then
    (p_parse_parser_fail ({ a0 with nodes_ := (IntKind.i64.wrap (a0.nodes_ + (1 : Int))) } : T_parse_parser) (136 : Int)).bind fun x3 =>
    (p_parse_parser_token x3).bind fun x5 =>
    some ((T_parse_Node.mk a1 x5.At_ [] (0 : Int) []), x3)
  else
    (p_parse_parser_token ({ a0 with nodes_ := (IntKind.i64.wrap (a0.nodes_ + (1 : Int))) } : T_parse_parser)).bind fun x7 =>
    some ((T_parse_Node.mk a1 x7.At_ [] (0 : Int) []), ({ a0 with nodes_ := (IntKind.i64.wrap (a0.nodes_ + (1 : Int))) } : T_parse_parser))

/- slices.Index[[]string,string] -/
def slices_Index_L_string_string_l1 (a0 : (List Str)) (a1 : Str) : Nat → Int → Option (Unit ⊕ Int)
  | 0, _ => none
  | c4 + 1, v2 =>
    if (decide (v2 < (a0.length : Int))) = true then
      (idxL a0 v2).bind fun x9 =>
      if (decide (a1 = x9)) = true then
        some (.inr v2)
      else
        slices_Index_L_string_string_l1 a0 a1 c4 (IntKind.i64.wrap (v2 + (1 : Int)))
    else
      some (.inl ())
def slices_Index_L_string_string (n : Nat) (a0 : (List Str)) (a1 : Str) : Option Int :=
  (slices_Index_L_string_string_l1 a0 a1 n (0 : Int)).bind fun y3 =>
  y3.elim (fun y3a =>
    some (-1 : Int)) (fun y3a =>
    some y3a)

/- slices.Contains[[]string,string] -/
def slices_Contains_L_string_string (n : Nat) (a0 : (List Str)) (a1 : Str) : Option Bool :=
  (slices_Index_L_string_string n a0 a1).bind fun x1 =>
  some (decide ((0 : Int) ≤ x1))

/- parse.Word -/
def parse_Word (n : Nat) (a0 : Str) : Option Bool :=
  (slices_Contains_L_string_string n g_parse_words a0).bind fun x1 =>
  some x1

/- (*parse.parser).is -/
def p_parse_parser_is (n : Nat) (a0 : T_parse_parser) (a1 : Str) : Option Bool :=
  (p_parse_parser_token a0).bind fun x1 =>
  (if (a0.e_ == (0 : Int)) = true then
      if (decide (x1.Text_ = a1)) = true then
        if (x1.Kind_ == (3 : Int)) = true then
          some true
        else
          if (x1.Kind_ == (1 : Int)) = true then
            (parse_Word n a1).bind fun x9 =>
            some x9
          else
            some false
      else
        some false
    else
      some false).bind fun y4 =>
  some y4

/- (*parse.parser).take -/
def p_parse_parser_take (n : Nat) (a0 : T_parse_parser) (a1 : Str) : Option (Bool × T_parse_parser) :=
  (p_parse_parser_is n a0 a1).bind fun x1 =>
  if (!x1) = true then
    some (false, a0)
  else
    some (true, ({ a0 with at_ := (IntKind.i64.wrap (a0.at_ + (1 : Int))) } : T_parse_parser))

/- (*parse.parser).need -/
def p_parse_parser_need (n : Nat) (a0 : T_parse_parser) (a1 : Str) : Option T_parse_parser :=
  (p_parse_parser_take n a0 a1).bind fun x1 =>
  if (!x1.1) = true then
    (p_parse_parser_fail x1.2 (110 : Int)).bind fun x4 =>
    some x4
  else
    some x1.2

/- (*parse.parser).name -/
def p_parse_parser_name (n : Nat) (a0 : T_parse_parser) : Option (Str × T_parse_parser) :=
  (p_parse_parser_token a0).bind fun x1 =>
  (if (a0.e_ != (0 : Int)) = true then
      some true
    else
      if (x1.Kind_ != (1 : Int)) = true then
        some true
      else
        (parse_Word n x1.Text_).bind fun x7 =>
        some x7).bind fun y4 =>
  if y4 = true then
    (p_parse_parser_fail a0 (110 : Int)).bind fun x13 =>
    some (([] : Str), x13)
  else
    some (x1.Text_, ({ a0 with at_ := (IntKind.i64.wrap (a0.at_ + (1 : Int))) } : T_parse_parser))

/- (*parse.parser).number -/
def p_parse_parser_number (a0 : T_parse_parser) : Option (Int × T_parse_parser) :=
  (p_parse_parser_token a0).bind fun x1 =>
  (if (a0.e_ != (0 : Int)) = true then
      some true
    else
      some (x1.Kind_ != (2 : Int))).bind fun y4 =>
  if y4 = true then
    (p_parse_parser_fail a0 (110 : Int)).bind fun x10 =>
    some ((0 : Int), x10)
  else
    some (x1.Num_, ({ a0 with at_ := (IntKind.i64.wrap (a0.at_ + (1 : Int))) } : T_parse_parser))

/- (*parse.parser).size -/
def p_parse_parser_size (n : Nat) (a0 : T_parse_parser) : Option (Int × T_parse_parser) :=
  (p_parse_parser_need n a0 ([91] : Str)).bind fun x1 =>
  (p_parse_parser_number x1).bind fun x3 =>
  (p_parse_parser_need n x3.2 ([93] : Str)).bind fun x5 =>
  some (x3.1, x5)

/- (*parse.parser).param -/
def p_parse_parser_param_k1 : List Str := [([112, 117, 98] : Str), ([117, 51, 50] : Str), ([117, 54, 52] : Str)]
def p_parse_parser_param_l1 (n : Nat) : Nat → Int → T_parse_parser → T_parse_Node → T_parse_Node → Option ((T_parse_parser × T_parse_Node × T_parse_Node) ⊕ (T_parse_Node × T_parse_parser))
  | 0, _, _, _, _ => none
  | c15 + 1, v10, v11, v12, v13 =>
    if (decide (v10 < (3 : Int))) = true then
      (idxL p_parse_parser_param_k1 v10).bind fun x20 =>
      (p_parse_parser_take n v11 x20).bind fun x29 =>
      if x29.1 = true then
        some (.inr (({ v13 with Num_ := (IntKind.u32.wrap (IntKind.i64.wrap ((1 : Int) + v10))) } : T_parse_Node), x29.2))
      else
        p_parse_parser_param_l1 n c15 (IntKind.i64.wrap (v10 + (1 : Int))) x29.2 v12 v13
    else
      some (.inl (v11, v12, v13))
def p_parse_parser_param (n : Nat) (a0 : T_parse_parser) : Option (T_parse_Node × T_parse_parser) :=
  (p_parse_parser_node a0 (3 : Int)).bind fun x2 =>
  (p_parse_parser_name n x2.2).bind fun x5 =>
  (p_parse_parser_need n x5.2 ([58] : Str)).bind fun x7 =>
  (p_parse_parser_param_l1 n n (0 : Int) x7 (T_parse_Node.mk (0 : Int) (0 : Int) [] (0 : Int) []) ({ x2.1 with Text_ := x5.1 } : T_parse_Node)).bind fun y14 =>
  y14.elim (fun y14a =>
    (p_parse_parser_node y14a.1 (14 : Int)).bind fun x37 =>
    (p_parse_parser_size n x37.2).bind fun x40 =>
    some (({ y14a.2.2 with Num_ := (4 : Int), List_ := [({ x37.1 with Num_ := x40.1 } : T_parse_Node)] } : T_parse_Node), x40.2)) (fun y14a =>
    some y14a)

/- (*parse.parser).list -/
def p_parse_parser_list__param_l1 (n : Nat) : Nat → (List T_parse_Node) → T_parse_parser → Option ((List T_parse_Node) × T_parse_parser)
  | 0, _, _ => none
  | c11 + 1, v8, v9 =>
    if (v9.e_ == (0 : Int)) = true then
      (p_parse_parser_param n v9).bind fun x16 =>
      need (v8.length + [x16.1].length ≤ 1073741824) <|
      (p_parse_parser_take n x16.2 ([44] : Str)).bind fun x21 =>
      if (!x21.1) = true then
        some ((v8 ++ [x16.1]), x21.2)
      else
        p_parse_parser_list__param_l1 n c11 (v8 ++ [x16.1]) x21.2
    else
      some (v8, v9)
def p_parse_parser_list__param (n : Nat) (a0 : T_parse_parser) : Option ((List T_parse_Node) × T_parse_parser) :=
  (p_parse_parser_need n a0 ([40] : Str)).bind fun x1 =>
  (p_parse_parser_take n x1 ([41] : Str)).bind fun x3 =>
  if x3.1 = true then
    some ([], x3.2)
  else
    ((p_parse_parser_list__param_l1 n n [] x3.2).bind fun y10 =>
      some (y10.1, y10.2)).bind fun y6 =>
    (p_parse_parser_need n y6.2 ([41] : Str)).bind fun x27 =>
    some (y6.1, x27)

/- (*parse.parser).deep -/
def p_parse_parser_deep (a0 : T_parse_parser) (a1 : Int) : Option T_parse_parser :=
  if (decide ((64 : Int) < a1)) = true then
    (p_parse_parser_fail a0 (111 : Int)).bind fun x2 =>
    some x2
  else
    some a0

/- (*parse.parser).sign -/
def p_parse_parser_sign_l1 (n : Nat) (x1 : (List Str)) (a0 : T_parse_parser) : Nat → Int → Option (Unit ⊕ Str)
  | 0, _ => none
  | c15 + 1, v13 =>
    if (decide (v13 < (3 : Int))) = true then
      (idxL x1 v13).bind fun x20 =>
      (if (decide (x20 ≠ ([] : Str))) = true then
          (p_parse_parser_is n a0 x20).bind fun x31 =>
          some x31
        else
          some false).bind fun y29 =>
      if y29 = true then
        some (.inr x20)
      else
        p_parse_parser_sign_l1 n x1 a0 c15 (IntKind.i64.wrap (v13 + (1 : Int)))
    else
      some (.inl ())
def p_parse_parser_sign (n : Nat) (a0 : T_parse_parser) (a1 : Int) : Option Str :=
  (idxL g_parse_levels a1).bind fun x1 =>
  (p_parse_parser_sign_l1 n x1 a0 n (0 : Int)).bind fun y14 =>
  y14.elim (fun y14a =>
    some ([] : Str)) (fun y14a =>
    some y14a)

/- (*parse.parser).list -/
def p_parse_parser_list__operand_1_l1 (rec_p_parse_parser_operand_1 : T_parse_parser → Int → Option (T_parse_Node × T_parse_parser)) (n : Nat) (a1 : Int) : Nat → (List T_parse_Node) → T_parse_parser → Option ((List T_parse_Node) × T_parse_parser)
  | 0, _, _ => none
  | c11 + 1, v8, v9 =>
    if (v9.e_ == (0 : Int)) = true then
      (rec_p_parse_parser_operand_1 v9 a1).bind fun x16 =>
      need (v8.length + [x16.1].length ≤ 1073741824) <|
      (p_parse_parser_take n x16.2 ([44] : Str)).bind fun x21 =>
      if (!x21.1) = true then
        some ((v8 ++ [x16.1]), x21.2)
      else
        p_parse_parser_list__operand_1_l1 rec_p_parse_parser_operand_1 n a1 c11 (v8 ++ [x16.1]) x21.2
    else
      some (v8, v9)
def p_parse_parser_list__operand_1_b (rec_p_parse_parser_operand_1 : T_parse_parser → Int → Option (T_parse_Node × T_parse_parser)) (n : Nat) (a0 : T_parse_parser) (a1 : Int) : Option ((List T_parse_Node) × T_parse_parser) :=
  (p_parse_parser_need n a0 ([40] : Str)).bind fun x1 =>
  (p_parse_parser_take n x1 ([41] : Str)).bind fun x3 =>
  if x3.1 = true then
    some ([], x3.2)
  else
    ((p_parse_parser_list__operand_1_l1 rec_p_parse_parser_operand_1 n a1 n [] x3.2).bind fun y10 =>
      some (y10.1, y10.2)).bind fun y6 =>
    (p_parse_parser_need n y6.2 ([41] : Str)).bind fun x27 =>
    some (y6.1, x27)

/- (*parse.parser).expr -/
def p_parse_parser_expr_b (rec_p_parse_parser_level : T_parse_parser → Int → Int → Option (T_parse_Node × T_parse_parser)) (n : Nat) (a0 : T_parse_parser) (a1 : Int) : Option (T_parse_Node × T_parse_parser) :=
  (rec_p_parse_parser_level a0 (0 : Int) a1).bind fun x2 =>
  some (x2.1, x2.2)

/- (*parse.parser).level -/
def p_parse_parser_level_l1 (rec_p_parse_parser_level : T_parse_parser → Int → Int → Option (T_parse_Node × T_parse_parser)) (n : Nat) (a1 : Int) (a2 : Int) : Nat → Str → T_parse_parser → T_parse_Node → Option (T_parse_parser × T_parse_Node)
  | 0, _, _, _ => none
  | c15 + 1, v11, v12, v13 =>
    if (decide (v11 ≠ ([] : Str))) = true then
      (p_parse_parser_node v12 (19 : Int)).bind fun x20 =>
      (p_parse_parser_need n x20.2 v11).bind fun x23 =>
      (rec_p_parse_parser_level x23 (IntKind.i64.wrap (a1 + (1 : Int))) a2).bind fun x25 =>
      if (a1 == (3 : Int)) = true then
        some (x25.2, ({ x20.1 with Text_ := v11, List_ := [v13, x25.1] } : T_parse_Node))
      else
        (p_parse_parser_sign n x25.2 a1).bind fun x28 =>
        p_parse_parser_level_l1 rec_p_parse_parser_level n a1 a2 c15 x28 x25.2 ({ x20.1 with Text_ := v11, List_ := [v13, x25.1] } : T_parse_Node)
    else
      some (v12, v13)
def p_parse_parser_level_b (rec_p_parse_parser_operand : T_parse_parser → Int → Option (T_parse_Node × T_parse_parser)) (rec_p_parse_parser_level : T_parse_parser → Int → Int → Option (T_parse_Node × T_parse_parser)) (n : Nat) (a0 : T_parse_parser) (a1 : Int) (a2 : Int) : Option (T_parse_Node × T_parse_parser) :=
  if (a1 == (7 : Int)) = true then
    (rec_p_parse_parser_operand a0 a2).bind fun x3 =>
    some (x3.1, x3.2)
  else
    (rec_p_parse_parser_level a0 (IntKind.i64.wrap (a1 + (1 : Int))) a2).bind fun x5 =>
    (p_parse_parser_sign n x5.2 a1).bind fun x8 =>
    (p_parse_parser_level_l1 rec_p_parse_parser_level n a1 a2 n x8 x5.2 x5.1).bind fun y14 =>
    some (y14.2, y14.1)

/- (*parse.parser).operand -/
def p_parse_parser_operand_k1 : List Str := [([126] : Str), ([45] : Str)]
def p_parse_parser_operand_l1 (rec_p_parse_parser_operand : T_parse_parser → Int → Option (T_parse_Node × T_parse_parser)) (n : Nat) (a1 : Int) : Nat → Int → T_parse_parser → T_parse_Node → T_parse_Node → Option ((T_parse_parser × T_parse_Node × T_parse_Node) ⊕ (T_parse_Node × T_parse_parser))
  | 0, _, _, _, _ => none
  | c23 + 1, v18, v19, v20, v21 =>
    if (decide (v18 < (2 : Int))) = true then
      (idxL p_parse_parser_operand_k1 v18).bind fun x28 =>
      (p_parse_parser_take n v19 x28).bind fun x37 =>
      if x37.1 = true then
        (rec_p_parse_parser_operand x37.2 (IntKind.i64.wrap (a1 + (1 : Int)))).bind fun x40 =>
        some (.inr (({ v20 with Kind_ := (18 : Int), Text_ := x28, List_ := [x40.1] } : T_parse_Node), x40.2))
      else
        p_parse_parser_operand_l1 rec_p_parse_parser_operand n a1 c23 (IntKind.i64.wrap (v18 + (1 : Int))) x37.2 v20 v21
    else
      some (.inl (v19, v20, v21))
def p_parse_parser_operand_b (rec_p_parse_parser_expr : T_parse_parser → Int → Option (T_parse_Node × T_parse_parser)) (rec_p_parse_parser_operand : T_parse_parser → Int → Option (T_parse_Node × T_parse_parser)) (rec_p_parse_parser_list__operand_1 : T_parse_parser → Int → Option ((List T_parse_Node) × T_parse_parser)) (n : Nat) (a0 : T_parse_parser) (a1 : Int) : Option (T_parse_Node × T_parse_parser) :=
  (p_parse_parser_deep a0 a1).bind fun x4 =>
  (p_parse_parser_take n x4 ([40] : Str)).bind fun x6 =>
  if x6.1 = true then
    (rec_p_parse_parser_expr x6.2 (IntKind.i64.wrap (a1 + (1 : Int)))).bind fun x9 =>
    (p_parse_parser_need n x9.2 ([41] : Str)).bind fun x12 =>
    some (x9.1, x12)
  else
    (p_parse_parser_node x6.2 (15 : Int)).bind fun x14 =>
    (p_parse_parser_operand_l1 rec_p_parse_parser_operand n a1 n (0 : Int) x14.2 x14.1 (T_parse_Node.mk (0 : Int) (0 : Int) [] (0 : Int) [])).bind fun y22 =>
    y22.elim (fun y22a =>
      (if (y22a.1.e_ == (0 : Int)) = true then
          (p_parse_parser_token y22a.1).bind fun x72 =>
          some (x72.Kind_ == (2 : Int))
        else
          some false).bind fun y70 =>
      if y70 = true then
        (p_parse_parser_number y22a.1).bind fun x78 =>
        some (({ y22a.2.1 with Kind_ := (14 : Int), Num_ := x78.1 } : T_parse_Node), x78.2)
      else
        (p_parse_parser_name n y22a.1).bind fun x80 =>
        ((p_parse_parser_is n x80.2 ([40] : Str)).bind fun x83 =>
          if x83 = true then
            (rec_p_parse_parser_list__operand_1 x80.2 a1).bind fun x86 =>
            some (x86.2, ({ y22a.2.1 with Kind_ := (17 : Int), Text_ := x80.1, List_ := x86.1 } : T_parse_Node))
          else
            (p_parse_parser_take n x80.2 ([91] : Str)).bind fun x88 =>
            if x88.1 = true then
              (rec_p_parse_parser_expr x88.2 (IntKind.i64.wrap (a1 + (1 : Int)))).bind fun x91 =>
              (p_parse_parser_need n x91.2 ([93] : Str)).bind fun x93 =>
              some (x93, ({ y22a.2.1 with Kind_ := (16 : Int), Text_ := x80.1, List_ := [x91.1] } : T_parse_Node))
            else
              some (x88.2, ({ y22a.2.1 with Text_ := x80.1 } : T_parse_Node))).bind fun y82 =>
        some (y82.2, y82.1)) (fun y22a =>
      some y22a)

/- (*parse.parser).operand$1 -/
def p_parse_parser_operand_1_b (rec_p_parse_parser_expr : T_parse_parser → Int → Option (T_parse_Node × T_parse_parser)) (n : Nat) (a0 : T_parse_parser) (a1 : Int) : Option (T_parse_Node × T_parse_parser) :=
  (rec_p_parse_parser_expr a0 (IntKind.i64.wrap (a1 + (1 : Int)))).bind fun x2 =>
  some (x2.1, x2.2)

def p_parse_parser_list__operand_1_grp : Nat → (T_parse_parser → Int → Option ((List T_parse_Node) × T_parse_parser)) × (T_parse_parser → Int → Option (T_parse_Node × T_parse_parser)) × (T_parse_parser → Int → Int → Option (T_parse_Node × T_parse_parser)) × (T_parse_parser → Int → Option (T_parse_Node × T_parse_parser)) × (T_parse_parser → Int → Option (T_parse_Node × T_parse_parser))
  | 0 => (fun _ _ => none, fun _ _ => none, fun _ _ _ => none, fun _ _ => none, fun _ _ => none)
  | n + 1 => (p_parse_parser_list__operand_1_b (p_parse_parser_list__operand_1_grp n).2.2.2.2 n, p_parse_parser_expr_b (p_parse_parser_list__operand_1_grp n).2.2.1 n, p_parse_parser_level_b (p_parse_parser_list__operand_1_grp n).2.2.2.1 (p_parse_parser_list__operand_1_grp n).2.2.1 n, p_parse_parser_operand_b (p_parse_parser_list__operand_1_grp n).2.1 (p_parse_parser_list__operand_1_grp n).2.2.2.1 (p_parse_parser_list__operand_1_grp n).1 n, p_parse_parser_operand_1_b (p_parse_parser_list__operand_1_grp n).2.1 n)
def p_parse_parser_list__operand_1 (n : Nat) : T_parse_parser → Int → Option ((List T_parse_Node) × T_parse_parser) := (p_parse_parser_list__operand_1_grp n).1
def p_parse_parser_expr (n : Nat) : T_parse_parser → Int → Option (T_parse_Node × T_parse_parser) := (p_parse_parser_list__operand_1_grp n).2.1
def p_parse_parser_level (n : Nat) : T_parse_parser → Int → Int → Option (T_parse_Node × T_parse_parser) := (p_parse_parser_list__operand_1_grp n).2.2.1
def p_parse_parser_operand (n : Nat) : T_parse_parser → Int → Option (T_parse_Node × T_parse_parser) := (p_parse_parser_list__operand_1_grp n).2.2.2.1
def p_parse_parser_operand_1 (n : Nat) : T_parse_parser → Int → Option (T_parse_Node × T_parse_parser) := (p_parse_parser_list__operand_1_grp n).2.2.2.2

/- (*parse.parser).named -/
def p_parse_parser_named (n : Nat) (a0 : T_parse_parser) (a1 : T_parse_Node) (a2 : Int) : Option (T_parse_Node × T_parse_parser) :=
  (p_parse_parser_name n a0).bind fun x3 =>
  (p_parse_parser_need n x3.2 ([61] : Str)).bind fun x5 =>
  (p_parse_parser_expr n x5 a2).bind fun x7 =>
  (p_parse_parser_need n x7.2 ([59] : Str)).bind fun x9 =>
  some (({ a1 with Text_ := x3.1, List_ := [x7.1] } : T_parse_Node), x9)

/- (*parse.parser).plain$1 -/
def p_parse_parser_plain_1 (n : Nat) (a0 : T_parse_parser) (a1 : Int) : Option (T_parse_Node × T_parse_parser) :=
  (p_parse_parser_expr n a0 (IntKind.i64.wrap (a1 + (2 : Int)))).bind fun x2 =>
  some (x2.1, x2.2)

/- (*parse.parser).list -/
def p_parse_parser_list__plain_1_l1 (n : Nat) (a1 : Int) : Nat → (List T_parse_Node) → T_parse_parser → Option ((List T_parse_Node) × T_parse_parser)
  | 0, _, _ => none
  | c11 + 1, v8, v9 =>
    if (v9.e_ == (0 : Int)) = true then
      (p_parse_parser_plain_1 n v9 a1).bind fun x16 =>
      need (v8.length + [x16.1].length ≤ 1073741824) <|
      (p_parse_parser_take n x16.2 ([44] : Str)).bind fun x21 =>
      if (!x21.1) = true then
        some ((v8 ++ [x16.1]), x21.2)
      else
        p_parse_parser_list__plain_1_l1 n a1 c11 (v8 ++ [x16.1]) x21.2
    else
      some (v8, v9)
def p_parse_parser_list__plain_1 (n : Nat) (a0 : T_parse_parser) (a1 : Int) : Option ((List T_parse_Node) × T_parse_parser) :=
  (p_parse_parser_need n a0 ([40] : Str)).bind fun x1 =>
  (p_parse_parser_take n x1 ([41] : Str)).bind fun x3 =>
  if x3.1 = true then
    some ([], x3.2)
  else
    ((p_parse_parser_list__plain_1_l1 n a1 n [] x3.2).bind fun y10 =>
      some (y10.1, y10.2)).bind fun y6 =>
    (p_parse_parser_need n y6.2 ([41] : Str)).bind fun x27 =>
    some (y6.1, x27)

/- (*parse.parser).plain -/
def p_parse_parser_plain (n : Nat) (a0 : T_parse_parser) (a1 : T_parse_Node) (a2 : Int) : Option (T_parse_Node × T_parse_parser) :=
  (p_parse_parser_name n a0).bind fun x5 =>
  ((p_parse_parser_is n x5.2 ([40] : Str)).bind fun x8 =>
    if x8 = true then
      (p_parse_parser_list__plain_1 n x5.2 a2).bind fun x11 =>
      some (x11.2, ({ a1 with Kind_ := (10 : Int), Text_ := x5.1, List_ := x11.1 } : T_parse_Node))
    else
      (p_parse_parser_take n x5.2 ([91] : Str)).bind fun x13 =>
      if x13.1 = true then
        (p_parse_parser_expr n x13.2 (IntKind.i64.wrap (a2 + (2 : Int)))).bind fun x16 =>
        (p_parse_parser_need n x16.2 ([93] : Str)).bind fun x18 =>
        (p_parse_parser_need n x18 ([61] : Str)).bind fun x20 =>
        (p_parse_parser_expr n x20 (IntKind.i64.wrap (a2 + (1 : Int)))).bind fun x22 =>
        need ([x16.1].length + [x22.1].length ≤ 1073741824) <|
        some (x22.2, ({ a1 with Kind_ := (9 : Int), Text_ := x5.1, List_ := ([x16.1] ++ [x22.1]) } : T_parse_Node))
      else
        (p_parse_parser_need n x13.2 ([61] : Str)).bind fun x25 =>
        (p_parse_parser_expr n x25 (IntKind.i64.wrap (a2 + (1 : Int)))).bind fun x27 =>
        some (x27.2, ({ a1 with Text_ := x5.1, List_ := [x27.1] } : T_parse_Node))).bind fun y7 =>
  (p_parse_parser_need n y7.1 ([59] : Str)).bind fun x32 =>
  some (y7.2, x32)

/- (*parse.parser).block -/
def p_parse_parser_block_l1 (rec_p_parse_parser_statement : T_parse_parser → Int → Option (T_parse_Node × T_parse_parser)) (n : Nat) (a1 : Int) : Nat → T_parse_parser → T_parse_Node → Option (T_parse_parser × T_parse_Node)
  | 0, _, _ => none
  | c13 + 1, v10, v11 =>
    (if (v10.e_ == (0 : Int)) = true then
        (p_parse_parser_is n v10 ([125] : Str)).bind fun x19 =>
        some (!x19)
      else
        some false).bind fun y17 =>
    if y17 = true then
      (rec_p_parse_parser_statement v10 a1).bind fun x25 =>
      need (v11.List_.length + [x25.1].length ≤ 1073741824) <|
      p_parse_parser_block_l1 rec_p_parse_parser_statement n a1 c13 x25.2 ({ v11 with List_ := (v11.List_ ++ [x25.1]) } : T_parse_Node)
    else
      some (v10, v11)
def p_parse_parser_block_b (rec_p_parse_parser_statement : T_parse_parser → Int → Option (T_parse_Node × T_parse_parser)) (n : Nat) (a0 : T_parse_parser) (a1 : Int) : Option (T_parse_Node × T_parse_parser) :=
  (p_parse_parser_deep a0 a1).bind fun x2 =>
  (p_parse_parser_node x2 (4 : Int)).bind fun x4 =>
  (p_parse_parser_need n x4.2 ([123] : Str)).bind fun x7 =>
  (p_parse_parser_block_l1 rec_p_parse_parser_statement n a1 n x7 x4.1).bind fun y12 =>
  (p_parse_parser_need n y12.1 ([125] : Str)).bind fun x32 =>
  some (y12.2, x32)

/- (*parse.parser).statement -/
def p_parse_parser_statement_b (rec_p_parse_parser_choice : T_parse_parser → T_parse_Node → Int → Option (T_parse_Node × T_parse_parser)) (rec_p_parse_parser_loop : T_parse_parser → T_parse_Node → Int → Option (T_parse_Node × T_parse_parser)) (n : Nat) (a0 : T_parse_parser) (a1 : Int) : Option (T_parse_Node × T_parse_parser) :=
  (p_parse_parser_node a0 (8 : Int)).bind fun x2 =>
  ((p_parse_parser_take n x2.2 ([108, 101, 116] : Str)).bind fun x6 =>
    if x6.1 = true then
      (p_parse_parser_named n x6.2 ({ x2.1 with Kind_ := (5 : Int) } : T_parse_Node) (IntKind.i64.wrap (a1 + (1 : Int)))).bind fun x9 =>
      some (.inr (x9.1, x9.2))
    else
      (p_parse_parser_take n x6.2 ([118, 97, 114] : Str)).bind fun x11 =>
      if x11.1 = true then
        (p_parse_parser_named n x11.2 ({ x2.1 with Kind_ := (6 : Int) } : T_parse_Node) (IntKind.i64.wrap (a1 + (1 : Int)))).bind fun x14 =>
        some (.inr (x14.1, x14.2))
      else
        (p_parse_parser_take n x11.2 ([97, 114, 114] : Str)).bind fun x16 =>
        if x16.1 = true then
          (p_parse_parser_name n x16.2).bind fun x19 =>
          (p_parse_parser_size n x19.2).bind fun x21 =>
          some (.inl (x21.2, ({ x2.1 with Kind_ := (7 : Int), Text_ := x19.1, Num_ := x21.1 } : T_parse_Node)))
        else
          (p_parse_parser_take n x16.2 ([114, 101, 116, 117, 114, 110] : Str)).bind fun x23 =>
          if x23.1 = true then
            (p_parse_parser_expr n x23.2 (IntKind.i64.wrap (a1 + (1 : Int)))).bind fun x26 =>
            some (.inl (x26.2, ({ x2.1 with Kind_ := (13 : Int), List_ := [x26.1] } : T_parse_Node)))
          else
            (p_parse_parser_take n x23.2 ([105, 102] : Str)).bind fun x28 =>
            if x28.1 = true then
              (rec_p_parse_parser_choice x28.2 x2.1 a1).bind fun x31 =>
              some (.inr (x31.1, x31.2))
            else
              (p_parse_parser_take n x28.2 ([102, 111, 114] : Str)).bind fun x33 =>
              if x33.1 = true then
                (rec_p_parse_parser_loop x33.2 x2.1 a1).bind fun x36 =>
                some (.inr (x36.1, x36.2))
              else
                (p_parse_parser_plain n x33.2 x2.1 a1).bind fun x38 =>
                some (.inr (x38.1, x38.2)) : Option ((T_parse_parser × T_parse_Node) ⊕ (T_parse_Node × T_parse_parser))).bind fun y5 =>
  y5.elim (fun y5a =>
    (p_parse_parser_need n y5a.1 ([59] : Str)).bind fun x43 =>
    some (y5a.2, x43)) (fun y5a =>
    some y5a)

/- (*parse.parser).choice -/
def p_parse_parser_choice_b (rec_p_parse_parser_block : T_parse_parser → Int → Option (T_parse_Node × T_parse_parser)) (n : Nat) (a0 : T_parse_parser) (a1 : T_parse_Node) (a2 : Int) : Option (T_parse_Node × T_parse_parser) :=
  (p_parse_parser_expr n a0 (IntKind.i64.wrap (a2 + (1 : Int)))).bind fun x3 =>
  (rec_p_parse_parser_block x3.2 (IntKind.i64.wrap (a2 + (1 : Int)))).bind fun x5 =>
  need ([x3.1].length + [x5.1].length ≤ 1073741824) <|
  (p_parse_parser_take n x5.2 ([101, 108, 115, 101] : Str)).bind fun x8 =>
  if x8.1 = true then
    (rec_p_parse_parser_block x8.2 (IntKind.i64.wrap (a2 + (1 : Int)))).bind fun x11 =>
    need (([x3.1] ++ [x5.1]).length + [x11.1].length ≤ 1073741824) <|
    some (({ a1 with Kind_ := (11 : Int), List_ := (([x3.1] ++ [x5.1]) ++ [x11.1]) } : T_parse_Node), x11.2)
  else
    some (({ a1 with Kind_ := (11 : Int), List_ := ([x3.1] ++ [x5.1]) } : T_parse_Node), x8.2)

/- (*parse.parser).loop -/
def p_parse_parser_loop_b (rec_p_parse_parser_block : T_parse_parser → Int → Option (T_parse_Node × T_parse_parser)) (n : Nat) (a0 : T_parse_parser) (a1 : T_parse_Node) (a2 : Int) : Option (T_parse_Node × T_parse_parser) :=
  (p_parse_parser_name n a0).bind fun x3 =>
  (p_parse_parser_need n x3.2 ([105, 110] : Str)).bind fun x5 =>
  (p_parse_parser_expr n x5 (IntKind.i64.wrap (a2 + (1 : Int)))).bind fun x7 =>
  (p_parse_parser_need n x7.2 ([46, 46] : Str)).bind fun x9 =>
  (p_parse_parser_expr n x9 (IntKind.i64.wrap (a2 + (1 : Int)))).bind fun x11 =>
  need ([x7.1].length + [x11.1].length ≤ 1073741824) <|
  (rec_p_parse_parser_block x11.2 (IntKind.i64.wrap (a2 + (1 : Int)))).bind fun x14 =>
  need (([x7.1] ++ [x11.1]).length + [x14.1].length ≤ 1073741824) <|
  some (({ a1 with Kind_ := (12 : Int), Text_ := x3.1, List_ := (([x7.1] ++ [x11.1]) ++ [x14.1]) } : T_parse_Node), x14.2)

def p_parse_parser_block_grp : Nat → (T_parse_parser → Int → Option (T_parse_Node × T_parse_parser)) × (T_parse_parser → Int → Option (T_parse_Node × T_parse_parser)) × (T_parse_parser → T_parse_Node → Int → Option (T_parse_Node × T_parse_parser)) × (T_parse_parser → T_parse_Node → Int → Option (T_parse_Node × T_parse_parser))
  | 0 => (fun _ _ => none, fun _ _ => none, fun _ _ _ => none, fun _ _ _ => none)
  | n + 1 => (p_parse_parser_block_b (p_parse_parser_block_grp n).2.1 n, p_parse_parser_statement_b (p_parse_parser_block_grp n).2.2.1 (p_parse_parser_block_grp n).2.2.2 n, p_parse_parser_choice_b (p_parse_parser_block_grp n).1 n, p_parse_parser_loop_b (p_parse_parser_block_grp n).1 n)
def p_parse_parser_block (n : Nat) : T_parse_parser → Int → Option (T_parse_Node × T_parse_parser) := (p_parse_parser_block_grp n).1
def p_parse_parser_statement (n : Nat) : T_parse_parser → Int → Option (T_parse_Node × T_parse_parser) := (p_parse_parser_block_grp n).2.1
def p_parse_parser_choice (n : Nat) : T_parse_parser → T_parse_Node → Int → Option (T_parse_Node × T_parse_parser) := (p_parse_parser_block_grp n).2.2.1
def p_parse_parser_loop (n : Nat) : T_parse_parser → T_parse_Node → Int → Option (T_parse_Node × T_parse_parser) := (p_parse_parser_block_grp n).2.2.2

/- (*parse.parser).function -/
def p_parse_parser_function (n : Nat) (a0 : T_parse_parser) : Option (T_parse_Node × T_parse_parser) :=
  (p_parse_parser_node a0 (2 : Int)).bind fun x2 =>
  (p_parse_parser_take n x2.2 ([101, 120, 112, 111, 114, 116] : Str)).bind fun x5 =>
  if x5.1 = true then
    (p_parse_parser_need n x5.2 ([102, 110] : Str)).bind fun x8 =>
    (p_parse_parser_name n x8).bind fun x10 =>
    (p_parse_parser_list__param n x10.2).bind fun x12 =>
    (p_parse_parser_take n x12.2 ([45, 62] : Str)).bind fun x14 =>
    if x14.1 = true then
      (p_parse_parser_take n x14.2 ([117, 51, 50] : Str)).bind fun x17 =>
      if x17.1 = true then
        (p_parse_parser_block n x17.2 (1 : Int)).bind fun x20 =>
        need (x12.1.length + [x20.1].length ≤ 1073741824) <|
        some (({ x2.1 with Text_ := x10.1, Num_ := (orK .u32 (1 : Int) (2 : Int)), List_ := (x12.1 ++ [x20.1]) } : T_parse_Node), x20.2)
      else
        (p_parse_parser_need n x17.2 ([117, 54, 52] : Str)).bind fun x25 =>
        (p_parse_parser_block n x25 (1 : Int)).bind fun x27 =>
        need (x12.1.length + [x27.1].length ≤ 1073741824) <|
        some (({ x2.1 with Text_ := x10.1, Num_ := (orK .u32 (1 : Int) (4 : Int)), List_ := (x12.1 ++ [x27.1]) } : T_parse_Node), x27.2)
    else
      (p_parse_parser_block n x14.2 (1 : Int)).bind fun x32 =>
      need (x12.1.length + [x32.1].length ≤ 1073741824) <|
      some (({ x2.1 with Text_ := x10.1, Num_ := (1 : Int), List_ := (x12.1 ++ [x32.1]) } : T_parse_Node), x32.2)
  else
    (p_parse_parser_need n x5.2 ([102, 110] : Str)).bind fun x37 =>
    (p_parse_parser_name n x37).bind fun x39 =>
    (p_parse_parser_list__param n x39.2).bind fun x41 =>
    (p_parse_parser_take n x41.2 ([45, 62] : Str)).bind fun x43 =>
    if x43.1 = true then
      (p_parse_parser_take n x43.2 ([117, 51, 50] : Str)).bind fun x46 =>
      if x46.1 = true then
        (p_parse_parser_block n x46.2 (1 : Int)).bind fun x49 =>
        need (x41.1.length + [x49.1].length ≤ 1073741824) <|
        some (({ x2.1 with Text_ := x39.1, Num_ := (orK .u32 x2.1.Num_ (2 : Int)), List_ := (x41.1 ++ [x49.1]) } : T_parse_Node), x49.2)
      else
        (p_parse_parser_need n x46.2 ([117, 54, 52] : Str)).bind fun x54 =>
        (p_parse_parser_block n x54 (1 : Int)).bind fun x56 =>
        need (x41.1.length + [x56.1].length ≤ 1073741824) <|
        some (({ x2.1 with Text_ := x39.1, Num_ := (orK .u32 x2.1.Num_ (4 : Int)), List_ := (x41.1 ++ [x56.1]) } : T_parse_Node), x56.2)
    else
      (p_parse_parser_block n x43.2 (1 : Int)).bind fun x61 =>
      need (x41.1.length + [x61.1].length ≤ 1073741824) <|
      some (({ x2.1 with Text_ := x39.1, List_ := (x41.1 ++ [x61.1]) } : T_parse_Node), x61.2)

/- parse.Parse -/
def parse_Parse_l1 (n : Nat) : Nat → T_parse_parser → T_parse_Node → Option (T_parse_parser × T_parse_Node)
  | 0, _, _ => none
  | c13 + 1, v10, v11 =>
    (if (v10.e_ == (0 : Int)) = true then
        (p_parse_parser_token v10).bind fun x19 =>
        some (x19.Kind_ != (4 : Int))
      else
        some false).bind fun y17 =>
    if y17 = true then
      (p_parse_parser_function n v10).bind fun x25 =>
      need (v11.List_.length + [x25.1].length ≤ 1073741824) <|
      parse_Parse_l1 n c13 x25.2 ({ v11 with List_ := (v11.List_ ++ [x25.1]) } : T_parse_Node)
    else
      some (v10, v11)
def parse_Parse (n : Nat) (a0 : Str) : Option (T_parse_Node × Int × Int) :=
  (lex_Tokens n a0).bind fun x2 =>
  if (x2.2.1 != (0 : Int)) = true then
    some ((T_parse_Node.mk (0 : Int) (0 : Int) [] (0 : Int) []), x2.2.1, x2.2.2)
  else
    (p_parse_parser_node (T_parse_parser.mk x2.1 (0 : Int) (0 : Int) (0 : Int) (0 : Int)) (1 : Int)).bind fun x6 =>
    (parse_Parse_l1 n n x6.2 x6.1).bind fun y12 =>
    if (y12.1.e_ != (0 : Int)) = true then
      some ((T_parse_Node.mk (0 : Int) (0 : Int) [] (0 : Int) []), y12.1.e_, y12.1.where_)
    else
      some (y12.2, (0 : Int), (0 : Int))

/- remontoirelaw10.flat -/
def remontoirelaw10_flat_l1 (rec_remontoirelaw10_flat : T_parse_Node → Int → Option (List T_remontoireref10_N)) (a0 : T_parse_Node) (a1 : Int) : Nat → (List T_remontoireref10_N) → Int → Option (List T_remontoireref10_N)
  | 0, _, _ => none
  | c7 + 1, v4, v5 =>
    if (decide (v5 < (a0.List_.length : Int))) = true then
      (idxL a0.List_ v5).bind fun x12 =>
      (rec_remontoirelaw10_flat x12 (IntKind.i64.wrap (a1 + (1 : Int)))).bind fun x18 =>
      need (v4.length + x18.length ≤ 1073741824) <|
      remontoirelaw10_flat_l1 rec_remontoirelaw10_flat a0 a1 c7 (v4 ++ x18) (IntKind.i64.wrap (v5 + (1 : Int)))
    else
      some v4
def remontoirelaw10_flat_b (rec_remontoirelaw10_flat : T_parse_Node → Int → Option (List T_remontoireref10_N)) (n : Nat) (a0 : T_parse_Node) (a1 : Int) : Option (List T_remontoireref10_N) :=
  if (decide ((20000 : Int) < a1)) = true then
    some [(T_remontoireref10_N.mk a0.Kind_ a0.At_ a0.Text_ a0.Num_ (a0.List_.length : Int))]
  else
    (remontoirelaw10_flat_l1 rec_remontoirelaw10_flat a0 a1 n [(T_remontoireref10_N.mk a0.Kind_ a0.At_ a0.Text_ a0.Num_ (a0.List_.length : Int))] (0 : Int)).bind fun y6 =>
    some y6

def remontoirelaw10_flat : Nat → T_parse_Node → Int → Option (List T_remontoireref10_N)
  | 0 => fun _ _ => none
  | n + 1 => remontoirelaw10_flat_b (remontoirelaw10_flat n) n

/- remontoirelaw10.anchor -/
def remontoirelaw10_anchor (n : Nat) : Option Bool :=
  (parse_Parse n ([102, 110, 32, 102, 40, 41, 123, 120, 61, 49, 43, 50, 42, 51, 59, 125] : Str)).bind fun x1 =>
  (remontoirelaw10_flat n x1.1 (0 : Int)).bind fun x4 =>
  (if (x1.2.1 == (0 : Int)) = true then
      if ((x4.length : Int) == (9 : Int)) = true then
        (idxL x4 (4 : Int)).bind fun x9 =>
        if (decide (x9.Text_ = ([43] : Str))) = true then
          (idxL x4 (6 : Int)).bind fun x16 =>
          some (decide (x16.Text_ = ([42] : Str)))
        else
          some false
      else
        some false
    else
      some false).bind fun y6 =>
  some y6

/- remontoireref09.blanks -/
def remontoireref09_blanks_l2 (a0 : Str) : Nat → Int → Option Int
  | 0, _ => none
  | c37 + 1, v35 =>
    (if (decide (v35 < (a0.length : Int))) = true then
        (idxL a0 v35).bind fun x43 =>
        some ((x43.toNat : Int) != (10 : Int))
      else
        some false).bind fun y41 =>
    if y41 = true then
      remontoireref09_blanks_l2 a0 c37 (IntKind.i64.wrap (v35 + (1 : Int)))
    else
      some v35
def remontoireref09_blanks_l1 (n : Nat) (a0 : Str) : Nat → Int → Option (Int ⊕ Int)
  | 0, _ => none
  | c4 + 1, v2 =>
    if (decide (v2 < (a0.length : Int))) = true then
      (idxL a0 v2).bind fun x9 =>
      (if ((x9.toNat : Int) == (32 : Int)) = true then
          some true
        else
          if ((x9.toNat : Int) == (9 : Int)) = true then
            some true
          else
            if ((x9.toNat : Int) == (13 : Int)) = true then
              some true
            else
              some ((x9.toNat : Int) == (10 : Int))).bind fun y14 =>
      if y14 = true then
        remontoireref09_blanks_l1 n a0 c4 (IntKind.i64.wrap (v2 + (1 : Int)))
      else
        (if (decide ((a0.length : Int) ≤ (IntKind.i64.wrap (v2 + (1 : Int))))) = true then
            some true
          else
            if ((x9.toNat : Int) != (47 : Int)) = true then
              some true
            else
              (idxL a0 (IntKind.i64.wrap (v2 + (1 : Int)))).bind fun x25 =>
              some ((x25.toNat : Int) != (47 : Int))).bind fun y22 =>
        if y22 = true then
          some (.inr v2)
        else
          (remontoireref09_blanks_l2 a0 n v2).bind fun y36 =>
          remontoireref09_blanks_l1 n a0 c4 y36
    else
      some (.inl v2)
def remontoireref09_blanks (n : Nat) (a0 : Str) (a1 : Int) : Option Int :=
  (remontoireref09_blanks_l1 n a0 n a1).bind fun y3 =>
  y3.elim (fun y3a =>
    some y3a) (fun y3a =>
    some y3a)

/- remontoireref09.letter -/
def remontoireref09_letter (a0 : Int) : Option Bool :=
  (if (decide ((97 : Int) ≤ a0)) = true then
      if (decide (a0 ≤ (122 : Int))) = true then
        some true
      else
        some (a0 == (95 : Int))
    else
      some (a0 == (95 : Int))).bind fun y1 =>
  some y1

/- remontoireref09.digit -/
def remontoireref09_digit (a0 : Int) : Option Bool :=
  (if (decide ((48 : Int) ≤ a0)) = true then
      some (decide (a0 ≤ (57 : Int)))
    else
      some false).bind fun y1 =>
  some y1

/- remontoireref09.number -/
def remontoireref09_number_l1 (a0 : Str) : Nat → Int → Int → Option (Int ⊕ (Int × Bool))
  | 0, _, _ => none
  | c25 + 1, v22, v23 =>
    if (decide (v22 < (a0.length : Int))) = true then
      ((idxL a0 v22).bind fun x31 =>
        (remontoireref09_digit (x31.toNat : Int)).bind fun x32 =>
        if x32 = true then
          (if (decide ((97 : Int) ≤ (x31.toNat : Int))) = true then
              some (decide ((x31.toNat : Int) ≤ (102 : Int)))
            else
              some false).bind fun y39 =>
          if y39 = true then
            if (decide ((16 : Int) ≤ (IntKind.u64.wrap ((IntKind.u64.wrap (x31.toNat : Int)) - (87 : Int))))) = true then
              some (.inr ((0 : Int), false))
            else
              if (decide ((4294967295 : Int) < (IntKind.u64.wrap ((IntKind.u64.wrap (v23 * (16 : Int))) + (IntKind.u64.wrap ((IntKind.u64.wrap (x31.toNat : Int)) - (87 : Int))))))) = true then
                some (.inr ((0 : Int), false))
              else
                some (.inl (IntKind.u64.wrap ((IntKind.u64.wrap (v23 * (16 : Int))) + (IntKind.u64.wrap ((IntKind.u64.wrap (x31.toNat : Int)) - (87 : Int))))))
          else
            if (decide ((16 : Int) ≤ (IntKind.u64.wrap ((IntKind.u64.wrap (x31.toNat : Int)) - (48 : Int))))) = true then
              some (.inr ((0 : Int), false))
            else
              if (decide ((4294967295 : Int) < (IntKind.u64.wrap ((IntKind.u64.wrap (v23 * (16 : Int))) + (IntKind.u64.wrap ((IntKind.u64.wrap (x31.toNat : Int)) - (48 : Int))))))) = true then
                some (.inr ((0 : Int), false))
              else
                some (.inl (IntKind.u64.wrap ((IntKind.u64.wrap (v23 * (16 : Int))) + (IntKind.u64.wrap ((IntKind.u64.wrap (x31.toNat : Int)) - (48 : Int))))))
        else
          (if (decide ((97 : Int) ≤ (x31.toNat : Int))) = true then
              some (decide ((x31.toNat : Int) ≤ (102 : Int)))
            else
              some false).bind fun y49 =>
          if y49 = true then
            if (decide ((16 : Int) ≤ (IntKind.u64.wrap ((IntKind.u64.wrap (x31.toNat : Int)) - (87 : Int))))) = true then
              some (.inr ((0 : Int), false))
            else
              if (decide ((4294967295 : Int) < (IntKind.u64.wrap ((IntKind.u64.wrap (v23 * (16 : Int))) + (IntKind.u64.wrap ((IntKind.u64.wrap (x31.toNat : Int)) - (87 : Int))))))) = true then
                some (.inr ((0 : Int), false))
              else
                some (.inl (IntKind.u64.wrap ((IntKind.u64.wrap (v23 * (16 : Int))) + (IntKind.u64.wrap ((IntKind.u64.wrap (x31.toNat : Int)) - (87 : Int))))))
          else
            if (decide ((16 : Int) ≤ (99 : Int))) = true then
              some (.inr ((0 : Int), false))
            else
              if (decide ((4294967295 : Int) < (IntKind.u64.wrap ((IntKind.u64.wrap (v23 * (16 : Int))) + (99 : Int))))) = true then
                some (.inr ((0 : Int), false))
              else
                some (.inl (IntKind.u64.wrap ((IntKind.u64.wrap (v23 * (16 : Int))) + (99 : Int)))) : Option (Int ⊕ (Int × Bool))).bind fun y30 =>
      y30.elim (fun y30a =>
        remontoireref09_number_l1 a0 c25 (IntKind.i64.wrap (v22 + (1 : Int))) y30a) (fun y30a =>
        some (.inr y30a))
    else
      some (.inl v23)
def remontoireref09_number_l2 (a0 : Str) : Nat → Int → Int → Option (Int ⊕ (Int × Bool))
  | 0, _, _ => none
  | c67 + 1, v64, v65 =>
    if (decide (v64 < (a0.length : Int))) = true then
      ((idxL a0 v64).bind fun x73 =>
        (remontoireref09_digit (x73.toNat : Int)).bind fun x74 =>
        if x74 = true then
          (if (decide ((97 : Int) ≤ (x73.toNat : Int))) = true then
              some (decide ((x73.toNat : Int) ≤ (102 : Int)))
            else
              some false).bind fun y81 =>
          if y81 = true then
            if (decide ((10 : Int) ≤ (IntKind.u64.wrap ((IntKind.u64.wrap (x73.toNat : Int)) - (87 : Int))))) = true then
              some (.inr ((0 : Int), false))
            else
              if (decide ((4294967295 : Int) < (IntKind.u64.wrap ((IntKind.u64.wrap (v65 * (10 : Int))) + (IntKind.u64.wrap ((IntKind.u64.wrap (x73.toNat : Int)) - (87 : Int))))))) = true then
                some (.inr ((0 : Int), false))
              else
                some (.inl (IntKind.u64.wrap ((IntKind.u64.wrap (v65 * (10 : Int))) + (IntKind.u64.wrap ((IntKind.u64.wrap (x73.toNat : Int)) - (87 : Int))))))
          else
            if (decide ((10 : Int) ≤ (IntKind.u64.wrap ((IntKind.u64.wrap (x73.toNat : Int)) - (48 : Int))))) = true then
              some (.inr ((0 : Int), false))
            else
              if (decide ((4294967295 : Int) < (IntKind.u64.wrap ((IntKind.u64.wrap (v65 * (10 : Int))) + (IntKind.u64.wrap ((IntKind.u64.wrap (x73.toNat : Int)) - (48 : Int))))))) = true then
                some (.inr ((0 : Int), false))
              else
                some (.inl (IntKind.u64.wrap ((IntKind.u64.wrap (v65 * (10 : Int))) + (IntKind.u64.wrap ((IntKind.u64.wrap (x73.toNat : Int)) - (48 : Int))))))
        else
          (if (decide ((97 : Int) ≤ (x73.toNat : Int))) = true then
              some (decide ((x73.toNat : Int) ≤ (102 : Int)))
            else
              some false).bind fun y91 =>
          if y91 = true then
            if (decide ((10 : Int) ≤ (IntKind.u64.wrap ((IntKind.u64.wrap (x73.toNat : Int)) - (87 : Int))))) = true then
              some (.inr ((0 : Int), false))
            else
              if (decide ((4294967295 : Int) < (IntKind.u64.wrap ((IntKind.u64.wrap (v65 * (10 : Int))) + (IntKind.u64.wrap ((IntKind.u64.wrap (x73.toNat : Int)) - (87 : Int))))))) = true then
                some (.inr ((0 : Int), false))
              else
                some (.inl (IntKind.u64.wrap ((IntKind.u64.wrap (v65 * (10 : Int))) + (IntKind.u64.wrap ((IntKind.u64.wrap (x73.toNat : Int)) - (87 : Int))))))
          else
            if (decide ((10 : Int) ≤ (99 : Int))) = true then
              some (.inr ((0 : Int), false))
            else
              if (decide ((4294967295 : Int) < (IntKind.u64.wrap ((IntKind.u64.wrap (v65 * (10 : Int))) + (99 : Int))))) = true then
                some (.inr ((0 : Int), false))
              else
                some (.inl (IntKind.u64.wrap ((IntKind.u64.wrap (v65 * (10 : Int))) + (99 : Int)))) : Option (Int ⊕ (Int × Bool))).bind fun y72 =>
      y72.elim (fun y72a =>
        remontoireref09_number_l2 a0 c67 (IntKind.i64.wrap (v64 + (1 : Int))) y72a) (fun y72a =>
        some (.inr y72a))
    else
      some (.inl v65)
def remontoireref09_number (n : Nat) (a0 : Str) : Option (Int × Bool) :=
  (if (decide ((1 : Int) < (a0.length : Int))) = true then
      (idxL a0 (0 : Int)).bind fun x3 =>
      if ((x3.toNat : Int) == (48 : Int)) = true then
        (idxL a0 (1 : Int)).bind fun x10 =>
        some ((x10.toNat : Int) == (120 : Int))
      else
        some false
    else
      some false).bind fun y1 =>
  if y1 = true then
    if ((2 : Int) == (a0.length : Int)) = true then
      some ((0 : Int), false)
    else
      (remontoireref09_number_l1 a0 n (2 : Int) (0 : Int)).bind fun y24 =>
      y24.elim (fun y24a =>
        some ((IntKind.u32.wrap y24a), true)) (fun y24a =>
        some y24a)
  else
    if ((0 : Int) == (a0.length : Int)) = true then
      some ((0 : Int), false)
    else
      (remontoireref09_number_l2 a0 n (0 : Int) (0 : Int)).bind fun y66 =>
      y66.elim (fun y66a =>
        some ((IntKind.u32.wrap y66a), true)) (fun y66a =>
        some y66a)

/- remontoireref09.signLen -/
def remontoireref09_signLen_k1 : List Str := [([60, 60, 60] : Str), ([45, 62] : Str), ([46, 46] : Str), ([61, 61] : Str), ([60, 60] : Str), ([62, 62] : Str), ([60] : Str), ([40] : Str), ([41] : Str), ([123] : Str), ([125] : Str), ([91] : Str), ([93] : Str), ([44] : Str), ([59] : Str), ([58] : Str), ([61] : Str), ([43] : Str), ([45] : Str), ([42] : Str), ([47] : Str), ([37] : Str), ([38] : Str), ([124] : Str), ([94] : Str), ([126] : Str)]
def remontoireref09_signLen_l1 (a1 : Int) (a0 : Str) : Nat → Int → Option (Unit ⊕ Int)
  | 0, _ => none
  | c5 + 1, v3 =>
    if (decide (v3 < (26 : Int))) = true then
      (idxL remontoireref09_signLen_k1 v3).bind fun x10 =>
      (if (decide ((IntKind.i64.wrap (a1 + (x10.length : Int))) ≤ (a0.length : Int))) = true then
          need ((0 : Int) ≤ a1 ∧ a1 ≤ (IntKind.i64.wrap (a1 + (x10.length : Int))) ∧ (IntKind.i64.wrap (a1 + (x10.length : Int))) ≤ (a0.length : Int)) <|
          some (decide (((a0.take (IntKind.i64.wrap (a1 + (x10.length : Int))).toNat).drop a1.toNat) = x10))
        else
          some false).bind fun y19 =>
      if y19 = true then
        some (.inr (x10.length : Int))
      else
        remontoireref09_signLen_l1 a1 a0 c5 (IntKind.i64.wrap (v3 + (1 : Int)))
    else
      some (.inl ())
def remontoireref09_signLen (n : Nat) (a0 : Str) (a1 : Int) : Option Int :=
  (remontoireref09_signLen_l1 a1 a0 n (0 : Int)).bind fun y4 =>
  y4.elim (fun y4a =>
    some (0 : Int)) (fun y4a =>
    some y4a)

/- remontoireref09.Tokens -/
def remontoireref09_Tokens_l2 (a0 : Str) : Nat → Int → Option Int
  | 0, _ => none
  | c16 + 1, v14 =>
    (if (decide (v14 < (a0.length : Int))) = true then
        (idxL a0 v14).bind fun x22 =>
        (remontoireref09_letter (x22.toNat : Int)).bind fun x23 =>
        if x23 = true then
          some true
        else
          (remontoireref09_digit (x22.toNat : Int)).bind fun x30 =>
          some x30
      else
        some false).bind fun y20 =>
    if y20 = true then
      remontoireref09_Tokens_l2 a0 c16 (IntKind.i64.wrap (v14 + (1 : Int)))
    else
      some v14
def remontoireref09_Tokens_l1 (n : Nat) (a0 : Str) : Nat → (List T_remontoireref09_T) → Int → Option ((List T_remontoireref09_T) ⊕ ((List T_remontoireref09_T) × Int × Int))
  | 0, _, _ => none
  | c8 + 1, v5, v6 =>
    if (decide (v6 < (a0.length : Int))) = true then
      (remontoireref09_Tokens_l2 a0 n v6).bind fun y15 =>
      need ((0 : Int) ≤ v6 ∧ v6 ≤ y15 ∧ y15 ≤ (a0.length : Int)) <|
      (idxL a0 v6).bind fun x78 =>
      (remontoireref09_letter (x78.toNat : Int)).bind fun x79 =>
      if x79 = true then
        if (decide ((32 : Int) < (((a0.take y15.toNat).drop v6.toNat).length : Int))) = true then
          some (.inr ([], (102 : Int), v6))
        else
          need (v5.length + [(T_remontoireref09_T.mk (1 : Int) v6 ((a0.take y15.toNat).drop v6.toNat) (0 : Int))].length ≤ 1073741824) <|
          (remontoireref09_blanks n a0 y15).bind fun x90 =>
          remontoireref09_Tokens_l1 n a0 c8 (v5 ++ [(T_remontoireref09_T.mk (1 : Int) v6 ((a0.take y15.toNat).drop v6.toNat) (0 : Int))]) x90
      else
        (remontoireref09_digit (x78.toNat : Int)).bind fun x92 =>
        if x92 = true then
          (remontoireref09_number n ((a0.take y15.toNat).drop v6.toNat)).bind fun x95 =>
          if (!x95.2) = true then
            some (.inr ([], (101 : Int), v6))
          else
            need (v5.length + [(T_remontoireref09_T.mk (2 : Int) v6 ((a0.take y15.toNat).drop v6.toNat) x95.1)].length ≤ 1073741824) <|
            (remontoireref09_blanks n a0 y15).bind fun x101 =>
            remontoireref09_Tokens_l1 n a0 c8 (v5 ++ [(T_remontoireref09_T.mk (2 : Int) v6 ((a0.take y15.toNat).drop v6.toNat) x95.1)]) x101
        else
          (remontoireref09_signLen n a0 v6).bind fun x103 =>
          if ((IntKind.i64.wrap (v6 + x103)) == v6) = true then
            some (.inr ([], (100 : Int), v6))
          else
            need ((0 : Int) ≤ v6 ∧ v6 ≤ (IntKind.i64.wrap (v6 + x103)) ∧ (IntKind.i64.wrap (v6 + x103)) ≤ (a0.length : Int)) <|
            need (v5.length + [(T_remontoireref09_T.mk (3 : Int) v6 ((a0.take (IntKind.i64.wrap (v6 + x103)).toNat).drop v6.toNat) (0 : Int))].length ≤ 1073741824) <|
            (remontoireref09_blanks n a0 (IntKind.i64.wrap (v6 + x103))).bind fun x112 =>
            remontoireref09_Tokens_l1 n a0 c8 (v5 ++ [(T_remontoireref09_T.mk (3 : Int) v6 ((a0.take (IntKind.i64.wrap (v6 + x103)).toNat).drop v6.toNat) (0 : Int))]) x112
    else
      some (.inl v5)
def remontoireref09_Tokens (n : Nat) (a0 : Str) : Option ((List T_remontoireref09_T) × Int × Int) :=
  if (decide ((65536 : Int) < (a0.length : Int))) = true then
    some ([], (161 : Int), (0 : Int))
  else
    (remontoireref09_blanks n a0 (0 : Int)).bind fun x2 =>
    (remontoireref09_Tokens_l1 n a0 n [] x2).bind fun y7 =>
    y7.elim (fun y7a =>
      need (y7a.length + [(T_remontoireref09_T.mk (4 : Int) (a0.length : Int) [] (0 : Int))].length ≤ 1073741824) <|
      some ((y7a ++ [(T_remontoireref09_T.mk (4 : Int) (a0.length : Int) [] (0 : Int))]), (0 : Int), (0 : Int))) (fun y7a =>
      some y7a)

/- (remontoireref10.P).fail -/
def remontoireref10_P_fail (a0 : T_remontoireref10_P) (a1 : Int) : Option T_remontoireref10_P :=
  if (a0.E_ == (0 : Int)) = true then
    (idxL a0.L_ a0.At_).bind fun x4 =>
    some ({ a0 with E_ := a1, Where_ := x4.At_ } : T_remontoireref10_P)
  else
    some a0

/- (remontoireref10.P).node -/
def remontoireref10_P_node (a0 : T_remontoireref10_P) (a1 : Int) : Option (T_remontoireref10_P × T_remontoireref10_N) :=
  if (decide ((16384 : Int) < (IntKind.i64.wrap (a0.Nodes_ + (1 : Int))))) = true then
    (remontoireref10_P_fail ({ a0 with Nodes_ := (IntKind.i64.wrap (a0.Nodes_ + (1 : Int))) } : T_remontoireref10_P) (136 : Int)).bind fun x5 =>
    (idxL x5.L_ x5.At_).bind fun x7 =>
    some (x5, (T_remontoireref10_N.mk a1 x7.At_ [] (0 : Int) (0 : Int)))
  else
    (idxL a0.L_ a0.At_).bind fun x12 =>
    some (({ a0 with Nodes_ := (IntKind.i64.wrap (a0.Nodes_ + (1 : Int))) } : T_remontoireref10_P), (T_remontoireref10_N.mk a1 x12.At_ [] (0 : Int) (0 : Int)))

/- remontoireref10.Word -/
def remontoireref10_Word_k1 : List Str := [([102, 110] : Str), ([101, 120, 112, 111, 114, 116] : Str), ([108, 101, 116] : Str), ([118, 97, 114] : Str), ([97, 114, 114] : Str), ([105, 102] : Str), ([101, 108, 115, 101] : Str), ([102, 111, 114] : Str), ([105, 110] : Str), ([114, 101, 116, 117, 114, 110] : Str), ([112, 117, 98] : Str), ([117, 51, 50] : Str), ([117, 54, 52] : Str)]
def remontoireref10_Word_l1 (a0 : Str) : Nat → Int → Option (Unit ⊕ Bool)
  | 0, _ => none
  | c5 + 1, v3 =>
    if (decide (v3 < (13 : Int))) = true then
      (idxL remontoireref10_Word_k1 v3).bind fun x10 =>
      if (decide (a0 = x10)) = true then
        some (.inr true)
      else
        remontoireref10_Word_l1 a0 c5 (IntKind.i64.wrap (v3 + (1 : Int)))
    else
      some (.inl ())
def remontoireref10_Word (n : Nat) (a0 : Str) : Option Bool :=
  (remontoireref10_Word_l1 a0 n (0 : Int)).bind fun y4 =>
  y4.elim (fun y4a =>
    some false) (fun y4a =>
    some y4a)

/- (remontoireref10.P).is -/
def remontoireref10_P_is (n : Nat) (a0 : T_remontoireref10_P) (a1 : Str) : Option Bool :=
  (idxL a0.L_ a0.At_).bind fun x2 =>
  (if (a0.E_ == (0 : Int)) = true then
      if (decide (x2.Text_ = a1)) = true then
        if (x2.Kind_ == (3 : Int)) = true then
          some true
        else
          if (x2.Kind_ == (1 : Int)) = true then
            (remontoireref10_Word n a1).bind fun x13 =>
            some x13
          else
            some false
      else
        some false
    else
      some false).bind fun y8 =>
  some y8

/- (remontoireref10.P).take -/
def remontoireref10_P_take (n : Nat) (a0 : T_remontoireref10_P) (a1 : Str) : Option (T_remontoireref10_P × Bool) :=
  (remontoireref10_P_is n a0 a1).bind fun x3 =>
  if (!x3) = true then
    some (a0, false)
  else
    some (({ a0 with At_ := (IntKind.i64.wrap (a0.At_ + (1 : Int))) } : T_remontoireref10_P), true)

/- (remontoireref10.P).need -/
def remontoireref10_P_need (n : Nat) (a0 : T_remontoireref10_P) (a1 : Str) : Option T_remontoireref10_P :=
  (remontoireref10_P_take n a0 a1).bind fun x3 =>
  if (!x3.2) = true then
    (remontoireref10_P_fail a0 (110 : Int)).bind fun x7 =>
    some x7
  else
    some x3.1

/- (remontoireref10.P).name -/
def remontoireref10_P_name (n : Nat) (a0 : T_remontoireref10_P) : Option (T_remontoireref10_P × Str) :=
  (idxL a0.L_ a0.At_).bind fun x3 =>
  (if (a0.E_ != (0 : Int)) = true then
      some true
    else
      if (x3.Kind_ != (1 : Int)) = true then
        some true
      else
        (remontoireref10_Word n x3.Text_).bind fun x12 =>
        some x12).bind fun y9 =>
  if y9 = true then
    (remontoireref10_P_fail a0 (110 : Int)).bind fun x18 =>
    some (x18, ([] : Str))
  else
    some (({ a0 with At_ := (IntKind.i64.wrap (a0.At_ + (1 : Int))) } : T_remontoireref10_P), x3.Text_)

/- (remontoireref10.P).number -/
def remontoireref10_P_number (a0 : T_remontoireref10_P) : Option (T_remontoireref10_P × Int) :=
  (idxL a0.L_ a0.At_).bind fun x3 =>
  (if (a0.E_ != (0 : Int)) = true then
      some true
    else
      some (x3.Kind_ != (2 : Int))).bind fun y9 =>
  if y9 = true then
    (remontoireref10_P_fail a0 (110 : Int)).bind fun x15 =>
    some (x15, (0 : Int))
  else
    some (({ a0 with At_ := (IntKind.i64.wrap (a0.At_ + (1 : Int))) } : T_remontoireref10_P), x3.Num_)

/- (remontoireref10.P).size -/
def remontoireref10_P_size (n : Nat) (a0 : T_remontoireref10_P) : Option (T_remontoireref10_P × Int) :=
  (remontoireref10_P_need n a0 ([91] : Str)).bind fun x3 =>
  (remontoireref10_P_number x3).bind fun x4 =>
  (remontoireref10_P_need n x4.1 ([93] : Str)).bind fun x7 =>
  some (x7, x4.2)

/- (remontoireref10.P).param -/
def remontoireref10_P_param_k1 : List Str := [([112, 117, 98] : Str), ([117, 51, 50] : Str), ([117, 54, 52] : Str)]
def remontoireref10_P_param_l1 (n : Nat) (x8 : T_remontoireref10_P) : Nat → Int → T_remontoireref10_P → T_remontoireref10_N → Option ((T_remontoireref10_P × T_remontoireref10_N) ⊕ (T_remontoireref10_P × (List T_remontoireref10_N)))
  | 0, _, _, _ => none
  | c16 + 1, v12, v13, v14 =>
    if (decide (v12 < (3 : Int))) = true then
      (idxL remontoireref10_P_param_k1 v12).bind fun x21 =>
      (remontoireref10_P_take n x8 x21).bind fun x22 =>
      if x22.2 = true then
        some (.inr (x22.1, [({ v14 with Num_ := (IntKind.u32.wrap (IntKind.i64.wrap (v12 + (1 : Int)))) } : T_remontoireref10_N)]))
      else
        remontoireref10_P_param_l1 n x8 c16 (IntKind.i64.wrap (v12 + (1 : Int))) v13 v14
    else
      some (.inl (v13, v14))
def remontoireref10_P_param (n : Nat) (a0 : T_remontoireref10_P) : Option (T_remontoireref10_P × (List T_remontoireref10_N)) :=
  (remontoireref10_P_node a0 (3 : Int)).bind fun x3 =>
  (remontoireref10_P_name n x3.1).bind fun x6 =>
  (remontoireref10_P_need n x6.1 ([58] : Str)).bind fun x8 =>
  (remontoireref10_P_param_l1 n x8 n (0 : Int) (T_remontoireref10_P.mk [] (0 : Int) (0 : Int) (0 : Int) (0 : Int)) ({ x3.2 with Text_ := x6.2 } : T_remontoireref10_N)).bind fun y15 =>
  y15.elim (fun y15a =>
    (remontoireref10_P_node x8 (14 : Int)).bind fun x39 =>
    (remontoireref10_P_size n x39.1).bind fun x42 =>
    some (x42.1, [({ y15a.2 with Num_ := (4 : Int), Kids_ := (1 : Int) } : T_remontoireref10_N), ({ x39.2 with Num_ := x42.2 } : T_remontoireref10_N)])) (fun y15a =>
    some y15a)

/- (remontoireref10.P).params -/
def remontoireref10_P_params_l1 (n : Nat) : Nat → (List T_remontoireref10_N) → Int → T_remontoireref10_P → Option ((List T_remontoireref10_N) × Int × T_remontoireref10_P)
  | 0, _, _, _ => none
  | c15 + 1, v11, v12, v13 =>
    if (v13.E_ == (0 : Int)) = true then
      (remontoireref10_P_param n v13).bind fun x20 =>
      need (v11.length + x20.2.length ≤ 1073741824) <|
      (remontoireref10_P_take n x20.1 ([44] : Str)).bind fun x25 =>
      if (!x25.2) = true then
        some ((v11 ++ x20.2), (IntKind.i64.wrap (v12 + (1 : Int))), x25.1)
      else
        remontoireref10_P_params_l1 n c15 (v11 ++ x20.2) (IntKind.i64.wrap (v12 + (1 : Int))) x25.1
    else
      some (v11, v12, v13)
def remontoireref10_P_params (n : Nat) (a0 : T_remontoireref10_P) : Option (T_remontoireref10_P × (List T_remontoireref10_N) × Int) :=
  (remontoireref10_P_need n a0 ([40] : Str)).bind fun x3 =>
  (remontoireref10_P_take n x3 ([41] : Str)).bind fun x5 =>
  if x5.2 = true then
    some (x5.1, [], (0 : Int))
  else
    ((remontoireref10_P_params_l1 n n [] (0 : Int) x3).bind fun y14 =>
      some (y14.1, y14.2.1, y14.2.2)).bind fun y9 =>
    (remontoireref10_P_need n y9.2.2 ([41] : Str)).bind fun x31 =>
    some (x31, y9.1, y9.2.1)

/- (remontoireref10.P).sign -/
def remontoireref10_P_sign_k1 : List (List Str) := [[([124] : Str), ([124] : Str), ([124] : Str)], [([94] : Str), ([94] : Str), ([94] : Str)], [([38] : Str), ([38] : Str), ([38] : Str)], [([61, 61] : Str), ([60] : Str), ([60] : Str)], [([60, 60] : Str), ([62, 62] : Str), ([60, 60, 60] : Str)], [([43] : Str), ([45] : Str), ([45] : Str)], [([42] : Str), ([47] : Str), ([37] : Str)]]
def remontoireref10_P_sign_l1 (n : Nat) (a1 : Int) (a0 : T_remontoireref10_P) : Nat → Int → Option (Unit ⊕ Str)
  | 0, _ => none
  | c6 + 1, v4 =>
    if (decide (v4 < (3 : Int))) = true then
      (idxL remontoireref10_P_sign_k1 a1).bind fun x11 =>
      (idxL x11 v4).bind fun x12 =>
      (remontoireref10_P_is n a0 x12).bind fun x13 =>
      if x13 = true then
        some (.inr x12)
      else
        remontoireref10_P_sign_l1 n a1 a0 c6 (IntKind.i64.wrap (v4 + (1 : Int)))
    else
      some (.inl ())
def remontoireref10_P_sign (n : Nat) (a0 : T_remontoireref10_P) (a1 : Int) : Option Str :=
  (remontoireref10_P_sign_l1 n a1 a0 n (0 : Int)).bind fun y5 =>
  y5.elim (fun y5a =>
    some ([] : Str)) (fun y5a =>
    some y5a)

/- (remontoireref10.P).level -/
def remontoireref10_P_level_l1 (rec_remontoireref10_P_level : T_remontoireref10_P → Int → Int → Option (T_remontoireref10_P × (List T_remontoireref10_N))) (n : Nat) (a1 : Int) (a2 : Int) : Nat → (List T_remontoireref10_N) → T_remontoireref10_P → T_remontoireref10_P → Option (T_remontoireref10_P × (List T_remontoireref10_N))
  | 0, _, _, _ => none
  | c13 + 1, v9, v10, v11 =>
    (remontoireref10_P_sign n v11 a1).bind fun x17 =>
    if (decide (x17 = ([] : Str))) = true then
      some (v11, v9)
    else
      (remontoireref10_P_node v11 (19 : Int)).bind fun x20 =>
      (remontoireref10_P_need n x20.1 x17).bind fun x24 =>
      (rec_remontoireref10_P_level x24 (IntKind.i64.wrap (a1 + (1 : Int))) a2).bind fun x25 =>
      need ([({ x20.2 with Text_ := x17, Kids_ := (2 : Int) } : T_remontoireref10_N)].length + v9.length ≤ 1073741824) <|
      need (([({ x20.2 with Text_ := x17, Kids_ := (2 : Int) } : T_remontoireref10_N)] ++ v9).length + x25.2.length ≤ 1073741824) <|
      if (a1 == (3 : Int)) = true then
        some (x25.1, (([({ x20.2 with Text_ := x17, Kids_ := (2 : Int) } : T_remontoireref10_N)] ++ v9) ++ x25.2))
      else
        remontoireref10_P_level_l1 rec_remontoireref10_P_level n a1 a2 c13 (([({ x20.2 with Text_ := x17, Kids_ := (2 : Int) } : T_remontoireref10_N)] ++ v9) ++ x25.2) v10 x25.1
def remontoireref10_P_level_b (rec_remontoireref10_P_operand : T_remontoireref10_P → Int → Option (T_remontoireref10_P × (List T_remontoireref10_N))) (rec_remontoireref10_P_level : T_remontoireref10_P → Int → Int → Option (T_remontoireref10_P × (List T_remontoireref10_N))) (n : Nat) (a0 : T_remontoireref10_P) (a1 : Int) (a2 : Int) : Option (T_remontoireref10_P × (List T_remontoireref10_N)) :=
  if (a1 == (7 : Int)) = true then
    (rec_remontoireref10_P_operand a0 a2).bind fun x4 =>
    some (x4.1, x4.2)
  else
    (rec_remontoireref10_P_level a0 (IntKind.i64.wrap (a1 + (1 : Int))) a2).bind fun x6 =>
    (remontoireref10_P_level_l1 rec_remontoireref10_P_level n a1 a2 n x6.2 (T_remontoireref10_P.mk [] (0 : Int) (0 : Int) (0 : Int) (0 : Int)) x6.1).bind fun y12 =>
    some y12

/- (remontoireref10.P).args -/
def remontoireref10_P_args_l1 (rec_remontoireref10_P_level : T_remontoireref10_P → Int → Int → Option (T_remontoireref10_P × (List T_remontoireref10_N))) (n : Nat) (a1 : Int) : Nat → (List T_remontoireref10_N) → Int → T_remontoireref10_P → Option ((List T_remontoireref10_N) × Int × T_remontoireref10_P)
  | 0, _, _, _ => none
  | c15 + 1, v11, v12, v13 =>
    if (v13.E_ == (0 : Int)) = true then
      (rec_remontoireref10_P_level v13 (0 : Int) a1).bind fun x20 =>
      need (v11.length + x20.2.length ≤ 1073741824) <|
      (remontoireref10_P_take n x20.1 ([44] : Str)).bind fun x25 =>
      if (!x25.2) = true then
        some ((v11 ++ x20.2), (IntKind.i64.wrap (v12 + (1 : Int))), x25.1)
      else
        remontoireref10_P_args_l1 rec_remontoireref10_P_level n a1 c15 (v11 ++ x20.2) (IntKind.i64.wrap (v12 + (1 : Int))) x25.1
    else
      some (v11, v12, v13)
def remontoireref10_P_args_b (rec_remontoireref10_P_level : T_remontoireref10_P → Int → Int → Option (T_remontoireref10_P × (List T_remontoireref10_N))) (n : Nat) (a0 : T_remontoireref10_P) (a1 : Int) : Option (T_remontoireref10_P × (List T_remontoireref10_N) × Int) :=
  (remontoireref10_P_need n a0 ([40] : Str)).bind fun x3 =>
  (remontoireref10_P_take n x3 ([41] : Str)).bind fun x5 =>
  if x5.2 = true then
    some (x5.1, [], (0 : Int))
  else
    ((remontoireref10_P_args_l1 rec_remontoireref10_P_level n a1 n [] (0 : Int) x3).bind fun y14 =>
      some (y14.1, y14.2.1, y14.2.2)).bind fun y9 =>
    (remontoireref10_P_need n y9.2.2 ([41] : Str)).bind fun x31 =>
    some (x31, y9.1, y9.2.1)

/- (remontoireref10.P).operand -/
def remontoireref10_P_operand_b (rec_remontoireref10_P_level : T_remontoireref10_P → Int → Int → Option (T_remontoireref10_P × (List T_remontoireref10_N))) (rec_remontoireref10_P_operand : T_remontoireref10_P → Int → Option (T_remontoireref10_P × (List T_remontoireref10_N))) (rec_remontoireref10_P_args : T_remontoireref10_P → Int → Option (T_remontoireref10_P × (List T_remontoireref10_N) × Int)) (n : Nat) (a0 : T_remontoireref10_P) (a1 : Int) : Option (T_remontoireref10_P × (List T_remontoireref10_N)) :=
  if (decide ((64 : Int) < a1)) = true then
    (remontoireref10_P_fail a0 (111 : Int)).bind fun x4 =>
    (remontoireref10_P_take n x4 ([40] : Str)).bind fun x6 =>
    if x6.2 = true then
      (rec_remontoireref10_P_level x6.1 (0 : Int) (IntKind.i64.wrap (a1 + (1 : Int)))).bind fun x10 =>
      (remontoireref10_P_need n x10.1 ([41] : Str)).bind fun x13 =>
      some (x13, x10.2)
    else
      (remontoireref10_P_node x4 (15 : Int)).bind fun x15 =>
      ((remontoireref10_P_is n x15.1 ([126] : Str)).bind fun x19 =>
        if x19 = true then
          some true
        else
          (remontoireref10_P_is n x15.1 ([45] : Str)).bind fun x22 =>
          some x22).bind fun y18 =>
      if y18 = true then
        (idxL x15.1.L_ x15.1.At_).bind fun x28 =>
        (rec_remontoireref10_P_operand ({ x15.1 with At_ := (IntKind.i64.wrap (x15.1.At_ + (1 : Int))) } : T_remontoireref10_P) (IntKind.i64.wrap (a1 + (1 : Int)))).bind fun x33 =>
        need ([({ x15.2 with Kind_ := (18 : Int), Text_ := x28.Text_, Kids_ := (1 : Int) } : T_remontoireref10_N)].length + x33.2.length ≤ 1073741824) <|
        some (x33.1, ([({ x15.2 with Kind_ := (18 : Int), Text_ := x28.Text_, Kids_ := (1 : Int) } : T_remontoireref10_N)] ++ x33.2))
      else
        (if (x15.1.E_ == (0 : Int)) = true then
            (idxL x15.1.L_ x15.1.At_).bind fun x40 =>
            some (x40.Kind_ == (2 : Int))
          else
            some false).bind fun y38 =>
        if y38 = true then
          (remontoireref10_P_number x15.1).bind fun x49 =>
          some (x49.1, [({ x15.2 with Kind_ := (14 : Int), Num_ := x49.2 } : T_remontoireref10_N)])
        else
          (remontoireref10_P_name n x15.1).bind fun x51 =>
          (remontoireref10_P_is n x51.1 ([40] : Str)).bind fun x53 =>
          if x53 = true then
            (rec_remontoireref10_P_args x51.1 (IntKind.i64.wrap (a1 + (1 : Int)))).bind fun x56 =>
            need ([({ x15.2 with Kind_ := (17 : Int), Text_ := x51.2, Kids_ := x56.2.2 } : T_remontoireref10_N)].length + x56.2.1.length ≤ 1073741824) <|
            some (x56.1, ([({ x15.2 with Kind_ := (17 : Int), Text_ := x51.2, Kids_ := x56.2.2 } : T_remontoireref10_N)] ++ x56.2.1))
          else
            (remontoireref10_P_take n x51.1 ([91] : Str)).bind fun x61 =>
            if (!x61.2) = true then
              some (x51.1, [({ x15.2 with Text_ := x51.2 } : T_remontoireref10_N)])
            else
              (rec_remontoireref10_P_level x61.1 (0 : Int) (IntKind.i64.wrap (a1 + (1 : Int)))).bind fun x64 =>
              (remontoireref10_P_need n x64.1 ([93] : Str)).bind fun x66 =>
              need ([({ x15.2 with Kind_ := (16 : Int), Text_ := x51.2, Kids_ := (1 : Int) } : T_remontoireref10_N)].length + x64.2.length ≤ 1073741824) <|
              some (x66, ([({ x15.2 with Kind_ := (16 : Int), Text_ := x51.2, Kids_ := (1 : Int) } : T_remontoireref10_N)] ++ x64.2))
  else
    (remontoireref10_P_take n a0 ([40] : Str)).bind fun x70 =>
    if x70.2 = true then
      (rec_remontoireref10_P_level x70.1 (0 : Int) (IntKind.i64.wrap (a1 + (1 : Int)))).bind fun x74 =>
      (remontoireref10_P_need n x74.1 ([41] : Str)).bind fun x77 =>
      some (x77, x74.2)
    else
      (remontoireref10_P_node a0 (15 : Int)).bind fun x79 =>
      ((remontoireref10_P_is n x79.1 ([126] : Str)).bind fun x83 =>
        if x83 = true then
          some true
        else
          (remontoireref10_P_is n x79.1 ([45] : Str)).bind fun x86 =>
          some x86).bind fun y82 =>
      if y82 = true then
        (idxL x79.1.L_ x79.1.At_).bind fun x92 =>
        (rec_remontoireref10_P_operand ({ x79.1 with At_ := (IntKind.i64.wrap (x79.1.At_ + (1 : Int))) } : T_remontoireref10_P) (IntKind.i64.wrap (a1 + (1 : Int)))).bind fun x97 =>
        need ([({ x79.2 with Kind_ := (18 : Int), Text_ := x92.Text_, Kids_ := (1 : Int) } : T_remontoireref10_N)].length + x97.2.length ≤ 1073741824) <|
        some (x97.1, ([({ x79.2 with Kind_ := (18 : Int), Text_ := x92.Text_, Kids_ := (1 : Int) } : T_remontoireref10_N)] ++ x97.2))
      else
        (if (x79.1.E_ == (0 : Int)) = true then
            (idxL x79.1.L_ x79.1.At_).bind fun x104 =>
            some (x104.Kind_ == (2 : Int))
          else
            some false).bind fun y102 =>
        if y102 = true then
          (remontoireref10_P_number x79.1).bind fun x113 =>
          some (x113.1, [({ x79.2 with Kind_ := (14 : Int), Num_ := x113.2 } : T_remontoireref10_N)])
        else
          (remontoireref10_P_name n x79.1).bind fun x115 =>
          (remontoireref10_P_is n x115.1 ([40] : Str)).bind fun x117 =>
          if x117 = true then
            (rec_remontoireref10_P_args x115.1 (IntKind.i64.wrap (a1 + (1 : Int)))).bind fun x120 =>
            need ([({ x79.2 with Kind_ := (17 : Int), Text_ := x115.2, Kids_ := x120.2.2 } : T_remontoireref10_N)].length + x120.2.1.length ≤ 1073741824) <|
            some (x120.1, ([({ x79.2 with Kind_ := (17 : Int), Text_ := x115.2, Kids_ := x120.2.2 } : T_remontoireref10_N)] ++ x120.2.1))
          else
            (remontoireref10_P_take n x115.1 ([91] : Str)).bind fun x125 =>
            if (!x125.2) = true then
              some (x115.1, [({ x79.2 with Text_ := x115.2 } : T_remontoireref10_N)])
            else
              (rec_remontoireref10_P_level x125.1 (0 : Int) (IntKind.i64.wrap (a1 + (1 : Int)))).bind fun x128 =>
              (remontoireref10_P_need n x128.1 ([93] : Str)).bind fun x130 =>
              need ([({ x79.2 with Kind_ := (16 : Int), Text_ := x115.2, Kids_ := (1 : Int) } : T_remontoireref10_N)].length + x128.2.length ≤ 1073741824) <|
              some (x130, ([({ x79.2 with Kind_ := (16 : Int), Text_ := x115.2, Kids_ := (1 : Int) } : T_remontoireref10_N)] ++ x128.2))

def remontoireref10_P_level_grp : Nat → (T_remontoireref10_P → Int → Int → Option (T_remontoireref10_P × (List T_remontoireref10_N))) × (T_remontoireref10_P → Int → Option (T_remontoireref10_P × (List T_remontoireref10_N) × Int)) × (T_remontoireref10_P → Int → Option (T_remontoireref10_P × (List T_remontoireref10_N)))
  | 0 => (fun _ _ _ => none, fun _ _ => none, fun _ _ => none)
  | n + 1 => (remontoireref10_P_level_b (remontoireref10_P_level_grp n).2.2 (remontoireref10_P_level_grp n).1 n, remontoireref10_P_args_b (remontoireref10_P_level_grp n).1 n, remontoireref10_P_operand_b (remontoireref10_P_level_grp n).1 (remontoireref10_P_level_grp n).2.2 (remontoireref10_P_level_grp n).2.1 n)
def remontoireref10_P_level (n : Nat) : T_remontoireref10_P → Int → Int → Option (T_remontoireref10_P × (List T_remontoireref10_N)) := (remontoireref10_P_level_grp n).1
def remontoireref10_P_args (n : Nat) : T_remontoireref10_P → Int → Option (T_remontoireref10_P × (List T_remontoireref10_N) × Int) := (remontoireref10_P_level_grp n).2.1
def remontoireref10_P_operand (n : Nat) : T_remontoireref10_P → Int → Option (T_remontoireref10_P × (List T_remontoireref10_N)) := (remontoireref10_P_level_grp n).2.2

/- (remontoireref10.P).one -/
def remontoireref10_P_one (n : Nat) (a0 : T_remontoireref10_P) (a1 : T_remontoireref10_N) (a2 : Int) : Option (T_remontoireref10_P × (List T_remontoireref10_N)) :=
  (remontoireref10_P_level n a0 (0 : Int) a2).bind fun x4 =>
  (remontoireref10_P_need n x4.1 ([59] : Str)).bind fun x6 =>
  need ([({ a1 with Kids_ := (1 : Int) } : T_remontoireref10_N)].length + x4.2.length ≤ 1073741824) <|
  some (x6, ([({ a1 with Kids_ := (1 : Int) } : T_remontoireref10_N)] ++ x4.2))

/- (remontoireref10.P).plain -/
def remontoireref10_P_plain (n : Nat) (a0 : T_remontoireref10_P) (a1 : T_remontoireref10_N) (a2 : Int) : Option (T_remontoireref10_P × (List T_remontoireref10_N)) :=
  (remontoireref10_P_name n a0).bind fun x4 =>
  (remontoireref10_P_is n x4.1 ([40] : Str)).bind fun x6 =>
  if x6 = true then
    (remontoireref10_P_args n x4.1 (IntKind.i64.wrap (a2 + (2 : Int)))).bind fun x9 =>
    (remontoireref10_P_need n x9.1 ([59] : Str)).bind fun x12 =>
    need ([({ a1 with Kind_ := (10 : Int), Text_ := x4.2, Kids_ := x9.2.2 } : T_remontoireref10_N)].length + x9.2.1.length ≤ 1073741824) <|
    some (x12, ([({ a1 with Kind_ := (10 : Int), Text_ := x4.2, Kids_ := x9.2.2 } : T_remontoireref10_N)] ++ x9.2.1))
  else
    (remontoireref10_P_take n x4.1 ([91] : Str)).bind fun x16 =>
    if (!x16.2) = true then
      (remontoireref10_P_need n x16.1 ([61] : Str)).bind fun x19 =>
      (remontoireref10_P_one n x19 ({ a1 with Kind_ := (8 : Int), Text_ := x4.2 } : T_remontoireref10_N) (IntKind.i64.wrap (a2 + (1 : Int)))).bind fun x20 =>
      some (x20.1, x20.2)
    else
      (remontoireref10_P_level n x16.1 (0 : Int) (IntKind.i64.wrap (a2 + (2 : Int)))).bind fun x23 =>
      (remontoireref10_P_need n x23.1 ([93] : Str)).bind fun x25 =>
      (remontoireref10_P_need n x25 ([61] : Str)).bind fun x26 =>
      (remontoireref10_P_level n x26 (0 : Int) (IntKind.i64.wrap (a2 + (1 : Int)))).bind fun x27 =>
      (remontoireref10_P_need n x27.1 ([59] : Str)).bind fun x31 =>
      need ([({ a1 with Kind_ := (9 : Int), Text_ := x4.2, Kids_ := (2 : Int) } : T_remontoireref10_N)].length + x23.2.length ≤ 1073741824) <|
      need (([({ a1 with Kind_ := (9 : Int), Text_ := x4.2, Kids_ := (2 : Int) } : T_remontoireref10_N)] ++ x23.2).length + x27.2.length ≤ 1073741824) <|
      some (x31, (([({ a1 with Kind_ := (9 : Int), Text_ := x4.2, Kids_ := (2 : Int) } : T_remontoireref10_N)] ++ x23.2) ++ x27.2))

/- (remontoireref10.P).block -/
def remontoireref10_P_block_l1 (rec_remontoireref10_P_statement : T_remontoireref10_P → Int → Option (T_remontoireref10_P × (List T_remontoireref10_N))) (n : Nat) (a1 : Int) : Nat → (List T_remontoireref10_N) → T_remontoireref10_P → T_remontoireref10_N → Option ((List T_remontoireref10_N) × T_remontoireref10_P × T_remontoireref10_N)
  | 0, _, _, _ => none
  | c16 + 1, v12, v13, v14 =>
    (if (v13.E_ == (0 : Int)) = true then
        (remontoireref10_P_is n v13 ([125] : Str)).bind fun x22 =>
        some (!x22)
      else
        some false).bind fun y20 =>
    if y20 = true then
      (rec_remontoireref10_P_statement v13 a1).bind fun x28 =>
      need (v12.length + x28.2.length ≤ 1073741824) <|
      remontoireref10_P_block_l1 rec_remontoireref10_P_statement n a1 c16 (v12 ++ x28.2) x28.1 ({ v14 with Kids_ := (IntKind.i64.wrap (v14.Kids_ + (1 : Int))) } : T_remontoireref10_N)
    else
      some (v12, v13, v14)
def remontoireref10_P_block_l2 (rec_remontoireref10_P_statement : T_remontoireref10_P → Int → Option (T_remontoireref10_P × (List T_remontoireref10_N))) (n : Nat) (a1 : Int) : Nat → (List T_remontoireref10_N) → T_remontoireref10_P → T_remontoireref10_N → Option ((List T_remontoireref10_N) × T_remontoireref10_P × T_remontoireref10_N)
  | 0, _, _, _ => none
  | c51 + 1, v47, v48, v49 =>
    (if (v48.E_ == (0 : Int)) = true then
        (remontoireref10_P_is n v48 ([125] : Str)).bind fun x57 =>
        some (!x57)
      else
        some false).bind fun y55 =>
    if y55 = true then
      (rec_remontoireref10_P_statement v48 a1).bind fun x63 =>
      need (v47.length + x63.2.length ≤ 1073741824) <|
      remontoireref10_P_block_l2 rec_remontoireref10_P_statement n a1 c51 (v47 ++ x63.2) x63.1 ({ v49 with Kids_ := (IntKind.i64.wrap (v49.Kids_ + (1 : Int))) } : T_remontoireref10_N)
    else
      some (v47, v48, v49)
def remontoireref10_P_block_b (rec_remontoireref10_P_statement : T_remontoireref10_P → Int → Option (T_remontoireref10_P × (List T_remontoireref10_N))) (n : Nat) (a0 : T_remontoireref10_P) (a1 : Int) : Option (T_remontoireref10_P × (List T_remontoireref10_N)) :=
  if (decide ((64 : Int) < a1)) = true then
    (remontoireref10_P_fail a0 (111 : Int)).bind fun x4 =>
    (remontoireref10_P_node x4 (4 : Int)).bind fun x6 =>
    (remontoireref10_P_need n x6.1 ([123] : Str)).bind fun x9 =>
    (remontoireref10_P_block_l1 rec_remontoireref10_P_statement n a1 n [] x9 x6.2).bind fun y15 =>
    (remontoireref10_P_need n y15.2.1 ([125] : Str)).bind fun x37 =>
    need ([y15.2.2].length + y15.1.length ≤ 1073741824) <|
    some (x37, ([y15.2.2] ++ y15.1))
  else
    (remontoireref10_P_node a0 (4 : Int)).bind fun x41 =>
    (remontoireref10_P_need n x41.1 ([123] : Str)).bind fun x44 =>
    (remontoireref10_P_block_l2 rec_remontoireref10_P_statement n a1 n [] x44 x41.2).bind fun y50 =>
    (remontoireref10_P_need n y50.2.1 ([125] : Str)).bind fun x72 =>
    need ([y50.2.2].length + y50.1.length ≤ 1073741824) <|
    some (x72, ([y50.2.2] ++ y50.1))

/- (remontoireref10.P).statement -/
def remontoireref10_P_statement_k1 : List Str := [([108, 101, 116] : Str), ([118, 97, 114] : Str), ([97, 114, 114] : Str), ([114, 101, 116, 117, 114, 110] : Str), ([105, 102] : Str), ([102, 111, 114] : Str)]
def remontoireref10_P_statement_k2 : List Int := [(5 : Int), (6 : Int), (7 : Int), (13 : Int), (11 : Int), (12 : Int)]
def remontoireref10_P_statement_l1 (n : Nat) : Nat → Int → T_remontoireref10_P → T_remontoireref10_N → Option (T_remontoireref10_P × T_remontoireref10_N)
  | 0, _, _, _ => none
  | c13 + 1, v9, v10, v11 =>
    if (decide (v9 < (6 : Int))) = true then
      ((idxL remontoireref10_P_statement_k1 v9).bind fun x19 =>
        (remontoireref10_P_take n v10 x19).bind fun x20 =>
        (if x20.2 = true then
            some (v11.Kind_ == (0 : Int))
          else
            some false).bind fun y31 =>
        if y31 = true then
          (idxL remontoireref10_P_statement_k2 v9).bind fun x37 =>
          some (x20.1, ({ v11 with Kind_ := x37 } : T_remontoireref10_N))
        else
          some (v10, v11)).bind fun y18 =>
      remontoireref10_P_statement_l1 n c13 (IntKind.i64.wrap (v9 + (1 : Int))) y18.1 y18.2
    else
      some (v10, v11)
def remontoireref10_P_statement_b (rec_remontoireref10_P_within : T_remontoireref10_P → T_remontoireref10_N → Int → Option (T_remontoireref10_P × (List T_remontoireref10_N))) (n : Nat) (a0 : T_remontoireref10_P) (a1 : Int) : Option (T_remontoireref10_P × (List T_remontoireref10_N)) :=
  (remontoireref10_P_node a0 (8 : Int)).bind fun x3 =>
  (remontoireref10_P_statement_l1 n n (0 : Int) x3.1 ({ x3.2 with Kind_ := (0 : Int) } : T_remontoireref10_N)).bind fun y12 =>
  (if (y12.2.Kind_ == (5 : Int)) = true then
      some true
    else
      some (y12.2.Kind_ == (6 : Int))).bind fun y81 =>
  if y81 = true then
    (remontoireref10_P_name n y12.1).bind fun x87 =>
    (remontoireref10_P_need n x87.1 ([61] : Str)).bind fun x89 =>
    (remontoireref10_P_one n x89 ({ y12.2 with Text_ := x87.2 } : T_remontoireref10_N) (IntKind.i64.wrap (a1 + (1 : Int)))).bind fun x90 =>
    some (x90.1, x90.2)
  else
    if (y12.2.Kind_ == (7 : Int)) = true then
      (remontoireref10_P_name n y12.1).bind fun x94 =>
      (remontoireref10_P_size n x94.1).bind fun x96 =>
      (remontoireref10_P_need n x96.1 ([59] : Str)).bind fun x98 =>
      some (x98, [({ y12.2 with Text_ := x94.2, Num_ := x96.2 } : T_remontoireref10_N)])
    else
      if (y12.2.Kind_ == (13 : Int)) = true then
        (remontoireref10_P_one n y12.1 y12.2 (IntKind.i64.wrap (a1 + (1 : Int)))).bind fun x101 =>
        some (x101.1, x101.2)
      else
        (if (y12.2.Kind_ == (11 : Int)) = true then
            some true
          else
            some (y12.2.Kind_ == (12 : Int))).bind fun y103 =>
        if y103 = true then
          (rec_remontoireref10_P_within y12.1 y12.2 a1).bind fun x109 =>
          some (x109.1, x109.2)
        else
          (remontoireref10_P_plain n y12.1 y12.2 a1).bind fun x111 =>
          some (x111.1, x111.2)

/- (remontoireref10.P).within -/
def remontoireref10_P_within_b (rec_remontoireref10_P_block : T_remontoireref10_P → Int → Option (T_remontoireref10_P × (List T_remontoireref10_N))) (n : Nat) (a0 : T_remontoireref10_P) (a1 : T_remontoireref10_N) (a2 : Int) : Option (T_remontoireref10_P × (List T_remontoireref10_N)) :=
  if (a1.Kind_ == (12 : Int)) = true then
    (remontoireref10_P_name n a0).bind fun x5 =>
    (remontoireref10_P_need n x5.1 ([105, 110] : Str)).bind fun x7 =>
    (remontoireref10_P_level n x7 (0 : Int) (IntKind.i64.wrap (a2 + (1 : Int)))).bind fun x8 =>
    (remontoireref10_P_need n x8.1 ([46, 46] : Str)).bind fun x12 =>
    (remontoireref10_P_level n x12 (0 : Int) (IntKind.i64.wrap (a2 + (1 : Int)))).bind fun x13 =>
    (rec_remontoireref10_P_block x13.1 (IntKind.i64.wrap (a2 + (1 : Int)))).bind fun x16 =>
    need ([({ a1 with Text_ := x5.2, Kids_ := (3 : Int) } : T_remontoireref10_N)].length + x8.2.length ≤ 1073741824) <|
    need (([({ a1 with Text_ := x5.2, Kids_ := (3 : Int) } : T_remontoireref10_N)] ++ x8.2).length + x13.2.length ≤ 1073741824) <|
    need ((([({ a1 with Text_ := x5.2, Kids_ := (3 : Int) } : T_remontoireref10_N)] ++ x8.2) ++ x13.2).length + x16.2.length ≤ 1073741824) <|
    some (x16.1, ((([({ a1 with Text_ := x5.2, Kids_ := (3 : Int) } : T_remontoireref10_N)] ++ x8.2) ++ x13.2) ++ x16.2))
  else
    (remontoireref10_P_level n a0 (0 : Int) (IntKind.i64.wrap (a2 + (1 : Int)))).bind fun x24 =>
    (rec_remontoireref10_P_block x24.1 (IntKind.i64.wrap (a2 + (1 : Int)))).bind fun x26 =>
    (remontoireref10_P_take n x26.1 ([101, 108, 115, 101] : Str)).bind fun x28 =>
    if (!x28.2) = true then
      need ([({ a1 with Kids_ := (2 : Int) } : T_remontoireref10_N)].length + x24.2.length ≤ 1073741824) <|
      need (([({ a1 with Kids_ := (2 : Int) } : T_remontoireref10_N)] ++ x24.2).length + x26.2.length ≤ 1073741824) <|
      some (x28.1, (([({ a1 with Kids_ := (2 : Int) } : T_remontoireref10_N)] ++ x24.2) ++ x26.2))
    else
      (rec_remontoireref10_P_block x28.1 (IntKind.i64.wrap (a2 + (1 : Int)))).bind fun x35 =>
      need ([({ a1 with Kids_ := (3 : Int) } : T_remontoireref10_N)].length + x24.2.length ≤ 1073741824) <|
      need (([({ a1 with Kids_ := (3 : Int) } : T_remontoireref10_N)] ++ x24.2).length + x26.2.length ≤ 1073741824) <|
      need ((([({ a1 with Kids_ := (3 : Int) } : T_remontoireref10_N)] ++ x24.2) ++ x26.2).length + x35.2.length ≤ 1073741824) <|
      some (x35.1, ((([({ a1 with Kids_ := (3 : Int) } : T_remontoireref10_N)] ++ x24.2) ++ x26.2) ++ x35.2))

def remontoireref10_P_block_grp : Nat → (T_remontoireref10_P → Int → Option (T_remontoireref10_P × (List T_remontoireref10_N))) × (T_remontoireref10_P → Int → Option (T_remontoireref10_P × (List T_remontoireref10_N))) × (T_remontoireref10_P → T_remontoireref10_N → Int → Option (T_remontoireref10_P × (List T_remontoireref10_N)))
  | 0 => (fun _ _ => none, fun _ _ => none, fun _ _ _ => none)
  | n + 1 => (remontoireref10_P_block_b (remontoireref10_P_block_grp n).2.1 n, remontoireref10_P_statement_b (remontoireref10_P_block_grp n).2.2 n, remontoireref10_P_within_b (remontoireref10_P_block_grp n).1 n)
def remontoireref10_P_block (n : Nat) : T_remontoireref10_P → Int → Option (T_remontoireref10_P × (List T_remontoireref10_N)) := (remontoireref10_P_block_grp n).1
def remontoireref10_P_statement (n : Nat) : T_remontoireref10_P → Int → Option (T_remontoireref10_P × (List T_remontoireref10_N)) := (remontoireref10_P_block_grp n).2.1
def remontoireref10_P_within (n : Nat) : T_remontoireref10_P → T_remontoireref10_N → Int → Option (T_remontoireref10_P × (List T_remontoireref10_N)) := (remontoireref10_P_block_grp n).2.2

/- (remontoireref10.P).function -/
def remontoireref10_P_function (n : Nat) (a0 : T_remontoireref10_P) : Option (T_remontoireref10_P × (List T_remontoireref10_N)) :=
  (remontoireref10_P_node a0 (2 : Int)).bind fun x3 =>
  (remontoireref10_P_take n x3.1 ([101, 120, 112, 111, 114, 116] : Str)).bind fun x6 =>
  if x6.2 = true then
    (remontoireref10_P_need n x6.1 ([102, 110] : Str)).bind fun x9 =>
    (remontoireref10_P_name n x9).bind fun x10 =>
    (remontoireref10_P_params n x10.1).bind fun x13 =>
    (remontoireref10_P_take n x13.1 ([45, 62] : Str)).bind fun x15 =>
    if x15.2 = true then
      (remontoireref10_P_take n x15.1 ([117, 51, 50] : Str)).bind fun x18 =>
      if x18.2 = true then
        (remontoireref10_P_block n x18.1 (1 : Int)).bind fun x21 =>
        need ([({ x3.2 with Text_ := x10.2, Num_ := (IntKind.u32.wrap ((1 : Int) + (2 : Int))), Kids_ := (IntKind.i64.wrap (x13.2.2 + (1 : Int))) } : T_remontoireref10_N)].length + x13.2.1.length ≤ 1073741824) <|
        need (([({ x3.2 with Text_ := x10.2, Num_ := (IntKind.u32.wrap ((1 : Int) + (2 : Int))), Kids_ := (IntKind.i64.wrap (x13.2.2 + (1 : Int))) } : T_remontoireref10_N)] ++ x13.2.1).length + x21.2.length ≤ 1073741824) <|
        some (x21.1, (([({ x3.2 with Text_ := x10.2, Num_ := (IntKind.u32.wrap ((1 : Int) + (2 : Int))), Kids_ := (IntKind.i64.wrap (x13.2.2 + (1 : Int))) } : T_remontoireref10_N)] ++ x13.2.1) ++ x21.2))
      else
        (remontoireref10_P_need n x18.1 ([117, 54, 52] : Str)).bind fun x27 =>
        (remontoireref10_P_block n x27 (1 : Int)).bind fun x29 =>
        need ([({ x3.2 with Text_ := x10.2, Num_ := (IntKind.u32.wrap ((1 : Int) + (4 : Int))), Kids_ := (IntKind.i64.wrap (x13.2.2 + (1 : Int))) } : T_remontoireref10_N)].length + x13.2.1.length ≤ 1073741824) <|
        need (([({ x3.2 with Text_ := x10.2, Num_ := (IntKind.u32.wrap ((1 : Int) + (4 : Int))), Kids_ := (IntKind.i64.wrap (x13.2.2 + (1 : Int))) } : T_remontoireref10_N)] ++ x13.2.1).length + x29.2.length ≤ 1073741824) <|
        some (x29.1, (([({ x3.2 with Text_ := x10.2, Num_ := (IntKind.u32.wrap ((1 : Int) + (4 : Int))), Kids_ := (IntKind.i64.wrap (x13.2.2 + (1 : Int))) } : T_remontoireref10_N)] ++ x13.2.1) ++ x29.2))
    else
      (remontoireref10_P_block n x15.1 (1 : Int)).bind fun x35 =>
      need ([({ x3.2 with Text_ := x10.2, Num_ := (1 : Int), Kids_ := (IntKind.i64.wrap (x13.2.2 + (1 : Int))) } : T_remontoireref10_N)].length + x13.2.1.length ≤ 1073741824) <|
      need (([({ x3.2 with Text_ := x10.2, Num_ := (1 : Int), Kids_ := (IntKind.i64.wrap (x13.2.2 + (1 : Int))) } : T_remontoireref10_N)] ++ x13.2.1).length + x35.2.length ≤ 1073741824) <|
      some (x35.1, (([({ x3.2 with Text_ := x10.2, Num_ := (1 : Int), Kids_ := (IntKind.i64.wrap (x13.2.2 + (1 : Int))) } : T_remontoireref10_N)] ++ x13.2.1) ++ x35.2))
  else
    (remontoireref10_P_need n x6.1 ([102, 110] : Str)).bind fun x41 =>
    (remontoireref10_P_name n x41).bind fun x42 =>
    (remontoireref10_P_params n x42.1).bind fun x45 =>
    (remontoireref10_P_take n x45.1 ([45, 62] : Str)).bind fun x47 =>
    if x47.2 = true then
      (remontoireref10_P_take n x47.1 ([117, 51, 50] : Str)).bind fun x50 =>
      if x50.2 = true then
        (remontoireref10_P_block n x50.1 (1 : Int)).bind fun x53 =>
        need ([({ x3.2 with Text_ := x42.2, Num_ := (IntKind.u32.wrap (x3.2.Num_ + (2 : Int))), Kids_ := (IntKind.i64.wrap (x45.2.2 + (1 : Int))) } : T_remontoireref10_N)].length + x45.2.1.length ≤ 1073741824) <|
        need (([({ x3.2 with Text_ := x42.2, Num_ := (IntKind.u32.wrap (x3.2.Num_ + (2 : Int))), Kids_ := (IntKind.i64.wrap (x45.2.2 + (1 : Int))) } : T_remontoireref10_N)] ++ x45.2.1).length + x53.2.length ≤ 1073741824) <|
        some (x53.1, (([({ x3.2 with Text_ := x42.2, Num_ := (IntKind.u32.wrap (x3.2.Num_ + (2 : Int))), Kids_ := (IntKind.i64.wrap (x45.2.2 + (1 : Int))) } : T_remontoireref10_N)] ++ x45.2.1) ++ x53.2))
      else
        (remontoireref10_P_need n x50.1 ([117, 54, 52] : Str)).bind fun x59 =>
        (remontoireref10_P_block n x59 (1 : Int)).bind fun x61 =>
        need ([({ x3.2 with Text_ := x42.2, Num_ := (IntKind.u32.wrap (x3.2.Num_ + (4 : Int))), Kids_ := (IntKind.i64.wrap (x45.2.2 + (1 : Int))) } : T_remontoireref10_N)].length + x45.2.1.length ≤ 1073741824) <|
        need (([({ x3.2 with Text_ := x42.2, Num_ := (IntKind.u32.wrap (x3.2.Num_ + (4 : Int))), Kids_ := (IntKind.i64.wrap (x45.2.2 + (1 : Int))) } : T_remontoireref10_N)] ++ x45.2.1).length + x61.2.length ≤ 1073741824) <|
        some (x61.1, (([({ x3.2 with Text_ := x42.2, Num_ := (IntKind.u32.wrap (x3.2.Num_ + (4 : Int))), Kids_ := (IntKind.i64.wrap (x45.2.2 + (1 : Int))) } : T_remontoireref10_N)] ++ x45.2.1) ++ x61.2))
    else
      (remontoireref10_P_block n x47.1 (1 : Int)).bind fun x67 =>
      need ([({ x3.2 with Text_ := x42.2, Kids_ := (IntKind.i64.wrap (x45.2.2 + (1 : Int))) } : T_remontoireref10_N)].length + x45.2.1.length ≤ 1073741824) <|
      need (([({ x3.2 with Text_ := x42.2, Kids_ := (IntKind.i64.wrap (x45.2.2 + (1 : Int))) } : T_remontoireref10_N)] ++ x45.2.1).length + x67.2.length ≤ 1073741824) <|
      some (x67.1, (([({ x3.2 with Text_ := x42.2, Kids_ := (IntKind.i64.wrap (x45.2.2 + (1 : Int))) } : T_remontoireref10_N)] ++ x45.2.1) ++ x67.2))

/- remontoireref10.Parse -/
def remontoireref10_Parse_l1 (n : Nat) : Nat → (List T_remontoireref10_N) → T_remontoireref10_P → T_remontoireref10_N → Option ((List T_remontoireref10_N) × T_remontoireref10_P × T_remontoireref10_N)
  | 0, _, _, _ => none
  | c17 + 1, v13, v14, v15 =>
    (if (v14.E_ == (0 : Int)) = true then
        (idxL v14.L_ v14.At_).bind fun x23 =>
        some (x23.Kind_ != (4 : Int))
      else
        some false).bind fun y21 =>
    if y21 = true then
      (remontoireref10_P_function n v14).bind fun x32 =>
      need (v13.length + x32.2.length ≤ 1073741824) <|
      remontoireref10_Parse_l1 n c17 (v13 ++ x32.2) x32.1 ({ v15 with Kids_ := (IntKind.i64.wrap (v15.Kids_ + (1 : Int))) } : T_remontoireref10_N)
    else
      some (v13, v14, v15)
def remontoireref10_Parse (n : Nat) (a0 : Str) : Option ((List T_remontoireref10_N) × Int × Int) :=
  (remontoireref09_Tokens n a0).bind fun x1 =>
  if (x1.2.1 != (0 : Int)) = true then
    some ([], x1.2.1, x1.2.2)
  else
    (idxL x1.1 (0 : Int)).bind fun x5 =>
    (remontoireref10_Parse_l1 n n [] (T_remontoireref10_P.mk x1.1 (0 : Int) (1 : Int) (0 : Int) (0 : Int)) (T_remontoireref10_N.mk (1 : Int) x5.At_ [] (0 : Int) (0 : Int))).bind fun y16 =>
    if (y16.2.1.E_ != (0 : Int)) = true then
      some ([], y16.2.1.E_, y16.2.1.Where_)
    else
      need ([y16.2.2].length + y16.1.length ≤ 1073741824) <|
      some (([y16.2.2] ++ y16.1), (0 : Int), (0 : Int))

/- parse.Count -/
def parse_Count_l1 (rec_parse_Count : T_parse_Node → Option Int) (a0 : T_parse_Node) : Nat → Int → Int → Option Int
  | 0, _, _ => none
  | c6 + 1, v3, v4 =>
    if (decide (v4 < (a0.List_.length : Int))) = true then
      (idxL a0.List_ v4).bind fun x11 =>
      (rec_parse_Count x11).bind fun x17 =>
      parse_Count_l1 rec_parse_Count a0 c6 (IntKind.i64.wrap (v3 + x17)) (IntKind.i64.wrap (v4 + (1 : Int)))
    else
      some v3
def parse_Count_b (rec_parse_Count : T_parse_Node → Option Int) (n : Nat) (a0 : T_parse_Node) : Option Int :=
  (parse_Count_l1 rec_parse_Count a0 n (1 : Int) (0 : Int)).bind fun y5 =>
  some y5

def parse_Count : Nat → T_parse_Node → Option Int
  | 0 => fun _ => none
  | n + 1 => parse_Count_b (parse_Count n) n

/- remontoirelaw10.ParseTrees -/
def remontoirelaw10_ParseTrees_l1 (x22 : (List T_remontoireref10_N)) (x8 : ((List T_remontoireref10_N) × Int × Int)) : Nat → Int → Option (Unit ⊕ Bool)
  | 0, _ => none
  | c35 + 1, v33 =>
    if (decide (v33 < (x22.length : Int))) = true then
      (idxL x22 v33).bind fun x40 =>
      (idxL x8.1 v33).bind fun x41 =>
      if (!((x40.Kind_ == x41.Kind_) && ((x40.At_ == x41.At_) && ((decide (x40.Text_ = x41.Text_)) && ((x40.Num_ == x41.Num_) && (x40.Kids_ == x41.Kids_)))))) = true then
        some (.inr false)
      else
        remontoirelaw10_ParseTrees_l1 x22 x8 c35 (IntKind.i64.wrap (v33 + (1 : Int)))
    else
      some (.inl ())
def remontoirelaw10_ParseTrees (n : Nat) (a0 : Str) : Option Bool :=
  (remontoirelaw10_anchor n).bind fun x1 =>
  if (!x1) = true then
    some false
  else
    if (decide ((40000 : Int) < (a0.length : Int))) = true then
      some true
    else
      (parse_Parse n a0).bind fun x5 =>
      (remontoireref10_Parse n a0).bind fun x8 =>
      (if (x5.2.1 != x8.2.1) = true then
          some true
        else
          some (x5.2.2 != x8.2.2)).bind fun y10 =>
      if y10 = true then
        some false
      else
        if (x8.2.1 != (0 : Int)) = true then
          (if (x5.1.Kind_ == (0 : Int)) = true then
              some ((x5.1.List_.length : Int) == (0 : Int))
            else
              some false).bind fun y17 =>
          some y17
        else
          (remontoirelaw10_flat n x5.1 (0 : Int)).bind fun x22 =>
          (if ((x22.length : Int) != (x8.1.length : Int)) = true then
              some true
            else
              (parse_Count n x5.1).bind fun x26 =>
              some (x26 != (x8.1.length : Int))).bind fun y24 =>
          if y24 = true then
            some false
          else
            (remontoirelaw10_ParseTrees_l1 x22 x8 n (0 : Int)).bind fun y34 =>
            y34.elim (fun y34a =>
              some true) (fun y34a =>
              some y34a)
end Go.Proofs.YtolhahlnccekcaaDoor.Abs
