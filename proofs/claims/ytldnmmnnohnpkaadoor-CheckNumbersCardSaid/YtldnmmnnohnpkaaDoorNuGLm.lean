/-
 Plain models of functions. Written by a program of mine (gen.py) for this claim.
-/
import Derived.Test.YtldnmmnnohnpkaaDoorNuGMm
namespace Go.Proofs.YtldnmmnnohnpkaaDoor.Abs
open Go.RowKit
set_option linter.unusedVariables false
def zdg (n : Nat) : Option Bool :=
 (zfg n ([101, 120, 112, 111, 114, 116, 32, 102, 110, 32, 102, 40, 112, 58, 32, 112, 117, 98, 44, 32, 120, 58, 32, 117, 51, 50, 41, 32, 45, 62, 32, 117, 51, 50, 32, 123, 32, 114, 101, 116, 117, 114, 110, 32, 120, 32, 43, 32, 112, 59, 32, 125] : Str)).bind fun x1 =>
 (if (x1.2.1 == (0 : Int)) = true then
    if ((x1.1.zaT.length : Int) == (1 : Int)) = true then
     (idxL x1.1.zaT (0 : Int)).bind fun x7 =>
     if ((x7.zbH.length : Int) == (2 : Int)) = true then
      if ((x7.zcY.length : Int) == (1 : Int)) = true then
       (idxL x7.zcY (0 : Int)).bind fun x15 =>
       some (decide (x15.Op_ = ([114, 101, 116, 117, 114, 110] : Str)))
      else
       some false
     else
      some false
    else
     some false
   else
    some false).bind fun y4 =>
 some y4
def za3 : Nat -> Int -> Str -> Option Str
 | 0, _, _ => none
 | c5 + 1, v2, v3 =>
   need ((encS (IntKind.i32.wrap (IntKind.u32.wrap ((48 : Int) + (v2.tmod (10 : Int)))))).length + v3.length <= 4611686018427387904) <|
   if ((IntKind.u32.wrap (v2.tdiv (10 : Int))) == (0 : Int)) = true then
    some ((encS (IntKind.i32.wrap (IntKind.u32.wrap ((48 : Int) + (v2.tmod (10 : Int)))))) ++ v3)
   else
    za3 c5 (IntKind.u32.wrap (v2.tdiv (10 : Int))) ((encS (IntKind.i32.wrap (IntKind.u32.wrap ((48 : Int) + (v2.tmod (10 : Int)))))) ++ v3)
def zb2 (n : Nat) (a0 : Int) : Option Str :=
 (za3 n a0 ([] : Str)).bind fun y4 =>
 some y4
def zbU (n : Nat) (a0 : Int) (a1 : Int) : Option Bool :=
 (zdg n).bind fun x1 =>
 if (!x1) = true then
  some false
 else
  (zb2 n a0).bind fun x4 =>
  need (([102, 110, 32, 102, 40, 120, 58, 32, 117, 51, 50, 41, 32, 123, 32, 97, 114, 114, 32, 97, 91] : Str).length + x4.length <= 4611686018427387904) <|
  need ((([102, 110, 32, 102, 40, 120, 58, 32, 117, 51, 50, 41, 32, 123, 32, 97, 114, 114, 32, 97, 91] : Str) ++ x4).length + ([93, 59, 32, 97, 91] : Str).length <= 4611686018427387904) <|
  (zb2 n a1).bind fun x5 =>
  need (((([102, 110, 32, 102, 40, 120, 58, 32, 117, 51, 50, 41, 32, 123, 32, 97, 114, 114, 32, 97, 91] : Str) ++ x4) ++ ([93, 59, 32, 97, 91] : Str)).length + x5.length <= 4611686018427387904) <|
  need ((((([102, 110, 32, 102, 40, 120, 58, 32, 117, 51, 50, 41, 32, 123, 32, 97, 114, 114, 32, 97, 91] : Str) ++ x4) ++ ([93, 59, 32, 97, 91] : Str)) ++ x5).length + ([93, 32, 61, 32, 120, 59, 32, 125] : Str).length <= 4611686018427387904) <|
  need (((((([102, 110, 32, 102, 40, 120, 58, 32, 117, 51, 50, 41, 32, 123, 32, 97, 114, 114, 32, 97, 91] : Str) ++ x4) ++ ([93, 59, 32, 97, 91] : Str)) ++ x5) ++ ([93, 32, 61, 32, 120, 59, 32, 125] : Str)).length <= 4611686018427387904) <|
  (zfg n ((((([102, 110, 32, 102, 40, 120, 58, 32, 117, 51, 50, 41, 32, 123, 32, 97, 114, 114, 32, 97, 91] : Str) ++ x4) ++ ([93, 59, 32, 97, 91] : Str)) ++ x5) ++ ([93, 32, 61, 32, 120, 59, 32, 125] : Str))).bind fun x6 =>
  (if (decide ((1 : Int) <= a0)) = true then
     if (decide (a0 <= (255 : Int))) = true then
      some false
     else
      if (decide ((256 : Int) <= a0)) = true then
       if (decide (a0 <= (1024 : Int))) = true then
        some (!((a0.tmod (4 : Int)) == (0 : Int)))
       else
        some true
      else
       some true
    else
     if (decide ((256 : Int) <= a0)) = true then
      if (decide (a0 <= (1024 : Int))) = true then
       some (!((a0.tmod (4 : Int)) == (0 : Int)))
      else
       some true
     else
      some true).bind fun y24 =>
  if y24 = true then
   some (x6.2.1 == (136 : Int))
  else
   if (decide (a0 <= a1)) = true then
    some (x6.2.1 == (137 : Int))
   else
    some (x6.2.1 == (0 : Int))
end Go.Proofs.YtldnmmnnohnpkaaDoor.Abs
