/-
 Plain models of functions. Written by a program of mine (gen.py) for this claim.
-/
import Derived.Test.YtldnmmnnohnpkaaGreatDoorPcH8
namespace Go.Proofs.YtldnmmnnohnpkaaGreatDoor.Abs
open Go.RowKit
set_option linter.unusedVariables false
structure zar where
 Tag_ : Str
 za6 : Str
 A_ : Int
 B_ : Int
 C_ : Int
 D_ : Int
 E_ : Int
 At_ : Int
def zar.C (x : zar) : List V := [.lit (.string (bs x.Tag_)), .lit (.string (bs x.za6)), .lit (.int .i64 x.A_), .lit (.int .i64 x.B_), .lit (.int .i64 x.C_), .lit (.int .i64 x.D_), .lit (.int .i64 x.E_), .lit (.int .i64 x.At_)]
@[go_sem] theorem zar.C_eq (x : zar) : zar.C x = [.lit (.string (bs x.Tag_)), .lit (.string (bs x.za6)), .lit (.int .i64 x.A_), .lit (.int .i64 x.B_), .lit (.int .i64 x.C_), .lit (.int .i64 x.D_), .lit (.int .i64 x.E_), .lit (.int .i64 x.At_)] := _root_.id rfl
def zej (n : Nat) : Option Bool :=
 (zf7 n ([101, 120, 112, 111, 114, 116, 32, 102, 110, 32, 102, 40, 112, 58, 32, 112, 117, 98, 44, 32, 120, 58, 32, 117, 51, 50, 41, 32, 45, 62, 32, 117, 51, 50, 32, 123, 32, 114, 101, 116, 117, 114, 110, 32, 120, 32, 43, 32, 112, 59, 32, 125] : Str)).bind fun x1 =>
 (if (x1.2.1 == (0 : Int)) = true then
    if ((x1.1.zay.length : Int) == (1 : Int)) = true then
     (idxL x1.1.zay (0 : Int)).bind fun x7 =>
     if ((x7.za9.length : Int) == (2 : Int)) = true then
      if ((x7.zb1.length : Int) == (1 : Int)) = true then
       (idxL x7.zb1 (0 : Int)).bind fun x15 =>
       some (decide (x15.Op_ = ([114, 101, 116, 117, 114, 110] : Str)))
      else
       some false
     else
      some false
    else
     some false
   else
    some false).bind fun y4 =>
 some y4
def zb7 (zbW : zae -> Option Bool) (a0 : zae) : Nat -> Int -> Option (Unit ⊕ Bool)
 | 0, _ => none
 | c5 + 1, v3 =>
   if (decide (v3 < (a0.zal.length : Int))) = true then
    (idxL a0.zal v3).bind fun x10 =>
    (zbW x10).bind fun x16 =>
    if (!x16) = true then
     some (.inr false)
    else
     zb7 zbW a0 c5 (IntKind.i64.wrap (v3 + (1 : Int)))
   else
    some (.inl ())
def zaM (zbW : zae -> Option Bool) (n : Nat) (a0 : zae) : Option Bool :=
 (zb7 zbW a0 n (0 : Int)).bind fun y4 =>
 y4.elim (fun y4a =>
  if (decide (a0.Op_ = ([105, 110, 100, 101, 120] : Str))) = true then
   (if ((a0.zal.length : Int) == (1 : Int)) = true then
      (idxL a0.zal (0 : Int)).bind fun x108 =>
      some (x108.za7 == (1 : Int))
     else
      some false).bind fun y106 =>
   some y106
  else
   if (decide (a0.Op_ = ([47] : Str))) = true then
    (if ((a0.zal.length : Int) == (2 : Int)) = true then
       (idxL a0.zal (0 : Int)).bind fun x120 =>
       if (x120.za7 == (1 : Int)) = true then
        (idxL a0.zal (1 : Int)).bind fun x127 =>
        some (x127.za7 == (1 : Int))
       else
        some false
      else
       some false).bind fun y118 =>
    some y118
   else
    if (decide (a0.Op_ = ([37] : Str))) = true then
     (if ((a0.zal.length : Int) == (2 : Int)) = true then
        (idxL a0.zal (0 : Int)).bind fun x139 =>
        if (x139.za7 == (1 : Int)) = true then
         (idxL a0.zal (1 : Int)).bind fun x146 =>
         some (x146.za7 == (1 : Int))
        else
         some false
       else
        some false).bind fun y137 =>
     some y137
    else
     if (decide (a0.Op_ = ([60, 60] : Str))) = true then
      (if ((a0.zal.length : Int) == (2 : Int)) = true then
         (idxL a0.zal (1 : Int)).bind fun x158 =>
         some (x158.za7 == (1 : Int))
        else
         some false).bind fun y156 =>
      some y156
     else
      if (decide (a0.Op_ = ([62, 62] : Str))) = true then
       (if ((a0.zal.length : Int) == (2 : Int)) = true then
          (idxL a0.zal (1 : Int)).bind fun x170 =>
          some (x170.za7 == (1 : Int))
         else
          some false).bind fun y168 =>
       some y168
      else
       if (decide (a0.Op_ = ([60, 60, 60] : Str))) = true then
        (if ((a0.zal.length : Int) == (2 : Int)) = true then
           (idxL a0.zal (1 : Int)).bind fun x182 =>
           some (x182.za7 == (1 : Int))
          else
           some false).bind fun y180 =>
        some y180
       else
        some true) (fun y4a =>
  some y4a)
def za3 : Nat -> zae -> Option Bool
 | 0 => fun _ => none
 | n + 1 => zaM (za3 n) n
def zck (zbQ : zae -> (List zan) -> Option Bool) (a0 : zae) (a1 : (List zan)) : Nat -> Int -> Option (Unit ⊕ Bool)
 | 0, _ => none
 | c21 + 1, v19 =>
   if (decide (v19 < (a0.zal.length : Int))) = true then
    (idxL a0.zal v19).bind fun x26 =>
    (zbQ x26 a1).bind fun x32 =>
    if (!x32) = true then
     some (.inr false)
    else
     zck zbQ a0 a1 c21 (IntKind.i64.wrap (v19 + (1 : Int)))
   else
    some (.inl ())
def zcu (zbQ : zae -> (List zan) -> Option Bool) (n : Nat) (a0 : zae) (a1 : (List zan)) : Option Bool :=
 (if (decide (a0.Op_ = ([118, 97, 114] : Str))) = true then
    if (decide (a0.Var_ < (0 : Int))) = true then
     some true
    else
     if (decide ((a1.length : Int) <= a0.Var_)) = true then
      some true
     else
      (idxL a1 a0.Var_).bind fun x6 =>
      if (x6.zaY != (1 : Int)) = true then
       some true
      else
       if (decide (a0.Op_ = ([105, 110, 100, 101, 120] : Str))) = true then
        some true
       else
        some (a0.za7 != (1 : Int))
   else
    if (decide (a0.Op_ = ([105, 110, 100, 101, 120] : Str))) = true then
     some true
    else
     some (a0.za7 != (1 : Int))).bind fun y2 =>
 if y2 = true then
  some false
 else
  (zck zbQ a0 a1 n (0 : Int)).bind fun y20 =>
  y20.elim (fun y20a =>
   some true) (fun y20a =>
   some y20a)
def zbp : Nat -> zae -> (List zan) -> Option Bool
 | 0 => fun _ _ => none
 | n + 1 => zcu (zbp n) n
def zbK (n : Nat) (x9 : zaf) (a1 : (List zan)) : Nat -> Int -> Option (Unit ⊕ Bool)
 | 0, _ => none
 | c18 + 1, v16 =>
   if (decide (v16 < (x9.zal.length : Int))) = true then
    (idxL x9.zal v16).bind fun x23 =>
    (if (decide (x9.Op_ = ([108, 101, 116] : Str))) = true then
       some true
      else
       if (decide (x9.Op_ = ([105, 102] : Str))) = true then
        some true
       else
        if (decide (x9.Op_ = ([102, 111, 114] : Str))) = true then
         some true
        else
         if (decide (x9.Op_ = ([112, 117, 116] : Str))) = true then
          some (v16 == (0 : Int))
         else
          some false).bind fun y29 =>
    ((za3 n x23).bind fun x38 =>
      if (!x38) = true then
       some true
      else
       if y29 = true then
        (zbp n x23 a1).bind fun x42 =>
        some (!x42)
       else
        some false).bind fun y37 =>
    if y37 = true then
     some (.inr false)
    else
     zbK n x9 a1 c18 (IntKind.i64.wrap (v16 + (1 : Int)))
   else
    some (.inl ())
def zcj (zbD : (List zaf) -> (List zan) -> Option Bool) (n : Nat) (a0 : (List zaf)) (a1 : (List zan)) : Nat -> Int -> Option (Unit ⊕ Bool)
 | 0, _ => none
 | c4 + 1, v2 =>
   if (decide (v2 < (a0.length : Int))) = true then
    (idxL a0 v2).bind fun x9 =>
    (zbK n x9 a1 n (0 : Int)).bind fun y17 =>
    y17.elim (fun y17a =>
     ((zbD x9.zb1 a1).bind fun x59 =>
       if (!x59) = true then
        some true
       else
        (zbD x9.zeW a1).bind fun x62 =>
        some (!x62)).bind fun y58 =>
     if y58 = true then
      some (.inr false)
     else
      zcj zbD n a0 a1 c4 (IntKind.i64.wrap (v2 + (1 : Int)))) (fun y17a =>
     some (.inr y17a))
   else
    some (.inl ())
def zdq (zbD : (List zaf) -> (List zan) -> Option Bool) (n : Nat) (a0 : (List zaf)) (a1 : (List zan)) : Option Bool :=
 (zcj zbD n a0 a1 n (0 : Int)).bind fun y3 =>
 y3.elim (fun y3a =>
  some true) (fun y3a =>
  some y3a)
def zdj : Nat -> (List zaf) -> (List zan) -> Option Bool
 | 0 => fun _ _ => none
 | n + 1 => zdq (zdj n) n
def zcd (zbL : (List zae) -> Option (List zar)) (a0 : (List zae)) : Nat -> (List zar) -> Int -> Option (List zar)
 | 0, _, _ => none
 | c5 + 1, v2, v3 =>
   if (decide (v3 < (a0.length : Int))) = true then
    (idxL a0 v3).bind fun x10 =>
    need (([61] : Str).length + x10.Op_.length <= 4611686018427387904) <|
    need (v2.length + [(zar.mk (([61] : Str) ++ x10.Op_) [] x10.za7 (IntKind.i64.wrap x10.N_) x10.Var_ (x10.zal.length : Int) (0 : Int) x10.At_)].length <= 1073741824) <|
    (zbL x10.zal).bind fun x21 =>
    need ((v2 ++ [(zar.mk (([61] : Str) ++ x10.Op_) [] x10.za7 (IntKind.i64.wrap x10.N_) x10.Var_ (x10.zal.length : Int) (0 : Int) x10.At_)]).length + x21.length <= 1073741824) <|
    zcd zbL a0 c5 ((v2 ++ [(zar.mk (([61] : Str) ++ x10.Op_) [] x10.za7 (IntKind.i64.wrap x10.N_) x10.Var_ (x10.zal.length : Int) (0 : Int) x10.At_)]) ++ x21) (IntKind.i64.wrap (v3 + (1 : Int)))
   else
    some v2
def zda (zbL : (List zae) -> Option (List zar)) (n : Nat) (a0 : (List zae)) : Option (List zar) :=
 (zcd zbL a0 n [] (0 : Int)).bind fun y4 =>
 some y4
def zcT : Nat -> (List zae) -> Option (List zar)
 | 0 => fun _ => none
 | n + 1 => zda (zcT n) n
def zcc (zbA : (List zaf) -> Option (List zar)) (n : Nat) (a0 : (List zaf)) : Nat -> (List zar) -> Int -> Option (List zar)
 | 0, _, _ => none
 | c5 + 1, v2, v3 =>
   if (decide (v3 < (a0.length : Int))) = true then
    (idxL a0 v3).bind fun x10 =>
    need (v2.length + [(zar.mk x10.Op_ [] x10.Var_ x10.zfe (x10.zal.length : Int) (x10.zb1.length : Int) (x10.zeW.length : Int) x10.At_)].length <= 1073741824) <|
    (zcT n x10.zal).bind fun x19 =>
    need ((v2 ++ [(zar.mk x10.Op_ [] x10.Var_ x10.zfe (x10.zal.length : Int) (x10.zb1.length : Int) (x10.zeW.length : Int) x10.At_)]).length + x19.length <= 1073741824) <|
    (zbA x10.zb1).bind fun x23 =>
    need (((v2 ++ [(zar.mk x10.Op_ [] x10.Var_ x10.zfe (x10.zal.length : Int) (x10.zb1.length : Int) (x10.zeW.length : Int) x10.At_)]) ++ x19).length + x23.length <= 1073741824) <|
    (zbA x10.zeW).bind fun x27 =>
    need ((((v2 ++ [(zar.mk x10.Op_ [] x10.Var_ x10.zfe (x10.zal.length : Int) (x10.zb1.length : Int) (x10.zeW.length : Int) x10.At_)]) ++ x19) ++ x23).length + x27.length <= 1073741824) <|
    zcc zbA n a0 c5 ((((v2 ++ [(zar.mk x10.Op_ [] x10.Var_ x10.zfe (x10.zal.length : Int) (x10.zb1.length : Int) (x10.zeW.length : Int) x10.At_)]) ++ x19) ++ x23) ++ x27) (IntKind.i64.wrap (v3 + (1 : Int)))
   else
    some v2
def zc9 (zbA : (List zaf) -> Option (List zar)) (n : Nat) (a0 : (List zaf)) : Option (List zar) :=
 (zcc zbA n a0 n [] (0 : Int)).bind fun y4 =>
 some y4
def zcS : Nat -> (List zaf) -> Option (List zar)
 | 0 => fun _ => none
 | n + 1 => zc9 (zcS n) n
def zbl (x26 : (List zar)) (x17 : zau) : Nat -> Int -> Option (Unit ⊕ Bool)
 | 0, _ => none
 | c31 + 1, v29 =>
   if (decide (v29 < (x26.length : Int))) = true then
    (idxL x26 v29).bind fun x36 =>
    (if (decide (x36.Tag_ = ([115, 101, 116] : Str))) = true then
       if (decide (x36.A_ < (0 : Int))) = true then
        some true
       else
        if (decide ((x17.za9.length : Int) <= x36.A_)) = true then
         some true
        else
         (idxL x17.za9 x36.A_).bind fun x46 =>
         if (x46.zaY == (1 : Int)) = true then
          some true
         else
          some (x46.zaY == (4 : Int))
      else
       some false).bind fun y42 =>
    if y42 = true then
     some (.inr false)
    else
     zbl x26 x17 c31 (IntKind.i64.wrap (v29 + (1 : Int)))
   else
    some (.inl ())
def zbC (n : Nat) (x5 : (zbJ × Int × Int)) : Nat -> Int -> Option (Unit ⊕ Bool)
 | 0, _ => none
 | c12 + 1, v10 =>
   if (decide (v10 < (x5.1.zay.length : Int))) = true then
    (idxL x5.1.zay v10).bind fun x17 =>
    (zdj n x17.zb1 x17.za9).bind fun x23 =>
    if (!x23) = true then
     some (.inr false)
    else
     (zcS n x17.zb1).bind fun x26 =>
     (zbl x26 x17 n (0 : Int)).bind fun y30 =>
     y30.elim (fun y30a =>
      zbC n x5 c12 (IntKind.i64.wrap (v10 + (1 : Int)))) (fun y30a =>
      some (.inr y30a))
   else
    some (.inl ())
def zcz (n : Nat) (a0 : Str) : Option Bool :=
 (zej n).bind fun x1 =>
 if (!x1) = true then
  some false
 else
  if (decide ((3000 : Int) < (a0.length : Int))) = true then
   some true
  else
   (zf7 n a0).bind fun x5 =>
   if (x5.2.1 != (0 : Int)) = true then
    some true
   else
    (zbC n x5 n (0 : Int)).bind fun y11 =>
    y11.elim (fun y11a =>
     some true) (fun y11a =>
     some y11a)
end Go.Proofs.YtldnmmnnohnpkaaGreatDoor.Abs
