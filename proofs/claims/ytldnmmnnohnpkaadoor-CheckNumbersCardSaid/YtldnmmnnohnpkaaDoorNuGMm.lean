/-
 Plain models of functions. Written by a program of mine (gen.py) for this claim.
-/
import Derived.Test.YtldnmmnnohnpkaaDoorNuS3
namespace Go.Proofs.YtldnmmnnohnpkaaDoor.Abs
open Go.RowKit
set_option linter.unusedVariables false
structure zat where
 name_ : Str
 args_ : Int
def zat.C (x : zat) : List V := [.lit (.string (bs x.name_)), .lit (.int .i64 x.args_)]
@[go_sem] theorem zat.C_eq (x : zat) : zat.C x = [.lit (.string (bs x.name_)), .lit (.int .i64 x.args_)] := _root_.id rfl
structure za2 where
 zba : Int
 At_ : Int
 za0 : Str
 Num_ : Int
def za2.C (x : za2) : List V := [.lit (.int .i64 x.zba), .lit (.int .i64 x.At_), .lit (.string (bs x.za0)), .lit (.int .u32 x.Num_)]
@[go_sem] theorem za2.C_eq (x : za2) : za2.C x = [.lit (.int .i64 x.zba), .lit (.int .i64 x.At_), .lit (.string (bs x.za0)), .lit (.int .u32 x.Num_)] := _root_.id rfl
structure zaa where
 zba : Int
 At_ : Int
 za0 : Str
 Num_ : Int
 zav : (List zaa)
mutual
def zaa.C : zaa -> List V
 | ⟨a0, a1, a2, a3, a4⟩ => [.lit (.int .i64 a0), .lit (.int .i64 a1), .lit (.string (bs a2)), .lit (.int .u32 a3), .list .none (zaa.CL a4)]
def zaa.CL : List zaa -> List (List V)
 | [] => []
 | x :: l => zaa.C x :: zaa.CL l
end
theorem zaa.CL_eq (l : List zaa) : zaa.CL l = l.map zaa.C := by
 induction l with
 | nil => rfl
 | cons x l ih => rw [zaa.CL, ih]; rfl
@[go_sem] theorem zaa.C_eq (x : zaa) : zaa.C x = [.lit (.int .i64 x.zba), .lit (.int .i64 x.At_), .lit (.string (bs x.za0)), .lit (.int .u32 x.Num_), .list .none (x.zav.map zaa.C)] := by
 cases x; simp only [zaa.C, zaa.CL_eq]
structure zab where
 l_ : (List za2)
 at_ : Int
 zgc : Int
 e_ : Int
 zif : Int
def zab.C (x : zab) : List V := [.list .none (x.l_.map za2.C), .lit (.int .i64 x.at_), .lit (.int .i64 x.zgc), .lit (.int .i64 x.e_), .lit (.int .i64 x.zif)]
@[go_sem] theorem zab.C_eq (x : zab) : zab.C x = [.list .none (x.l_.map za2.C), .lit (.int .i64 x.at_), .lit (.int .i64 x.zgc), .lit (.int .i64 x.e_), .lit (.int .i64 x.zif)] := _root_.id rfl
structure zas where
 zfr : Str
 zba : Int
 zfZ : Int
def zas.C (x : zas) : List V := [.lit (.string (bs x.zfr)), .lit (.int .i64 x.zba), .lit (.int .i64 x.zfZ)]
@[go_sem] theorem zas.C_eq (x : zas) : zas.C x = [.lit (.string (bs x.zfr)), .lit (.int .i64 x.zba), .lit (.int .i64 x.zfZ)] := _root_.id rfl
structure zae where
 Op_ : Str
 zbn : Int
 N_ : Int
 Var_ : Int
 zav : (List zae)
 At_ : Int
mutual
def zae.C : zae -> List V
 | ⟨a0, a1, a2, a3, a4, a5⟩ => [.lit (.string (bs a0)), .lit (.int .i64 a1), .lit (.int .u32 a2), .lit (.int .i64 a3), .list .none (zae.CL a4), .lit (.int .i64 a5)]
def zae.CL : List zae -> List (List V)
 | [] => []
 | x :: l => zae.C x :: zae.CL l
end
theorem zae.CL_eq (l : List zae) : zae.CL l = l.map zae.C := by
 induction l with
 | nil => rfl
 | cons x l ih => rw [zae.CL, ih]; rfl
@[go_sem] theorem zae.C_eq (x : zae) : zae.C x = [.lit (.string (bs x.Op_)), .lit (.int .i64 x.zbn), .lit (.int .u32 x.N_), .lit (.int .i64 x.Var_), .list .none (x.zav.map zae.C), .lit (.int .i64 x.At_)] := by
 cases x; simp only [zae.C, zae.CL_eq]
structure zag where
 Op_ : Str
 Var_ : Int
 zgb : Int
 zav : (List zae)
 zcY : (List zag)
 zhC : (List zag)
 At_ : Int
mutual
def zag.C : zag -> List V
 | ⟨a0, a1, a2, a3, a4, a5, a6⟩ => [.lit (.string (bs a0)), .lit (.int .i64 a1), .lit (.int .i64 a2), .list .none (a3.map zae.C), .list .none (zag.CL a4), .list .none (zag.CL a5), .lit (.int .i64 a6)]
def zag.CL : List zag -> List (List V)
 | [] => []
 | x :: l => zag.C x :: zag.CL l
end
theorem zag.CL_eq (l : List zag) : zag.CL l = l.map zag.C := by
 induction l with
 | nil => rfl
 | cons x l ih => rw [zag.CL, ih]; rfl
@[go_sem] theorem zag.C_eq (x : zag) : zag.C x = [.lit (.string (bs x.Op_)), .lit (.int .i64 x.Var_), .lit (.int .i64 x.zgb), .list .none (x.zav.map zae.C), .list .none (x.zcY.map zag.C), .list .none (x.zhC.map zag.C), .lit (.int .i64 x.At_)] := by
 cases x; simp only [zag.C, zag.CL_eq]
structure zaB where
 zfr : Str
 ze1 : Bool
 zbN : Int
 zbk : Int
 zbH : (List zas)
 zcY : (List zag)
def zaB.C (x : zaB) : List V := [.lit (.string (bs x.zfr)), .lit (.bool x.ze1), .lit (.int .i64 x.zbN), .lit (.int .i64 x.zbk), .list .none (x.zbH.map zas.C), .list .none (x.zcY.map zag.C)]
@[go_sem] theorem zaB.C_eq (x : zaB) : zaB.C x = [.lit (.string (bs x.zfr)), .lit (.bool x.ze1), .lit (.int .i64 x.zbN), .lit (.int .i64 x.zbk), .list .none (x.zbH.map zas.C), .list .none (x.zcY.map zag.C)] := _root_.id rfl
structure zbD where
 zaT : (List zaB)
def zbD.C (x : zbD) : List V := [.list .none (x.zaT.map zaB.C)]
@[go_sem] theorem zbD.C_eq (x : zbD) : zbD.C x = [.list .none (x.zaT.map zaB.C)] := _root_.id rfl
def zbD.Z : zbD := ⟨[]⟩
structure zaf where
 e_ : Int
 zif : Int
structure zad where
 p_ : zbD
 f_ : Int
 zaG : List Int
 zbi : List (List Int)
 at_ : Int
def zad.Z : zad := ⟨zbD.Z, -1, [], [], 0⟩
def ckC (F fp S C : V) (x : zad) (y : zaf) : List V := [F, fp, S, C, .lit (.int .i64 x.at_), .lit (.int .i64 y.e_), .lit (.int .i64 y.zif)]
@[go_sem] theorem ckC_eq {F fp S C : V} {x : zad} {y : zaf} : ckC F fp S C x y = [F, fp, S, C, .lit (.int .i64 x.at_), .lit (.int .i64 y.e_), .lit (.int .i64 y.zif)] := _root_.id rfl
def zbh : List Str := [[45, 62], [46, 46], [61, 61], [60, 60, 60], [60, 60], [62, 62], [60], [40], [41], [123], [125], [91], [93], [44], [59], [58], [61], [43], [45], [42], [47], [37], [38], [124], [94], [126]]
@[go_sem] theorem zmm : (cA cS zbh).length = 26 := by kernel_rfl
@[go_sem] theorem zlH : (cA cS zbh).take 26 = (cA cS zbh) := by kernel_rfl
def zaI : List Str := [[102, 110], [101, 120, 112, 111, 114, 116], [108, 101, 116], [118, 97, 114], [97, 114, 114], [105, 102], [101, 108, 115, 101], [102, 111, 114], [105, 110], [114, 101, 116, 117, 114, 110], [112, 117, 98], [117, 51, 50], [117, 54, 52]]
@[go_sem] theorem zlA : (cA cS zaI).length = 13 := by kernel_rfl
@[go_sem] theorem zkQ : ziG 1 13 (cA cS zaI) = zaI.map cS := _root_.id rfl
def za6 : List (List Str) := [[[124], [], []], [[94], [], []], [[38], [], []], [[61, 61], [60], []], [[60, 60], [62, 62], [60, 60, 60]], [[43], [45], []], [[42], [47], [37]]]
def zaR : List zat := [(zat.mk [115, 101, 108, 101, 99, 116] 3), (zat.mk [108, 111, 110, 103] 1), (zat.mk [108, 111] 1), (zat.mk [104, 105] 1), (zat.mk [119, 105, 100, 101] 2)]
@[go_sem] theorem zlB : (cA zat.C zaR).length = 10 := by kernel_rfl
@[go_sem] theorem zk9 : (cA zat.C zaR).take 10 = (cA zat.C zaR) := by kernel_rfl
@[go_sem] theorem zkt : (cA zat.C zaR).map V.shared = (cA zat.C zaR) := _root_.id rfl
def zhV (a0 : Int) : Option Bool :=
 (if (a0 == (32 : Int)) = true then
    some true
   else
    if (a0 == (9 : Int)) = true then
     some true
    else
     if (a0 == (13 : Int)) = true then
      some true
     else
      some (a0 == (10 : Int))).bind fun y1 =>
 some y1
def zbt (a0 : Str) (a1 : Str) : Option Bool :=
 (if (decide ((a1.length : Int) <= (a0.length : Int))) = true then
    need ((0 : Int) <= (a1.length : Int) /\ (a1.length : Int) <= (a0.length : Int)) <|
    some (decide ((a0.take (a1.length : Int).toNat) = a1))
   else
    some false).bind fun y1 =>
 some y1
def zdb (a0 : Str) (a1 : Str) : Option Bool :=
 (zbt a0 a1).bind fun x1 =>
 some x1
def zdx (a0 : Str) (a1 : Int) : Option Int := some (Lib.indexByte a0 a1.toNat.toUInt8)
def zcQ (a0 : Str) (a1 : Int) : Option Int :=
 (zdx a0 a1).bind fun x1 =>
 some x1
def zda (a0 : Str) (a1 : Int) : Option Int :=
 (zcQ a0 a1).bind fun x1 =>
 some x1
def zdv (a0 : Str) : Nat -> Int -> Option (Int ⊕ Int)
 | 0, _ => none
 | c4 + 1, v2 =>
   if (decide (v2 < (a0.length : Int))) = true then
    (idxL a0 v2).bind fun x9 =>
    (zhV (x9.toNat : Int)).bind fun x10 =>
    if x10 = true then
     zdv a0 c4 (IntKind.i64.wrap (v2 + (1 : Int)))
    else
     need ((0 : Int) <= v2 /\ v2 <= (a0.length : Int)) <|
     (zdb (a0.drop v2.toNat) ([47, 47] : Str)).bind fun x17 =>
     if x17 = true then
      need ((0 : Int) <= v2 /\ v2 <= (a0.length : Int)) <|
      (zda (a0.drop v2.toNat) (10 : Int)).bind fun x22 =>
      if (decide (x22 < (0 : Int))) = true then
       some (.inr (a0.length : Int))
      else
       zdv a0 c4 (IntKind.i64.wrap (v2 + x22))
     else
      some (.inr v2)
   else
    some (.inl v2)
def zfI (n : Nat) (a0 : Str) (a1 : Int) : Option Int :=
 (zdv a0 n a1).bind fun y3 =>
 y3.elim (fun y3a =>
  some y3a) (fun y3a =>
  some y3a)
def zfO (a0 : Int) : Option Bool :=
 (if (decide ((97 : Int) <= a0)) = true then
    if (decide (a0 <= (122 : Int))) = true then
     some true
    else
     some (a0 == (95 : Int))
   else
    some (a0 == (95 : Int))).bind fun y1 =>
 some y1
def zgQ (a0 : Int) : Option Bool :=
 (if (decide ((48 : Int) <= a0)) = true then
    some (decide (a0 <= (57 : Int)))
   else
    some false).bind fun y1 =>
 some y1
def zeG (a0 : Str) : Nat -> Int -> Option (Unit ⊕ Str)
 | 0, _ => none
 | c4 + 1, v2 =>
   if (decide (v2 < (a0.length : Int))) = true then
    ((idxL a0 v2).bind fun x10 =>
      (zfO (x10.toNat : Int)).bind fun x11 =>
      if (!x11) = true then
       (zgQ (x10.toNat : Int)).bind fun x18 =>
       some (!x18)
      else
       some false).bind fun y9 =>
    if y9 = true then
     need ((0 : Int) <= v2 /\ v2 <= (a0.length : Int)) <|
     some (.inr (a0.take v2.toNat))
    else
     zeG a0 c4 (IntKind.i64.wrap (v2 + (1 : Int)))
   else
    some (.inl ())
def zh6 (n : Nat) (a0 : Str) : Option Str :=
 (zeG a0 n (0 : Int)).bind fun y3 =>
 y3.elim (fun y3a =>
  some a0) (fun y3a =>
  some y3a)
def zb1 (a0 : Str) (a1 : Str) : Option (Str × Bool) :=
 (zbt a0 a1).bind fun x1 =>
 if (!x1) = true then
  some (a0, false)
 else
  need ((0 : Int) <= (a1.length : Int) /\ (a1.length : Int) <= (a0.length : Int)) <|
  some ((a0.drop (a1.length : Int).toNat), true)
def zdC (a0 : Str) (a1 : Str) : Option (Str × Bool) :=
 (zb1 a0 a1).bind fun x1 =>
 some (x1.1, x1.2)
def zep (x1 : (Str × Bool)) : Nat -> Int -> Int -> Option (Int ⊕ (Int × Bool))
 | 0, _, _ => none
 | c8 + 1, v5, v6 =>
   if (decide (v6 < (x1.1.length : Int))) = true then
    need ((0 : Int) <= (16 : Int) /\ (16 : Int) <= (([48, 49, 50, 51, 52, 53, 54, 55, 56, 57, 97, 98, 99, 100, 101, 102] : Str).length : Int)) <|
    (idxL x1.1 v6).bind fun x13 =>
    (zda (([48, 49, 50, 51, 52, 53, 54, 55, 56, 57, 97, 98, 99, 100, 101, 102] : Str).take (16 : Int).toNat) (x13.toNat : Int)).bind fun x14 =>
    (if (decide (x14 < (0 : Int))) = true then
       some true
      else
       some (decide ((4294967295 : Int) < (IntKind.i64.wrap ((IntKind.i64.wrap (v5 * (16 : Int))) + x14))))).bind fun y22 =>
    if y22 = true then
     some (.inr ((0 : Int), false))
    else
     zep x1 c8 (IntKind.i64.wrap ((IntKind.i64.wrap (v5 * (16 : Int))) + x14)) (IntKind.i64.wrap (v6 + (1 : Int)))
   else
    some (.inl v5)
def zdo (a0 : Str) : Nat -> Int -> Int -> Option (Int ⊕ (Int × Bool))
 | 0, _, _ => none
 | c32 + 1, v29, v30 =>
   if (decide (v30 < (a0.length : Int))) = true then
    need ((0 : Int) <= (10 : Int) /\ (10 : Int) <= (([48, 49, 50, 51, 52, 53, 54, 55, 56, 57, 97, 98, 99, 100, 101, 102] : Str).length : Int)) <|
    (idxL a0 v30).bind fun x37 =>
    (zda (([48, 49, 50, 51, 52, 53, 54, 55, 56, 57, 97, 98, 99, 100, 101, 102] : Str).take (10 : Int).toNat) (x37.toNat : Int)).bind fun x38 =>
    (if (decide (x38 < (0 : Int))) = true then
       some true
      else
       some (decide ((4294967295 : Int) < (IntKind.i64.wrap ((IntKind.i64.wrap (v29 * (10 : Int))) + x38))))).bind fun y46 =>
    if y46 = true then
     some (.inr ((0 : Int), false))
    else
     zdo a0 c32 (IntKind.i64.wrap ((IntKind.i64.wrap (v29 * (10 : Int))) + x38)) (IntKind.i64.wrap (v30 + (1 : Int)))
   else
    some (.inl v29)
def zfX (n : Nat) (a0 : Str) : Option (Int × Bool) :=
 (zdC a0 ([48, 120] : Str)).bind fun x1 =>
 if x1.2 = true then
  (zep x1 n (0 : Int) (0 : Int)).bind fun y7 =>
  y7.elim (fun y7a =>
   some ((IntKind.u32.wrap y7a), (decide (x1.1 ≠ ([] : Str))))) (fun y7a =>
   some y7a)
 else
  (zdo a0 n (0 : Int) (0 : Int)).bind fun y31 =>
  y31.elim (fun y31a =>
   some ((IntKind.u32.wrap y31a), (decide (a0 ≠ ([] : Str))))) (fun y31a =>
   some y31a)
def zeH (a0 : Str) : Nat -> Int -> Option (Unit ⊕ Str)
 | 0, _ => none
 | c4 + 1, v2 =>
   if (decide (v2 < (26 : Int))) = true then
    (idxL zbh v2).bind fun x9 =>
    (zdb a0 x9).bind fun x17 =>
    if x17 = true then
     some (.inr x9)
    else
     zeH a0 c4 (IntKind.i64.wrap (v2 + (1 : Int)))
   else
    some (.inl ())
def ziE (n : Nat) (a0 : Str) : Option Str :=
 (zeH a0 n (0 : Int)).bind fun y3 =>
 y3.elim (fun y3a =>
  some ([] : Str)) (fun y3a =>
  some y3a)
def zfj (n : Nat) (a0 : Str) (a1 : Int) : Option (za2 × Int) :=
 need ((0 : Int) <= a1 /\ a1 <= (a0.length : Int)) <|
 (zh6 n (a0.drop a1.toNat)).bind fun x2 =>
 (idxL a0 a1).bind fun x7 =>
 (zfO (x7.toNat : Int)).bind fun x8 =>
 if x8 = true then
  if (decide ((32 : Int) < (x2.length : Int))) = true then
   some ((za2.mk (0 : Int) (0 : Int) [] (0 : Int)), (102 : Int))
  else
   some ((za2.mk (1 : Int) a1 x2 (0 : Int)), (0 : Int))
 else
  (zgQ (x7.toNat : Int)).bind fun x16 =>
  if x16 = true then
   (zfX n x2).bind fun x19 =>
   if (!x19.2) = true then
    some ((za2.mk (0 : Int) (0 : Int) [] (0 : Int)), (101 : Int))
   else
    some ((za2.mk (2 : Int) a1 x2 x19.1), (0 : Int))
  else
   need ((0 : Int) <= a1 /\ a1 <= (a0.length : Int)) <|
   (ziE n (a0.drop a1.toNat)).bind fun x22 =>
   if (decide (x22 = ([] : Str))) = true then
    some ((za2.mk (0 : Int) (0 : Int) [] (0 : Int)), (100 : Int))
   else
    some ((za2.mk (3 : Int) a1 x22 (0 : Int)), (0 : Int))
def zcJ (n : Nat) (a0 : Str) : Nat -> (List za2) -> Int -> Option ((List za2) ⊕ ((List za2) × Int × Int))
 | 0, _, _ => none
 | c8 + 1, v5, v6 =>
   if (decide (v6 < (a0.length : Int))) = true then
    (zfj n a0 v6).bind fun x13 =>
    if (x13.2 != (0 : Int)) = true then
     some (.inr ([], x13.2, v6))
    else
     need (v5.length + [x13.1].length <= 1073741824) <|
     (zfI n a0 (IntKind.i64.wrap (v6 + (x13.1.za0.length : Int)))).bind fun x20 =>
     zcJ n a0 c8 (v5 ++ [x13.1]) x20
   else
    some (.inl v5)
def zfN (n : Nat) (a0 : Str) : Option ((List za2) × Int × Int) :=
 if (decide ((65536 : Int) < (a0.length : Int))) = true then
  some ([], (161 : Int), (0 : Int))
 else
  (zfI n a0 (0 : Int)).bind fun x2 =>
  (zcJ n a0 n [] x2).bind fun y7 =>
  y7.elim (fun y7a =>
   need (y7a.length + [(za2.mk (4 : Int) (a0.length : Int) [] (0 : Int))].length <= 1073741824) <|
   some ((y7a ++ [(za2.mk (4 : Int) (a0.length : Int) [] (0 : Int))]), (0 : Int), (0 : Int))) (fun y7a =>
   some y7a)
def zbu (a0 : zab) : Option za2 :=
 (idxL a0.l_ a0.at_).bind fun x2 =>
 some x2
def zb9 (a0 : zab) (a1 : Int) : Option zab :=
 if (a0.e_ == (0 : Int)) = true then
  (zbu a0).bind fun x2 =>
  some ({ a0 with e_ := a1, zif := x2.At_ } : zab)
 else
  some a0
def zbp (a0 : zab) (a1 : Int) : Option (zaa × zab) :=
 if (decide ((16384 : Int) < (IntKind.i64.wrap (a0.zgc + (1 : Int))))) = true then
  (zb9 ({ a0 with zgc := (IntKind.i64.wrap (a0.zgc + (1 : Int))) } : zab) (136 : Int)).bind fun x3 =>
  (zbu x3).bind fun x5 =>
  some ((zaa.mk a1 x5.At_ [] (0 : Int) []), x3)
 else
  (zbu ({ a0 with zgc := (IntKind.i64.wrap (a0.zgc + (1 : Int))) } : zab)).bind fun x7 =>
  some ((zaa.mk a1 x7.At_ [] (0 : Int) []), ({ a0 with zgc := (IntKind.i64.wrap (a0.zgc + (1 : Int))) } : zab))
def zbL (a0 : (List Str)) (a1 : Str) : Nat -> Int -> Option (Unit ⊕ Int)
 | 0, _ => none
 | c4 + 1, v2 =>
   if (decide (v2 < (a0.length : Int))) = true then
    (idxL a0 v2).bind fun x9 =>
    if (decide (a1 = x9)) = true then
     some (.inr v2)
    else
     zbL a0 a1 c4 (IntKind.i64.wrap (v2 + (1 : Int)))
   else
    some (.inl ())
def zc6 (n : Nat) (a0 : (List Str)) (a1 : Str) : Option Int :=
 (zbL a0 a1 n (0 : Int)).bind fun y3 =>
 y3.elim (fun y3a =>
  some (-1 : Int)) (fun y3a =>
  some y3a)
def zcD (n : Nat) (a0 : (List Str)) (a1 : Str) : Option Bool :=
 (zc6 n a0 a1).bind fun x1 =>
 some (decide ((0 : Int) <= x1))
def zh5 (n : Nat) (a0 : Str) : Option Bool :=
 (zcD n zaI a0).bind fun x1 =>
 some x1
def zcE (n : Nat) (a0 : zab) (a1 : Str) : Option Bool :=
 (zbu a0).bind fun x1 =>
 (if (a0.e_ == (0 : Int)) = true then
    if (decide (x1.za0 = a1)) = true then
     if (x1.zba == (3 : Int)) = true then
      some true
     else
      if (x1.zba == (1 : Int)) = true then
       (zh5 n a1).bind fun x9 =>
       some x9
      else
       some false
    else
     some false
   else
    some false).bind fun y4 =>
 some y4
def zaD (n : Nat) (a0 : zab) (a1 : Str) : Option (Bool × zab) :=
 (zcE n a0 a1).bind fun x1 =>
 if (!x1) = true then
  some (false, a0)
 else
  some (true, ({ a0 with at_ := (IntKind.i64.wrap (a0.at_ + (1 : Int))) } : zab))
def zay (n : Nat) (a0 : zab) (a1 : Str) : Option zab :=
 (zaD n a0 a1).bind fun x1 =>
 if (!x1.1) = true then
  (zb9 x1.2 (110 : Int)).bind fun x4 =>
  some x4
 else
  some x1.2
def zbF (n : Nat) (a0 : zab) : Option (Str × zab) :=
 (zbu a0).bind fun x1 =>
 (if (a0.e_ != (0 : Int)) = true then
    some true
   else
    if (x1.zba != (1 : Int)) = true then
     some true
    else
     (zh5 n x1.za0).bind fun x7 =>
     some x7).bind fun y4 =>
 if y4 = true then
  (zb9 a0 (110 : Int)).bind fun x13 =>
  some (([] : Str), x13)
 else
  some (x1.za0, ({ a0 with at_ := (IntKind.i64.wrap (a0.at_ + (1 : Int))) } : zab))
def zdm (a0 : zab) : Option (Int × zab) :=
 (zbu a0).bind fun x1 =>
 (if (a0.e_ != (0 : Int)) = true then
    some true
   else
    some (x1.zba != (2 : Int))).bind fun y4 =>
 if y4 = true then
  (zb9 a0 (110 : Int)).bind fun x10 =>
  some ((0 : Int), x10)
 else
  some (x1.Num_, ({ a0 with at_ := (IntKind.i64.wrap (a0.at_ + (1 : Int))) } : zab))
def zdM (n : Nat) (a0 : zab) : Option (Int × zab) :=
 (zay n a0 ([91] : Str)).bind fun x1 =>
 (zdm x1).bind fun x3 =>
 (zay n x3.2 ([93] : Str)).bind fun x5 =>
 some (x3.1, x5)
def zeT : List Str := [([112, 117, 98] : Str), ([117, 51, 50] : Str), ([117, 54, 52] : Str)]
def zcj (n : Nat) : Nat -> Int -> zab -> zaa -> zaa -> Option ((zab × zaa × zaa) ⊕ (zaa × zab))
 | 0, _, _, _, _ => none
 | c15 + 1, v10, v11, v12, v13 =>
   if (decide (v10 < (3 : Int))) = true then
    (idxL zeT v10).bind fun x20 =>
    (zaD n v11 x20).bind fun x29 =>
    if x29.1 = true then
     some (.inr (({ v13 with Num_ := (IntKind.u32.wrap (IntKind.i64.wrap ((1 : Int) + v10))) } : zaa), x29.2))
    else
     zcj n c15 (IntKind.i64.wrap (v10 + (1 : Int))) x29.2 v12 v13
   else
    some (.inl (v11, v12, v13))
def zey (n : Nat) (a0 : zab) : Option (zaa × zab) :=
 (zbp a0 (3 : Int)).bind fun x2 =>
 (zbF n x2.2).bind fun x5 =>
 (zay n x5.2 ([58] : Str)).bind fun x7 =>
 (zcj n n (0 : Int) x7 (zaa.mk (0 : Int) (0 : Int) [] (0 : Int) []) ({ x2.1 with za0 := x5.1 } : zaa)).bind fun y14 =>
 y14.elim (fun y14a =>
  (zbp y14a.1 (14 : Int)).bind fun x37 =>
  (zdM n x37.2).bind fun x40 =>
  some (({ y14a.2.2 with Num_ := (4 : Int), zav := [({ x37.1 with Num_ := x40.1 } : zaa)] } : zaa), x40.2)) (fun y14a =>
  some y14a)
def zbO (n : Nat) : Nat -> (List zaa) -> zab -> Option ((List zaa) × zab)
 | 0, _, _ => none
 | c11 + 1, v8, v9 =>
   if (v9.e_ == (0 : Int)) = true then
    (zey n v9).bind fun x16 =>
    need (v8.length + [x16.1].length <= 1073741824) <|
    (zaD n x16.2 ([44] : Str)).bind fun x21 =>
    if (!x21.1) = true then
     some ((v8 ++ [x16.1]), x21.2)
    else
     zbO n c11 (v8 ++ [x16.1]) x21.2
   else
    some (v8, v9)
def zcv (n : Nat) (a0 : zab) : Option ((List zaa) × zab) :=
 (zay n a0 ([40] : Str)).bind fun x1 =>
 (zaD n x1 ([41] : Str)).bind fun x3 =>
 if x3.1 = true then
  some ([], x3.2)
 else
  ((zbO n n [] x3.2).bind fun y10 =>
    some (y10.1, y10.2)).bind fun y6 =>
  (zay n y6.2 ([41] : Str)).bind fun x27 =>
  some (y6.1, x27)
def zdP (a0 : zab) (a1 : Int) : Option zab :=
 if (decide ((64 : Int) < a1)) = true then
  (zb9 a0 (111 : Int)).bind fun x2 =>
  some x2
 else
  some a0
def zcx (n : Nat) (x1 : (List Str)) (a0 : zab) : Nat -> Int -> Option (Unit ⊕ Str)
 | 0, _ => none
 | c15 + 1, v13 =>
   if (decide (v13 < (3 : Int))) = true then
    (idxL x1 v13).bind fun x20 =>
    (if (decide (x20 ≠ ([] : Str))) = true then
       (zcE n a0 x20).bind fun x31 =>
       some x31
      else
       some false).bind fun y29 =>
    if y29 = true then
     some (.inr x20)
    else
     zcx n x1 a0 c15 (IntKind.i64.wrap (v13 + (1 : Int)))
   else
    some (.inl ())
def zdN (n : Nat) (a0 : zab) (a1 : Int) : Option Str :=
 (idxL za6 a1).bind fun x1 =>
 (zcx n x1 a0 n (0 : Int)).bind fun y14 =>
 y14.elim (fun y14a =>
  some ([] : Str)) (fun y14a =>
  some y14a)
def zbB (zbg : zab -> Int -> Option (zaa × zab)) (n : Nat) (a1 : Int) : Nat -> (List zaa) -> zab -> Option ((List zaa) × zab)
 | 0, _, _ => none
 | c11 + 1, v8, v9 =>
   if (v9.e_ == (0 : Int)) = true then
    (zbg v9 a1).bind fun x16 =>
    need (v8.length + [x16.1].length <= 1073741824) <|
    (zaD n x16.2 ([44] : Str)).bind fun x21 =>
    if (!x21.1) = true then
     some ((v8 ++ [x16.1]), x21.2)
    else
     zbB zbg n a1 c11 (v8 ++ [x16.1]) x21.2
   else
    some (v8, v9)
def zcs (zbg : zab -> Int -> Option (zaa × zab)) (n : Nat) (a0 : zab) (a1 : Int) : Option ((List zaa) × zab) :=
 (zay n a0 ([40] : Str)).bind fun x1 =>
 (zaD n x1 ([41] : Str)).bind fun x3 =>
 if x3.1 = true then
  some ([], x3.2)
 else
  ((zbB zbg n a1 n [] x3.2).bind fun y10 =>
    some (y10.1, y10.2)).bind fun y6 =>
  (zay n y6.2 ([41] : Str)).bind fun x27 =>
  some (y6.1, x27)
def zej (zaV : zab -> Int -> Int -> Option (zaa × zab)) (n : Nat) (a0 : zab) (a1 : Int) : Option (zaa × zab) :=
 (zaV a0 (0 : Int) a1).bind fun x2 =>
 some (x2.1, x2.2)
def zck (zaV : zab -> Int -> Int -> Option (zaa × zab)) (n : Nat) (a1 : Int) (a2 : Int) : Nat -> Str -> zab -> zaa -> Option (zab × zaa)
 | 0, _, _, _ => none
 | c15 + 1, v11, v12, v13 =>
   if (decide (v11 ≠ ([] : Str))) = true then
    (zbp v12 (19 : Int)).bind fun x20 =>
    (zay n x20.2 v11).bind fun x23 =>
    (zaV x23 (IntKind.i64.wrap (a1 + (1 : Int))) a2).bind fun x25 =>
    if (a1 == (3 : Int)) = true then
     some (x25.2, ({ x20.1 with za0 := v11, zav := [v13, x25.1] } : zaa))
    else
     (zdN n x25.2 a1).bind fun x28 =>
     zck zaV n a1 a2 c15 x28 x25.2 ({ x20.1 with za0 := v11, zav := [v13, x25.1] } : zaa)
   else
    some (v12, v13)
def zd3 (zaS : zab -> Int -> Option (zaa × zab)) (zaV : zab -> Int -> Int -> Option (zaa × zab)) (n : Nat) (a0 : zab) (a1 : Int) (a2 : Int) : Option (zaa × zab) :=
 if (a1 == (7 : Int)) = true then
  (zaS a0 a2).bind fun x3 =>
  some (x3.1, x3.2)
 else
  (zaV a0 (IntKind.i64.wrap (a1 + (1 : Int))) a2).bind fun x5 =>
  (zdN n x5.2 a1).bind fun x8 =>
  (zck zaV n a1 a2 n x8 x5.2 x5.1).bind fun y14 =>
  some (y14.2, y14.1)
def zeB : List Str := [([126] : Str), ([45] : Str)]
def zb5 (zaS : zab -> Int -> Option (zaa × zab)) (n : Nat) (a1 : Int) : Nat -> Int -> zab -> zaa -> zaa -> Option ((zab × zaa × zaa) ⊕ (zaa × zab))
 | 0, _, _, _, _ => none
 | c23 + 1, v18, v19, v20, v21 =>
   if (decide (v18 < (2 : Int))) = true then
    (idxL zeB v18).bind fun x28 =>
    (zaD n v19 x28).bind fun x37 =>
    if x37.1 = true then
     (zaS x37.2 (IntKind.i64.wrap (a1 + (1 : Int)))).bind fun x40 =>
     some (.inr (({ v20 with zba := (18 : Int), za0 := x28, zav := [x40.1] } : zaa), x40.2))
    else
     zb5 zaS n a1 c23 (IntKind.i64.wrap (v18 + (1 : Int))) x37.2 v20 v21
   else
    some (.inl (v19, v20, v21))
def zdE (zbj : zab -> Int -> Option (zaa × zab)) (zaS : zab -> Int -> Option (zaa × zab)) (zbQ : zab -> Int -> Option ((List zaa) × zab)) (n : Nat) (a0 : zab) (a1 : Int) : Option (zaa × zab) :=
 (zdP a0 a1).bind fun x4 =>
 (zaD n x4 ([40] : Str)).bind fun x6 =>
 if x6.1 = true then
  (zbj x6.2 (IntKind.i64.wrap (a1 + (1 : Int)))).bind fun x9 =>
  (zay n x9.2 ([41] : Str)).bind fun x12 =>
  some (x9.1, x12)
 else
  (zbp x6.2 (15 : Int)).bind fun x14 =>
  (zb5 zaS n a1 n (0 : Int) x14.2 x14.1 (zaa.mk (0 : Int) (0 : Int) [] (0 : Int) [])).bind fun y22 =>
  y22.elim (fun y22a =>
   (if (y22a.1.e_ == (0 : Int)) = true then
      (zbu y22a.1).bind fun x72 =>
      some (x72.zba == (2 : Int))
     else
      some false).bind fun y70 =>
   if y70 = true then
    (zdm y22a.1).bind fun x78 =>
    some (({ y22a.2.1 with zba := (14 : Int), Num_ := x78.1 } : zaa), x78.2)
   else
    (zbF n y22a.1).bind fun x80 =>
    ((zcE n x80.2 ([40] : Str)).bind fun x83 =>
      if x83 = true then
       (zbQ x80.2 a1).bind fun x86 =>
       some (x86.2, ({ y22a.2.1 with zba := (17 : Int), za0 := x80.1, zav := x86.1 } : zaa))
      else
       (zaD n x80.2 ([91] : Str)).bind fun x88 =>
       if x88.1 = true then
        (zbj x88.2 (IntKind.i64.wrap (a1 + (1 : Int)))).bind fun x91 =>
        (zay n x91.2 ([93] : Str)).bind fun x93 =>
        some (x93, ({ y22a.2.1 with zba := (16 : Int), za0 := x80.1, zav := [x91.1] } : zaa))
       else
        some (x88.2, ({ y22a.2.1 with za0 := x80.1 } : zaa))).bind fun y82 =>
    some (y82.2, y82.1)) (fun y22a =>
   some y22a)
def zdk (zbj : zab -> Int -> Option (zaa × zab)) (n : Nat) (a0 : zab) (a1 : Int) : Option (zaa × zab) :=
 (zbj a0 (IntKind.i64.wrap (a1 + (1 : Int)))).bind fun x2 =>
 some (x2.1, x2.2)
def zaC : Nat -> (zab -> Int -> Option ((List zaa) × zab)) × (zab -> Int -> Option (zaa × zab)) × (zab -> Int -> Int -> Option (zaa × zab)) × (zab -> Int -> Option (zaa × zab)) × (zab -> Int -> Option (zaa × zab))
 | 0 => (fun _ _ => none, fun _ _ => none, fun _ _ _ => none, fun _ _ => none, fun _ _ => none)
 | n + 1 => (zcs (zaC n).2.2.2.2 n, zej (zaC n).2.2.1 n, zd3 (zaC n).2.2.2.1 (zaC n).2.2.1 n, zdE (zaC n).2.1 (zaC n).2.2.2.1 (zaC n).1 n, zdk (zaC n).2.1 n)
def zfn (n : Nat) : zab -> Int -> Option ((List zaa) × zab) := (zaC n).1
def zbq (n : Nat) : zab -> Int -> Option (zaa × zab) := (zaC n).2.1
def zia (n : Nat) : zab -> Int -> Int -> Option (zaa × zab) := (zaC n).2.2.1
def zhm (n : Nat) : zab -> Int -> Option (zaa × zab) := (zaC n).2.2.2.1
def zgC (n : Nat) : zab -> Int -> Option (zaa × zab) := (zaC n).2.2.2.2
def zdy (n : Nat) (a0 : zab) (a1 : zaa) (a2 : Int) : Option (zaa × zab) :=
 (zbF n a0).bind fun x3 =>
 (zay n x3.2 ([61] : Str)).bind fun x5 =>
 (zbq n x5 a2).bind fun x7 =>
 (zay n x7.2 ([59] : Str)).bind fun x9 =>
 some (({ a1 with za0 := x3.1, zav := [x7.1] } : zaa), x9)
def zd2 (n : Nat) (a0 : zab) (a1 : Int) : Option (zaa × zab) :=
 (zbq n a0 (IntKind.i64.wrap (a1 + (2 : Int)))).bind fun x2 =>
 some (x2.1, x2.2)
def zbM (n : Nat) (a1 : Int) : Nat -> (List zaa) -> zab -> Option ((List zaa) × zab)
 | 0, _, _ => none
 | c11 + 1, v8, v9 =>
   if (v9.e_ == (0 : Int)) = true then
    (zd2 n v9 a1).bind fun x16 =>
    need (v8.length + [x16.1].length <= 1073741824) <|
    (zaD n x16.2 ([44] : Str)).bind fun x21 =>
    if (!x21.1) = true then
     some ((v8 ++ [x16.1]), x21.2)
    else
     zbM n a1 c11 (v8 ++ [x16.1]) x21.2
   else
    some (v8, v9)
def zc8 (n : Nat) (a0 : zab) (a1 : Int) : Option ((List zaa) × zab) :=
 (zay n a0 ([40] : Str)).bind fun x1 =>
 (zaD n x1 ([41] : Str)).bind fun x3 =>
 if x3.1 = true then
  some ([], x3.2)
 else
  ((zbM n a1 n [] x3.2).bind fun y10 =>
    some (y10.1, y10.2)).bind fun y6 =>
  (zay n y6.2 ([41] : Str)).bind fun x27 =>
  some (y6.1, x27)
def zex (n : Nat) (a0 : zab) (a1 : zaa) (a2 : Int) : Option (zaa × zab) :=
 (zbF n a0).bind fun x5 =>
 ((zcE n x5.2 ([40] : Str)).bind fun x8 =>
   if x8 = true then
    (zc8 n x5.2 a2).bind fun x11 =>
    some (x11.2, ({ a1 with zba := (10 : Int), za0 := x5.1, zav := x11.1 } : zaa))
   else
    (zaD n x5.2 ([91] : Str)).bind fun x13 =>
    if x13.1 = true then
     (zbq n x13.2 (IntKind.i64.wrap (a2 + (2 : Int)))).bind fun x16 =>
     (zay n x16.2 ([93] : Str)).bind fun x18 =>
     (zay n x18 ([61] : Str)).bind fun x20 =>
     (zbq n x20 (IntKind.i64.wrap (a2 + (1 : Int)))).bind fun x22 =>
     need ([x16.1].length + [x22.1].length <= 1073741824) <|
     some (x22.2, ({ a1 with zba := (9 : Int), za0 := x5.1, zav := ([x16.1] ++ [x22.1]) } : zaa))
    else
     (zay n x13.2 ([61] : Str)).bind fun x25 =>
     (zbq n x25 (IntKind.i64.wrap (a2 + (1 : Int)))).bind fun x27 =>
     some (x27.2, ({ a1 with za0 := x5.1, zav := [x27.1] } : zaa))).bind fun y7 =>
 (zay n y7.1 ([59] : Str)).bind fun x32 =>
 some (y7.2, x32)
def zcl (zbf : zab -> Int -> Option (zaa × zab)) (n : Nat) (a1 : Int) : Nat -> zab -> zaa -> Option (zab × zaa)
 | 0, _, _ => none
 | c13 + 1, v10, v11 =>
   (if (v10.e_ == (0 : Int)) = true then
      (zcE n v10 ([125] : Str)).bind fun x19 =>
      some (!x19)
     else
      some false).bind fun y17 =>
   if y17 = true then
    (zbf v10 a1).bind fun x25 =>
    need (v11.zav.length + [x25.1].length <= 1073741824) <|
    zcl zbf n a1 c13 x25.2 ({ v11 with zav := (v11.zav ++ [x25.1]) } : zaa)
   else
    some (v10, v11)
def zd4 (zbf : zab -> Int -> Option (zaa × zab)) (n : Nat) (a0 : zab) (a1 : Int) : Option (zaa × zab) :=
 (zdP a0 a1).bind fun x2 =>
 (zbp x2 (4 : Int)).bind fun x4 =>
 (zay n x4.2 ([123] : Str)).bind fun x7 =>
 (zcl zbf n a1 n x7 x4.1).bind fun y12 =>
 (zay n y12.1 ([125] : Str)).bind fun x32 =>
 some (y12.2, x32)
def zdi (zcG : zab -> zaa -> Int -> Option (zaa × zab)) (zc7 : zab -> zaa -> Int -> Option (zaa × zab)) (n : Nat) (a0 : zab) (a1 : Int) : Option (zaa × zab) :=
 (zbp a0 (8 : Int)).bind fun x2 =>
 ((zaD n x2.2 ([108, 101, 116] : Str)).bind fun x6 =>
   if x6.1 = true then
    (zdy n x6.2 ({ x2.1 with zba := (5 : Int) } : zaa) (IntKind.i64.wrap (a1 + (1 : Int)))).bind fun x9 =>
    some (.inr (x9.1, x9.2))
   else
    (zaD n x6.2 ([118, 97, 114] : Str)).bind fun x11 =>
    if x11.1 = true then
     (zdy n x11.2 ({ x2.1 with zba := (6 : Int) } : zaa) (IntKind.i64.wrap (a1 + (1 : Int)))).bind fun x14 =>
     some (.inr (x14.1, x14.2))
    else
     (zaD n x11.2 ([97, 114, 114] : Str)).bind fun x16 =>
     if x16.1 = true then
      (zbF n x16.2).bind fun x19 =>
      (zdM n x19.2).bind fun x21 =>
      some (.inl (x21.2, ({ x2.1 with zba := (7 : Int), za0 := x19.1, Num_ := x21.1 } : zaa)))
     else
      (zaD n x16.2 ([114, 101, 116, 117, 114, 110] : Str)).bind fun x23 =>
      if x23.1 = true then
       (zbq n x23.2 (IntKind.i64.wrap (a1 + (1 : Int)))).bind fun x26 =>
       some (.inl (x26.2, ({ x2.1 with zba := (13 : Int), zav := [x26.1] } : zaa)))
      else
       (zaD n x23.2 ([105, 102] : Str)).bind fun x28 =>
       if x28.1 = true then
        (zcG x28.2 x2.1 a1).bind fun x31 =>
        some (.inr (x31.1, x31.2))
       else
        (zaD n x28.2 ([102, 111, 114] : Str)).bind fun x33 =>
        if x33.1 = true then
         (zc7 x33.2 x2.1 a1).bind fun x36 =>
         some (.inr (x36.1, x36.2))
        else
         (zex n x33.2 x2.1 a1).bind fun x38 =>
         some (.inr (x38.1, x38.2)) : Option ((zab × zaa) ⊕ (zaa × zab))).bind fun y5 =>
 y5.elim (fun y5a =>
  (zay n y5a.1 ([59] : Str)).bind fun x43 =>
  some (y5a.2, x43)) (fun y5a =>
  some y5a)
def zdQ (zbd : zab -> Int -> Option (zaa × zab)) (n : Nat) (a0 : zab) (a1 : zaa) (a2 : Int) : Option (zaa × zab) :=
 (zbq n a0 (IntKind.i64.wrap (a2 + (1 : Int)))).bind fun x3 =>
 (zbd x3.2 (IntKind.i64.wrap (a2 + (1 : Int)))).bind fun x5 =>
 need ([x3.1].length + [x5.1].length <= 1073741824) <|
 (zaD n x5.2 ([101, 108, 115, 101] : Str)).bind fun x8 =>
 if x8.1 = true then
  (zbd x8.2 (IntKind.i64.wrap (a2 + (1 : Int)))).bind fun x11 =>
  need (([x3.1] ++ [x5.1]).length + [x11.1].length <= 1073741824) <|
  some (({ a1 with zba := (11 : Int), zav := (([x3.1] ++ [x5.1]) ++ [x11.1]) } : zaa), x11.2)
 else
  some (({ a1 with zba := (11 : Int), zav := ([x3.1] ++ [x5.1]) } : zaa), x8.2)
def zeh (zbd : zab -> Int -> Option (zaa × zab)) (n : Nat) (a0 : zab) (a1 : zaa) (a2 : Int) : Option (zaa × zab) :=
 (zbF n a0).bind fun x3 =>
 (zay n x3.2 ([105, 110] : Str)).bind fun x5 =>
 (zbq n x5 (IntKind.i64.wrap (a2 + (1 : Int)))).bind fun x7 =>
 (zay n x7.2 ([46, 46] : Str)).bind fun x9 =>
 (zbq n x9 (IntKind.i64.wrap (a2 + (1 : Int)))).bind fun x11 =>
 need ([x7.1].length + [x11.1].length <= 1073741824) <|
 (zbd x11.2 (IntKind.i64.wrap (a2 + (1 : Int)))).bind fun x14 =>
 need (([x7.1] ++ [x11.1]).length + [x14.1].length <= 1073741824) <|
 some (({ a1 with zba := (12 : Int), za0 := x3.1, zav := (([x7.1] ++ [x11.1]) ++ [x14.1]) } : zaa), x14.2)
def zbl : Nat -> (zab -> Int -> Option (zaa × zab)) × (zab -> Int -> Option (zaa × zab)) × (zab -> zaa -> Int -> Option (zaa × zab)) × (zab -> zaa -> Int -> Option (zaa × zab))
 | 0 => (fun _ _ => none, fun _ _ => none, fun _ _ _ => none, fun _ _ _ => none)
 | n + 1 => (zd4 (zbl n).2.1 n, zdi (zbl n).2.2.1 (zbl n).2.2.2 n, zdQ (zbl n).1 n, zeh (zbl n).1 n)
def zbS (n : Nat) : zab -> Int -> Option (zaa × zab) := (zbl n).1
def zgA (n : Nat) : zab -> Int -> Option (zaa × zab) := (zbl n).2.1
def zhR (n : Nat) : zab -> zaa -> Int -> Option (zaa × zab) := (zbl n).2.2.1
def ziq (n : Nat) : zab -> zaa -> Int -> Option (zaa × zab) := (zbl n).2.2.2
def zdO (n : Nat) (a0 : zab) : Option (zaa × zab) :=
 (zbp a0 (2 : Int)).bind fun x2 =>
 (zaD n x2.2 ([101, 120, 112, 111, 114, 116] : Str)).bind fun x5 =>
 if x5.1 = true then
  (zay n x5.2 ([102, 110] : Str)).bind fun x8 =>
  (zbF n x8).bind fun x10 =>
  (zcv n x10.2).bind fun x12 =>
  (zaD n x12.2 ([45, 62] : Str)).bind fun x14 =>
  if x14.1 = true then
   (zaD n x14.2 ([117, 51, 50] : Str)).bind fun x17 =>
   if x17.1 = true then
    (zbS n x17.2 (1 : Int)).bind fun x20 =>
    need (x12.1.length + [x20.1].length <= 1073741824) <|
    some (({ x2.1 with za0 := x10.1, Num_ := (orK .u32 (1 : Int) (2 : Int)), zav := (x12.1 ++ [x20.1]) } : zaa), x20.2)
   else
    (zay n x17.2 ([117, 54, 52] : Str)).bind fun x25 =>
    (zbS n x25 (1 : Int)).bind fun x27 =>
    need (x12.1.length + [x27.1].length <= 1073741824) <|
    some (({ x2.1 with za0 := x10.1, Num_ := (orK .u32 (1 : Int) (4 : Int)), zav := (x12.1 ++ [x27.1]) } : zaa), x27.2)
  else
   (zbS n x14.2 (1 : Int)).bind fun x32 =>
   need (x12.1.length + [x32.1].length <= 1073741824) <|
   some (({ x2.1 with za0 := x10.1, Num_ := (1 : Int), zav := (x12.1 ++ [x32.1]) } : zaa), x32.2)
 else
  (zay n x5.2 ([102, 110] : Str)).bind fun x37 =>
  (zbF n x37).bind fun x39 =>
  (zcv n x39.2).bind fun x41 =>
  (zaD n x41.2 ([45, 62] : Str)).bind fun x43 =>
  if x43.1 = true then
   (zaD n x43.2 ([117, 51, 50] : Str)).bind fun x46 =>
   if x46.1 = true then
    (zbS n x46.2 (1 : Int)).bind fun x49 =>
    need (x41.1.length + [x49.1].length <= 1073741824) <|
    some (({ x2.1 with za0 := x39.1, Num_ := (orK .u32 x2.1.Num_ (2 : Int)), zav := (x41.1 ++ [x49.1]) } : zaa), x49.2)
   else
    (zay n x46.2 ([117, 54, 52] : Str)).bind fun x54 =>
    (zbS n x54 (1 : Int)).bind fun x56 =>
    need (x41.1.length + [x56.1].length <= 1073741824) <|
    some (({ x2.1 with za0 := x39.1, Num_ := (orK .u32 x2.1.Num_ (4 : Int)), zav := (x41.1 ++ [x56.1]) } : zaa), x56.2)
  else
   (zbS n x43.2 (1 : Int)).bind fun x61 =>
   need (x41.1.length + [x61.1].length <= 1073741824) <|
   some (({ x2.1 with za0 := x39.1, zav := (x41.1 ++ [x61.1]) } : zaa), x61.2)
def zd1 (n : Nat) : Nat -> zab -> zaa -> Option (zab × zaa)
 | 0, _, _ => none
 | c13 + 1, v10, v11 =>
   (if (v10.e_ == (0 : Int)) = true then
      (zbu v10).bind fun x19 =>
      some (x19.zba != (4 : Int))
     else
      some false).bind fun y17 =>
   if y17 = true then
    (zdO n v10).bind fun x25 =>
    need (v11.zav.length + [x25.1].length <= 1073741824) <|
    zd1 n c13 x25.2 ({ v11 with zav := (v11.zav ++ [x25.1]) } : zaa)
   else
    some (v10, v11)
def zfR (n : Nat) (a0 : Str) : Option (zaa × Int × Int) :=
 (zfN n a0).bind fun x2 =>
 if (x2.2.1 != (0 : Int)) = true then
  some ((zaa.mk (0 : Int) (0 : Int) [] (0 : Int) []), x2.2.1, x2.2.2)
 else
  (zbp (zab.mk x2.1 (0 : Int) (0 : Int) (0 : Int) (0 : Int)) (1 : Int)).bind fun x6 =>
  (zd1 n n x6.2 x6.1).bind fun y12 =>
  if (y12.1.e_ != (0 : Int)) = true then
   some ((zaa.mk (0 : Int) (0 : Int) [] (0 : Int) []), y12.1.e_, y12.1.zif)
  else
   some (y12.2, (0 : Int), (0 : Int))
def zid (a0 : zaB) (a1 : Str) : Option Bool :=
 some (decide (a0.zfr = a1))
def za1 (a0 : (List zaB)) (a1 : Str) : Nat -> Int -> Option (Unit ⊕ Int)
 | 0, _ => none
 | c4 + 1, v2 =>
   if (decide (v2 < (a0.length : Int))) = true then
    (idxL a0 v2).bind fun x9 =>
    (zid x9 a1).bind fun x10 =>
    if x10 = true then
     some (.inr v2)
    else
     za1 a0 a1 c4 (IntKind.i64.wrap (v2 + (1 : Int)))
   else
    some (.inl ())
def zbz (n : Nat) (a0 : (List zaB)) (a1 : Str) : Option Int :=
 (za1 a0 a1 n (0 : Int)).bind fun y3 =>
 y3.elim (fun y3a =>
  some (-1 : Int)) (fun y3a =>
  some y3a)
def zee (n : Nat) (a0 : zbD) (a1 : Str) : Option (Int × Bool) :=
 (zbz n a0.zaT a1).bind fun x3 =>
 some ((max x3 (0 : Int)), (decide ((0 : Int) <= x3)))
def zdA (a0 : zad) (a1 : zaf) (a2 : Int) (a3 : Int) : Option zaf :=
 if (a1.e_ == (0 : Int)) = true then
  some (zaf.mk a2 a3)
 else
  some a1
def zak (a0 : zad) (a1 : zaf) (a2 : Bool) (a3 : Int) (a4 : Int) : Option zaf :=
 if (!a2) = true then
  (zdA a0 a1 a3 a4).bind fun x2 =>
  some x2
 else
  some a1
def zeY (a0 : Str) : Nat -> Int -> Option (Unit ⊕ Int)
 | 0, _ => none
 | c4 + 1, v2 =>
   if (decide (v2 < (5 : Int))) = true then
    (idxL zaR v2).bind fun x9 =>
    if (decide (x9.name_ = a0)) = true then
     some (.inr x9.args_)
    else
     zeY a0 c4 (IntKind.i64.wrap (v2 + (1 : Int)))
   else
    some (.inl ())
def zgS (n : Nat) (a0 : Str) : Option Int :=
 (zeY a0 n (0 : Int)).bind fun y3 =>
 y3.elim (fun y3a =>
  some (0 : Int)) (fun y3a =>
  some y3a)
def zhX (a0 : Int) : Option Int :=
 if ((andK .u32 a0 (2 : Int)) != (0 : Int)) = true then
  some (2 : Int)
 else
  if ((andK .u32 a0 (4 : Int)) != (0 : Int)) = true then
   some (3 : Int)
  else
   some (0 : Int)
def zcb (n : Nat) (a2 : zaa) : Nat -> Int -> zad -> zaf -> Option (zad × zaf)
 | 0, _, _, _ => none
 | c9 + 1, v5, v6, v7 =>
   if (decide (v5 < (a2.zav.length : Int))) = true then
    (idxL a2.zav v5).bind fun x14 =>
    (zee n v6.p_ x14.za0).bind fun x20 =>
    (if (!x20.2) = true then
       (zgS n x14.za0).bind fun x25 =>
       (zak v6 v7 (x25 == (0 : Int)) (131 : Int) x14.At_).bind fun x26 =>
       some x26
      else
       (zak v6 v7 false (131 : Int) x14.At_).bind fun x29 =>
       some x29).bind fun y23 =>
    (zhX x14.Num_).bind fun x34 =>
    need (v6.f_ < 0) <|
    need (v6.p_.zaT.length + 1 <= 1073741824) <|
    zcb n a2 c9 (IntKind.i64.wrap (v5 + (1 : Int))) ({ v6 with p_ := ⟨(v6.p_.zaT ++ [(zaB.mk x14.za0 ((andK .u32 x14.Num_ (1 : Int)) != (0 : Int)) x34 (0 : Int) [] [])])⟩ } : zad) y23
   else
    some (v6, v7)
def zdn (n : Nat) (a0 : zad) (a1 : zaf) (a2 : zaa) : Option (zad × zaf) :=
 (zak a0 a1 (decide ((a2.zav.length : Int) <= (64 : Int))) (136 : Int) a2.At_).bind fun x2 =>
 (zcb n a2 n (0 : Int) a0 x2).bind fun y8 =>
 need ((0 : Int) <= (a2.zav.length : Int) /\ (a2.zav.length : Int) <= 1073741824) <|
 some (({ y8.1 with zbi := (List.replicate a2.zav.length []) } : zad), y8.2)
def zdf (a0 : zaB) : Nat -> Int -> Int -> Option Int
 | 0, _, _ => none
 | c8 + 1, v5, v6 =>
   if (decide (v6 < ((a0.zbH.take a0.zbk.toNat).length : Int))) = true then
    ((idxL (a0.zbH.take a0.zbk.toNat) v6).bind fun x14 =>
      if (x14.zba == (3 : Int)) = true then
       some (IntKind.i64.wrap ((IntKind.i64.wrap (v5 + (IntKind.i64.wrap ((v5.tmod (2 : Int)) + (1 : Int))))) + (1 : Int)))
      else
       some (IntKind.i64.wrap (v5 + (1 : Int)))).bind fun y13 =>
    zdf a0 c8 y13 (IntKind.i64.wrap (v6 + (1 : Int)))
   else
    some v5
def zfz (n : Nat) (a0 : zaB) : Option Int :=
 need ((0 : Int) <= a0.zbk /\ a0.zbk <= (a0.zbH.length : Int)) <|
 (zdf a0 n (0 : Int) (0 : Int)).bind fun y7 =>
 some y7
def zcd (x1 : zaB) : Nat -> Int -> zad -> Option zad
 | 0, _, _ => none
 | c31 + 1, v28, v29 =>
   if (decide (v28 < x1.zbk)) = true then
    need (v29.zaG.length + 1 <= 1073741824) <|
    zcd x1 c31 (IntKind.i64.wrap (v28 + (1 : Int))) ({ v29 with zaG := (v29.zaG ++ [v28]) } : zad)
   else
    some v29
def zce (n : Nat) (a0 : zad) (a1 : zaf) (a2 : Int) : Option (zad × zaf) :=
 (idxL a0.p_.zaT a2).bind fun x1 =>
 (zcd x1 n (0 : Int) ({ a0 with f_ := a2, zaG := [], at_ := a2 } : zad)).bind fun y30 =>
 some (y30, a1)
def zcX (a0 : Int) : Option Bool :=
 (if (decide ((1 : Int) <= a0)) = true then
    if (decide (a0 <= (255 : Int))) = true then
     some true
    else
     if (decide ((255 : Int) < a0)) = true then
      if (decide (a0 <= (1024 : Int))) = true then
       some ((a0.tmod (4 : Int)) == (0 : Int))
      else
       some false
     else
      some false
   else
    if (decide ((255 : Int) < a0)) = true then
     if (decide (a0 <= (1024 : Int))) = true then
      some ((a0.tmod (4 : Int)) == (0 : Int))
     else
      some false
    else
     some false).bind fun y1 =>
 some y1
def zcn (a0 : zad) (a2 : Str) : Nat -> Int -> Option (Unit ⊕ Int)
 | 0, _ => none
 | c5 + 1, v3 =>
   if (decide ((0 : Int) <= v3)) = true then
    (idxL a0.p_.zaT a0.f_).bind fun x10 =>
    (idxL a0.zaG v3).bind fun x13 =>
    (idxL x10.zbH x13).bind fun x14 =>
    if (decide (x14.zfr = a2)) = true then
     some (.inr x13)
    else
     zcn a0 a2 c5 (IntKind.i64.wrap (v3 - (1 : Int)))
   else
    some (.inl ())
def zdz (n : Nat) (a0 : zad) (a1 : zaf) (a2 : Str) : Option Int :=
 (zcn a0 a2 n (IntKind.i64.wrap ((a0.zaG.length : Int) - (1 : Int)))).bind fun y4 =>
 y4.elim (fun y4a =>
  some (-1 : Int)) (fun y4a =>
  some y4a)
def za8 (n : Nat) (a0 : zad) (a1 : zaf) (a2 : zas) (a3 : Int) : Option (Int × zad × zaf) :=
 (zdz n a0 a1 a2.zfr).bind fun x2 =>
 (zak a0 a1 (decide (x2 < (0 : Int))) (131 : Int) a3).bind fun x3 =>
 (idxL a0.p_.zaT a0.f_).bind fun x6 =>
 (zak a0 x3 (decide ((x6.zbH.length : Int) < (250 : Int))) (136 : Int) a3).bind fun x9 =>
 if (x9.e_ != (0 : Int)) = true then
  some ((-1 : Int), a0, x9)
 else
  need (x6.zbH.length + 1 <= 1073741824) <|
  need (a0.zaG.length + 1 <= 1073741824) <|
  some ((x6.zbH.length : Int), ({ a0 with p_ := ⟨(a0.p_.zaT.set a0.f_.toNat { x6 with zbH := (x6.zbH ++ [a2]) })⟩, zaG := (a0.zaG ++ [(x6.zbH.length : Int)]) } : zad), x9)
def zb6 (n : Nat) (a2 : (List zaa)) : Nat -> Int -> zad -> zaf -> Option (zad × zaf)
 | 0, _, _, _ => none
 | c6 + 1, v2, v3, v4 =>
   if (decide (v2 < (a2.length : Int))) = true then
    ((idxL a2 v2).bind fun x12 =>
      (if ((IntKind.i64.wrap x12.Num_) == (4 : Int)) = true then
         some (decide ((0 : Int) < (x12.zav.length : Int)))
        else
         some false).bind fun y19 =>
      if y19 = true then
       (idxL x12.zav (0 : Int)).bind fun x25 =>
       (zcX (IntKind.i64.wrap x25.Num_)).bind fun x31 =>
       (zak v3 v4 x31 (136 : Int) x12.At_).bind fun x32 =>
       (za8 n v3 x32 (zas.mk x12.za0 (IntKind.i64.wrap x12.Num_) (IntKind.i64.wrap x25.Num_)) x12.At_).bind fun x35 =>
       some (x35.2.1, x35.2.2)
      else
       (za8 n v3 v4 (zas.mk x12.za0 (IntKind.i64.wrap x12.Num_) (0 : Int)) x12.At_).bind fun x37 =>
       some (x37.2.1, x37.2.2)).bind fun y11 =>
    zb6 n a2 c6 (IntKind.i64.wrap (v2 + (1 : Int))) y11.1 y11.2
   else
    some (v3, v4)
def zd6 (n : Nat) (a0 : zad) (a1 : zaf) (a2 : (List zaa)) : Option (zad × zaf) :=
 (zb6 n a2 n (0 : Int) a0 a1).bind fun y5 =>
 (idxL y5.1.p_.zaT y5.1.f_).bind fun x61 =>
 some (({ y5.1 with p_ := ⟨(y5.1.p_.zaT.set y5.1.f_.toNat { x61 with zbk := (x61.zbH.length : Int) })⟩ } : zad), y5.2)
def zc2 (n : Nat) (a0 : zad) (a1 : zaf) (a2 : Int) (a3 : zaa) : Option (zad × zaf) :=
 (zce n a0 a1 a2).bind fun x2 =>
 need ((0 : Int) <= (max (IntKind.i64.wrap ((a3.zav.length : Int) - (1 : Int))) (0 : Int)) /\ (max (IntKind.i64.wrap ((a3.zav.length : Int) - (1 : Int))) (0 : Int)) <= (a3.zav.length : Int)) <|
 (zd6 n x2.1 x2.2 (a3.zav.take (max (IntKind.i64.wrap ((a3.zav.length : Int) - (1 : Int))) (0 : Int)).toNat)).bind fun x4 =>
 if (x4.2.e_ == (0 : Int)) = true then
  ((idxL x4.1.p_.zaT x4.1.f_).bind fun x10 =>
    if (!x10.ze1) = true then
     (zak x4.1 x4.2 true (136 : Int) a3.At_).bind fun x27 =>
     some x27
    else
     (zfz n x10).bind fun x29 =>
     (zak x4.1 x4.2 (decide (x29 <= (4 : Int))) (136 : Int) a3.At_).bind fun x30 =>
     some x30).bind fun y9 =>
  some (x4.1, y9)
 else
  some (x4.1, x4.2)
def zbv (a0 : zad) (a1 : zaf) (a2 : Int) : Option Int :=
 if (decide (a2 < (0 : Int))) = true then
  some (0 : Int)
 else
  (idxL a0.p_.zaT a0.f_).bind fun x2 =>
  (idxL x2.zbH a2).bind fun x5 =>
  some x5.zba
def zbT (n : Nat) (a0 : zad) (a1 : zaf) (a2 : zaa) : Option (Int × zaf) :=
 (zdz n a0 a1 a2.za0).bind fun x2 =>
 (zak a0 a1 (decide ((0 : Int) <= x2)) (130 : Int) a2.At_).bind fun x4 =>
 some (x2, x4)
def zgf (a0 : Int) (a1 : Int) : Option Int :=
 (if (a0 == a1) = true then
    if (decide ((1 : Int) <= a0)) = true then
     some (decide (a0 <= (3 : Int)))
    else
     some false
   else
    some false).bind fun y1 =>
 if y1 = true then
  some a0
 else
  (if (a0 == (1 : Int)) = true then
     if (a1 == (2 : Int)) = true then
      some true
     else
      if (a0 == (2 : Int)) = true then
       some (a1 == (1 : Int))
      else
       some false
    else
     if (a0 == (2 : Int)) = true then
      some (a1 == (1 : Int))
     else
      some false).bind fun y8 =>
  if y8 = true then
   some (2 : Int)
  else
   some (0 : Int)
def zaX (a0 : zad) (a1 : zaf) (a2 : zae) (a3 : Int) : Option (zae × zaf) :=
 (zak a0 a1 (a3 != (0 : Int)) (132 : Int) a2.At_).bind fun x3 =>
 some (({ a2 with zbn := a3 } : zae), x3)
def zcN (a0 : zad) (a1 : zaf) (a2 : zae) (a3 : zae) (a4 : zae) : Option (zae × zaf) :=
 (zak a0 a1 (a4.zbn == (1 : Int)) (133 : Int) a4.At_).bind fun x5 =>
 if (a3.zbn == (3 : Int)) = true then
  (if (decide (a4.Op_ = ([110, 117, 109] : Str))) = true then
     (zak a0 x5 (decide (a4.N_ <= (63 : Int))) (132 : Int) a2.At_).bind fun x10 =>
     some x10
    else
     (zak a0 x5 false (132 : Int) a2.At_).bind fun x12 =>
     some x12).bind fun y8 =>
  (zaX a0 y8 a2 a3.zbn).bind fun x17 =>
  some (x17.1, x17.2)
 else
  (zaX a0 x5 a2 a3.zbn).bind fun x19 =>
  some (x19.1, x19.2)
def zge (a0 : Int) : Option Int :=
 if (a0 == (1 : Int)) = true then
  some (2 : Int)
 else
  some a0
def zeM (a0 : Int) : Option Bool :=
 (if (a0 == (1 : Int)) = true then
    some true
   else
    some (a0 == (2 : Int))).bind fun y1 =>
 some y1
def zec (a0 : zad) (a1 : zaf) (a2 : zae) : Option Int :=
 (idxL a2.zav (1 : Int)).bind fun x2 =>
 (idxL a2.zav (2 : Int)).bind fun x3 =>
 (zgf x2.zbn x3.zbn).bind fun x4 =>
 ((idxL a2.zav (0 : Int)).bind fun x17 =>
   (zeM x17.zbn).bind fun x18 =>
   if (!x18) = true then
    some true
   else
    some (x4 == (0 : Int))).bind fun y16 =>
 if y16 = true then
  some (0 : Int)
 else
  (zge x4).bind fun x30 =>
  some x30
def zeb (zcS : zad -> zaf -> zaa -> zae -> Option (zae × zaf)) (zcH : zad -> zaf -> zaa -> zae -> Option (zae × zaf)) (zcu : zad -> zaf -> zaa -> zae -> Option (zae × zaf)) (zci : zad -> zaf -> zaa -> zae -> Option (zae × zaf)) (n : Nat) (a0 : zad) (a1 : zaf) (a2 : zaa) : Option (zae × zaf) :=
 if (a2.zba == (14 : Int)) = true then
  some ((zae.mk ([110, 117, 109] : Str) (1 : Int) a2.Num_ (-1 : Int) [] a2.At_), a1)
 else
  if (a2.zba == (15 : Int)) = true then
   (zbT n a0 a1 a2).bind fun x6 =>
   (zbv a0 x6.2 x6.1).bind fun x8 =>
   (zak a0 x6.2 (x8 != (4 : Int)) (132 : Int) a2.At_).bind fun x10 =>
   some ((zae.mk ([118, 97, 114] : Str) x8 (0 : Int) x6.1 [] a2.At_), x10)
  else
   if (a2.zba == (16 : Int)) = true then
    (zcS a0 a1 a2 (zae.mk [] (0 : Int) (0 : Int) (-1 : Int) [] a2.At_)).bind fun x13 =>
    some (x13.1, x13.2)
   else
    if (a2.zba == (18 : Int)) = true then
     (zcH a0 a1 a2 (zae.mk [] (0 : Int) (0 : Int) (-1 : Int) [] a2.At_)).bind fun x16 =>
     some (x16.1, x16.2)
    else
     if (a2.zba == (19 : Int)) = true then
      (zcu a0 a1 a2 (zae.mk [] (0 : Int) (0 : Int) (-1 : Int) [] a2.At_)).bind fun x19 =>
      some (x19.1, x19.2)
     else
      (zci a0 a1 a2 (zae.mk [] (0 : Int) (0 : Int) (-1 : Int) [] a2.At_)).bind fun x21 =>
      some (x21.1, x21.2)
def zd9 (zaZ : zad -> zaf -> zaa -> Option (zae × zaf)) (n : Nat) (a0 : zad) (a1 : zaf) (a2 : zaa) (a3 : zae) : Option (zae × zaf) :=
 (idxL a2.zav (0 : Int)).bind fun x4 =>
 (zaZ a0 a1 x4).bind fun x5 =>
 (zbT n a0 x5.2 a2).bind fun x13 =>
 (zbv a0 x13.2 x13.1).bind fun x15 =>
 (zak a0 x13.2 (x15 == (4 : Int)) (132 : Int) a2.At_).bind fun x16 =>
 (zak a0 x16 (x5.1.zbn == (1 : Int)) (133 : Int) x5.1.At_).bind fun x19 =>
 (if (x19.e_ == (0 : Int)) = true then
    some (decide (x5.1.Op_ = ([110, 117, 109] : Str)))
   else
    some false).bind fun y21 =>
 if y21 = true then
  (idxL a0.p_.zaT a0.f_).bind fun x27 =>
  (idxL x27.zbH x13.1).bind fun x30 =>
  (zak a0 x19 (decide ((IntKind.i64.wrap x5.1.N_) < x30.zfZ)) (137 : Int) x5.1.At_).bind fun x31 =>
  some (({ a3 with Op_ := ([105, 110, 100, 101, 120] : Str), zbn := (2 : Int), Var_ := x13.1, zav := [x5.1] } : zae), x31)
 else
  some (({ a3 with Op_ := ([105, 110, 100, 101, 120] : Str), zbn := (2 : Int), Var_ := x13.1, zav := [x5.1] } : zae), x19)
def zdS (zaY : zad -> zaf -> (List zaa) -> Option ((List zae) × zaf)) (n : Nat) (a0 : zad) (a1 : zaf) (a2 : zaa) (a3 : zae) : Option (zae × zaf) :=
 (zaY a0 a1 a2.zav).bind fun x4 =>
 if (decide (a2.za0 = ([45] : Str))) = true then
  (idxL x4.1 (0 : Int)).bind fun x7 =>
  some (({ a3 with Op_ := ([110, 101, 103] : Str), zbn := x7.zbn, zav := x4.1 } : zae), x4.2)
 else
  (idxL x4.1 (0 : Int)).bind fun x13 =>
  some (({ a3 with Op_ := ([110, 111, 116] : Str), zbn := x13.zbn, zav := x4.1 } : zae), x4.2)
def zdH (zaY : zad -> zaf -> (List zaa) -> Option ((List zae) × zaf)) (n : Nat) (a0 : zad) (a1 : zaf) (a2 : zaa) (a3 : zae) : Option (zae × zaf) :=
 (zaY a0 a1 a2.zav).bind fun x4 =>
 (idxL x4.1 (0 : Int)).bind fun x6 =>
 (idxL x4.1 (1 : Int)).bind fun x9 =>
 (zgf x6.zbn x9.zbn).bind fun x20 =>
 if (decide (a2.za0 = ([47] : Str))) = true then
  (zak a0 x4.2 (x6.zbn == (1 : Int)) (133 : Int) x6.At_).bind fun x23 =>
  (zak a0 x23 (x9.zbn == (1 : Int)) (133 : Int) x9.At_).bind fun x25 =>
  (zaX a0 x25 ({ a3 with Op_ := a2.za0, zav := x4.1 } : zae) (1 : Int)).bind fun x27 =>
  some (x27.1, x27.2)
 else
  if (decide (a2.za0 = ([37] : Str))) = true then
   (zak a0 x4.2 (x6.zbn == (1 : Int)) (133 : Int) x6.At_).bind fun x30 =>
   (zak a0 x30 (x9.zbn == (1 : Int)) (133 : Int) x9.At_).bind fun x32 =>
   (zaX a0 x32 ({ a3 with Op_ := a2.za0, zav := x4.1 } : zae) (1 : Int)).bind fun x34 =>
   some (x34.1, x34.2)
  else
   if (decide (a2.za0 = ([60, 60] : Str))) = true then
    (zcN a0 x4.2 ({ a3 with Op_ := a2.za0, zav := x4.1 } : zae) x6 x9).bind fun x37 =>
    some (x37.1, x37.2)
   else
    if (decide (a2.za0 = ([62, 62] : Str))) = true then
     (zcN a0 x4.2 ({ a3 with Op_ := a2.za0, zav := x4.1 } : zae) x6 x9).bind fun x40 =>
     some (x40.1, x40.2)
    else
     if (decide (a2.za0 = ([60, 60, 60] : Str))) = true then
      (zcN a0 x4.2 ({ a3 with Op_ := a2.za0, zav := x4.1 } : zae) x6 x9).bind fun x43 =>
      some (x43.1, x43.2)
     else
      if (decide (a2.za0 = ([42] : Str))) = true then
       (zak a0 x4.2 (x20 != (3 : Int)) (132 : Int) a2.At_).bind fun x46 =>
       (zaX a0 x46 ({ a3 with Op_ := a2.za0, zav := x4.1 } : zae) x20).bind fun x48 =>
       some (x48.1, x48.2)
      else
       if (decide (a2.za0 = ([61, 61] : Str))) = true then
        if (x20 == (3 : Int)) = true then
         (zaX a0 x4.2 ({ a3 with Op_ := a2.za0, zav := x4.1 } : zae) (2 : Int)).bind fun x52 =>
         some (x52.1, x52.2)
        else
         (zaX a0 x4.2 ({ a3 with Op_ := a2.za0, zav := x4.1 } : zae) x20).bind fun x54 =>
         some (x54.1, x54.2)
       else
        if (decide (a2.za0 = ([60] : Str))) = true then
         if (x20 == (3 : Int)) = true then
          (zaX a0 x4.2 ({ a3 with Op_ := a2.za0, zav := x4.1 } : zae) (2 : Int)).bind fun x58 =>
          some (x58.1, x58.2)
         else
          (zaX a0 x4.2 ({ a3 with Op_ := a2.za0, zav := x4.1 } : zae) x20).bind fun x60 =>
          some (x60.1, x60.2)
        else
         (zaX a0 x4.2 ({ a3 with Op_ := a2.za0, zav := x4.1 } : zae) x20).bind fun x62 =>
         some (x62.1, x62.2)
def zdt (zaY : zad -> zaf -> (List zaa) -> Option ((List zae) × zaf)) (n : Nat) (a0 : zad) (a1 : zaf) (a2 : zaa) (a3 : zae) : Option (zae × zaf) :=
 (zgS n a2.za0).bind fun x4 =>
 (zak a0 a1 (decide ((0 : Int) < x4)) (130 : Int) a2.At_).bind fun x6 =>
 (zak a0 x6 ((a2.zav.length : Int) == x4) (136 : Int) a2.At_).bind fun x8 =>
 (zaY a0 x8 a2.zav).bind fun x10 =>
 if (x10.2.e_ != (0 : Int)) = true then
  some (({ a3 with Op_ := a2.za0, zav := x10.1 } : zae), x10.2)
 else
  (idxL x10.1 (0 : Int)).bind fun x13 =>
  if (decide (a2.za0 = ([115, 101, 108, 101, 99, 116] : Str))) = true then
   (zec a0 x10.2 ({ a3 with Op_ := a2.za0, zav := x10.1 } : zae)).bind fun x20 =>
   (zaX a0 x10.2 ({ a3 with Op_ := a2.za0, zav := x10.1 } : zae) x20).bind fun x21 =>
   some (x21.1, x21.2)
  else
   if (decide (a2.za0 = ([108, 111, 110, 103] : Str))) = true then
    (zeM x13.zbn).bind fun x25 =>
    (zak a0 x10.2 x25 (132 : Int) a2.At_).bind fun x26 =>
    (zaX a0 x26 ({ a3 with Op_ := a2.za0, zav := x10.1 } : zae) (3 : Int)).bind fun x29 =>
    some (x29.1, x29.2)
   else
    if (decide (a2.za0 = ([119, 105, 100, 101] : Str))) = true then
     ((zeM x13.zbn).bind fun x33 =>
       if x33 = true then
        (idxL x10.1 (1 : Int)).bind fun x36 =>
        (zeM x36.zbn).bind fun x37 =>
        (zak a0 x10.2 x37 (132 : Int) a2.At_).bind fun x38 =>
        some x38
       else
        (zak a0 x10.2 false (132 : Int) a2.At_).bind fun x46 =>
        some x46).bind fun y32 =>
     (zaX a0 y32 ({ a3 with Op_ := a2.za0, zav := x10.1 } : zae) (3 : Int)).bind fun x51 =>
     some (x51.1, x51.2)
    else
     (zak a0 x10.2 (x13.zbn == (3 : Int)) (132 : Int) a2.At_).bind fun x53 =>
     (zaX a0 x53 ({ a3 with Op_ := a2.za0, zav := x10.1 } : zae) (2 : Int)).bind fun x55 =>
     some (x55.1, x55.2)
def zcC (zaZ : zad -> zaf -> zaa -> Option (zae × zaf)) (a2 : (List zaa)) (a0 : zad) : Nat -> (List zae) -> Int -> zaf -> Option ((List zae) × zaf)
 | 0, _, _, _ => none
 | c6 + 1, v2, v3, v4 =>
   if (decide (v3 < (a2.length : Int))) = true then
    (idxL a2 v3).bind fun x11 =>
    (zaZ a0 v4 x11).bind fun x17 =>
    need (v2.length + [x17.1].length <= 1073741824) <|
    zcC zaZ a2 a0 c6 (v2 ++ [x17.1]) (IntKind.i64.wrap (v3 + (1 : Int))) x17.2
   else
    some (v2, v4)
def zeo (zaZ : zad -> zaf -> zaa -> Option (zae × zaf)) (n : Nat) (a0 : zad) (a1 : zaf) (a2 : (List zaa)) : Option ((List zae) × zaf) :=
 (zcC zaZ a2 a0 n [] (0 : Int) a1).bind fun y5 =>
 some (y5.1, y5.2)
def zaN : Nat -> (zad -> zaf -> zaa -> Option (zae × zaf)) × (zad -> zaf -> zaa -> zae -> Option (zae × zaf)) × (zad -> zaf -> zaa -> zae -> Option (zae × zaf)) × (zad -> zaf -> zaa -> zae -> Option (zae × zaf)) × (zad -> zaf -> zaa -> zae -> Option (zae × zaf)) × (zad -> zaf -> (List zaa) -> Option ((List zae) × zaf))
 | 0 => (fun _ _ _ => none, fun _ _ _ _ => none, fun _ _ _ _ => none, fun _ _ _ _ => none, fun _ _ _ _ => none, fun _ _ _ => none)
 | n + 1 => (zeb (zaN n).2.1 (zaN n).2.2.1 (zaN n).2.2.2.1 (zaN n).2.2.2.2.1 n, zd9 (zaN n).1 n, zdS (zaN n).2.2.2.2.2 n, zdH (zaN n).2.2.2.2.2 n, zdt (zaN n).2.2.2.2.2 n, zeo (zaN n).1 n)
def zbw (n : Nat) : zad -> zaf -> zaa -> Option (zae × zaf) := (zaN n).1
def zic (n : Nat) : zad -> zaf -> zaa -> zae -> Option (zae × zaf) := (zaN n).2.1
def zhS (n : Nat) : zad -> zaf -> zaa -> zae -> Option (zae × zaf) := (zaN n).2.2.1
def zhy (n : Nat) : zad -> zaf -> zaa -> zae -> Option (zae × zaf) := (zaN n).2.2.2.1
def zg6 (n : Nat) : zad -> zaf -> zaa -> zae -> Option (zae × zaf) := (zaN n).2.2.2.2.1
def zis (n : Nat) : zad -> zaf -> (List zaa) -> Option ((List zae) × zaf) := (zaN n).2.2.2.2.2
def zbs (n : Nat) (a0 : zad) (a1 : zaf) (a2 : zaa) : Option (zae × zaf) :=
 (zbw n a0 a1 a2).bind fun x3 =>
 (zak a0 x3.2 (x3.1.zbn == (1 : Int)) (133 : Int) a2.At_).bind fun x6 =>
 some (x3.1, x6)
def zdG (n : Nat) (a0 : zad) (a1 : zaf) (a2 : zaa) : Option (Int × zaf) :=
 (zee n a0.p_ a2.za0).bind fun x2 =>
 (zak a0 a1 x2.2 (130 : Int) a2.At_).bind fun x5 =>
 some (x2.1, x5)
def zd5 (a0 : zad) (a1 : zaf) (a2 : Int) : Option (List zas) :=
 (idxL a0.p_.zaT a2).bind fun x1 =>
 need ((0 : Int) <= x1.zbk /\ x1.zbk <= (x1.zbH.length : Int)) <|
 some (x1.zbH.take (x1.zbk.toNat))
def zeO (a0 : Int) (a1 : Int) : Option Bool :=
 (if (a0 == a1) = true then
    some true
   else
    if (a0 == (1 : Int)) = true then
     some (a1 == (2 : Int))
    else
     some false).bind fun y1 =>
 some y1
def zen (n : Nat) (a0 : zad) (a1 : zaf) (a2 : zaa) (a3 : Int) : Option (zae × zaf) :=
 (zak a0 a1 (a2.zba == (15 : Int)) (132 : Int) a2.At_).bind fun x3 =>
 (zbT n a0 x3 a2).bind fun x5 =>
 ((zbv a0 x5.2 x5.1).bind fun x8 =>
   if (x8 == (4 : Int)) = true then
    (idxL a0.p_.zaT a0.f_).bind fun x11 =>
    (idxL x11.zbH (max x5.1 (0 : Int))).bind fun x14 =>
    (zak a0 x5.2 (x14.zfZ == a3) (132 : Int) a2.At_).bind fun x15 =>
    some x15
   else
    (zak a0 x5.2 false (132 : Int) a2.At_).bind fun x40 =>
    some x40).bind fun y7 =>
 some ((zae.mk ([118, 97, 114] : Str) (4 : Int) (0 : Int) x5.1 [] a2.At_), y7)
def zdJ (n : Nat) (a0 : zad) (a1 : zaf) (a2 : zaa) (a3 : zas) : Option (zae × zaf) :=
 if (a3.zba == (4 : Int)) = true then
  (zen n a0 a1 a2 a3.zfZ).bind fun x5 =>
  some (x5.1, x5.2)
 else
  if (a3.zba == (1 : Int)) = true then
   (zbs n a0 a1 a2).bind fun x8 =>
   some (x8.1, x8.2)
  else
   (zbw n a0 a1 a2).bind fun x10 =>
   (zeO x10.1.zbn a3.zba).bind fun x13 =>
   (zak a0 x10.2 x13 (132 : Int) a2.At_).bind fun x14 =>
   some (x10.1, x14)
def zco (n : Nat) (a2 : zaa) (x20 : (List zas)) (a0 : zad) (x7 : (List Int)) (x4 : (Int × zaf)) : Nat -> Int -> zaf -> zag -> Option (zaf × zag)
 | 0, _, _, _ => none
 | c29 + 1, v25, v26, v27 =>
   if (decide (v25 < (a2.zav.length : Int))) = true then
    (idxL a2.zav v25).bind fun x34 =>
    if (v26.e_ != (0 : Int)) = true then
     some (v26, v27)
    else
     (idxL x20 v25).bind fun x41 =>
     (zdJ n ({ a0 with zbi := (a0.zbi.set a0.at_.toNat (x7 ++ [x4.1])) } : zad) v26 x34 x41).bind fun x42 =>
     need (v27.zav.length + [x42.1].length <= 1073741824) <|
     zco n a2 x20 a0 x7 x4 c29 (IntKind.i64.wrap (v25 + (1 : Int))) x42.2 ({ v27 with zav := (v27.zav ++ [x42.1]) } : zag)
   else
    some (v26, v27)
def zcq (n : Nat) (a0 : zad) (a1 : zaf) (a2 : zaa) (a3 : zag) (a4 : Int) : Option (zag × zad × zaf) :=
 (zdG n a0 a1 a2).bind fun x4 =>
 if (x4.2.e_ != (0 : Int)) = true then
  some (({ a3 with Op_ := ([99, 97, 108, 108] : Str), Var_ := a4, zgb := x4.1, zav := [] } : zag), a0, x4.2)
 else
  (idxL a0.zbi a0.at_).bind fun x7 =>
  need (x7.length + 1 <= 1073741824) <|
  (zd5 ({ a0 with zbi := (a0.zbi.set a0.at_.toNat (x7 ++ [x4.1])) } : zad) x4.2 x4.1).bind fun x20 =>
  (zak ({ a0 with zbi := (a0.zbi.set a0.at_.toNat (x7 ++ [x4.1])) } : zad) x4.2 ((a2.zav.length : Int) == (x20.length : Int)) (136 : Int) a2.At_).bind fun x22 =>
  (zco n a2 x20 a0 x7 x4 n (0 : Int) x22 ({ a3 with Op_ := ([99, 97, 108, 108] : Str), Var_ := a4, zgb := x4.1, zav := [] } : zag)).bind fun y28 =>
  some (y28.2, ({ a0 with zbi := (a0.zbi.set a0.at_.toNat (x7 ++ [x4.1])) } : zad), y28.1)
def zcB (n : Nat) (a0 : zad) (a1 : zaf) (a2 : zaa) : Option Bool :=
 (if (a2.zba == (17 : Int)) = true then
    (zgS n a2.za0).bind fun x4 =>
    some (x4 == (0 : Int))
   else
    some false).bind fun y2 =>
 some y2
def zel (n : Nat) (a0 : zad) (a1 : zaf) (a2 : zaa) (a3 : zag) : Option (zag × zad × zaf) :=
 (idxL a2.zav (0 : Int)).bind fun x4 =>
 (zcB n a0 a1 x4).bind fun x5 =>
 if x5 = true then
  (zcq n a0 a1 x4 ({ a3 with zav := [] } : zag) (-1 : Int)).bind fun x13 =>
  if (x13.2.2.e_ != (0 : Int)) = true then
   some (({ x13.1 with At_ := a2.At_ } : zag), x13.2.1, x13.2.2)
  else
   (idxL x13.2.1.p_.zaT x13.1.zgb).bind fun x16 =>
   (zak x13.2.1 x13.2.2 (x16.zbN != (0 : Int)) (132 : Int) a2.At_).bind fun x30 =>
   (za8 n x13.2.1 x30 (zas.mk a2.za0 x16.zbN (0 : Int)) a2.At_).bind fun x32 =>
   some (({ x13.1 with Var_ := x32.1, At_ := a2.At_ } : zag), x32.2.1, x32.2.2)
 else
  (zbw n a0 a1 x4).bind fun x34 =>
  (zge x34.1.zbn).bind fun x37 =>
  (za8 n a0 x34.2 (zas.mk a2.za0 x37 (0 : Int)) a2.At_).bind fun x38 =>
  some (({ a3 with Op_ := ([118, 97, 114] : Str), Var_ := x38.1, zav := [x34.1] } : zag), x38.2.1, x38.2.2)
def zdV (n : Nat) (a0 : zad) (a1 : zaf) (a2 : zaa) : Option (Int × zaf) :=
 (zbT n a0 a1 a2).bind fun x2 =>
 (zbv a0 x2.2 x2.1).bind fun x4 =>
 (if (x4 == (2 : Int)) = true then
    (zak a0 x2.2 true (132 : Int) a2.At_).bind fun x8 =>
    some x8
   else
    (zak a0 x2.2 (x4 == (3 : Int)) (132 : Int) a2.At_).bind fun x10 =>
    some x10).bind fun y6 =>
 some (x2.1, y6)
def zeF (n : Nat) (a0 : zad) (a1 : zaf) (a2 : zaa) (a3 : zag) : Option (zag × zad × zaf) :=
 (zdV n a0 a1 a2).bind fun x4 =>
 (idxL a2.zav (0 : Int)).bind fun x6 =>
 (zcB n a0 x4.2 x6).bind fun x7 =>
 if x7 = true then
  (zcq n a0 x4.2 x6 ({ a3 with zav := [] } : zag) x4.1).bind fun x15 =>
  if (x15.2.2.e_ == (0 : Int)) = true then
   (zbv x15.2.1 x15.2.2 x4.1).bind fun x18 =>
   (idxL x15.2.1.p_.zaT x15.1.zgb).bind fun x19 =>
   (zak x15.2.1 x15.2.2 (x19.zbN == x18) (132 : Int) a2.At_).bind fun x21 =>
   some (({ x15.1 with At_ := a2.At_ } : zag), x15.2.1, x21)
  else
   some (({ x15.1 with At_ := a2.At_ } : zag), x15.2.1, x15.2.2)
 else
  (zbw n a0 x4.2 x6).bind fun x36 =>
  (zbv a0 x36.2 x4.1).bind fun x39 =>
  (zeO x36.1.zbn x39).bind fun x40 =>
  (zak a0 x36.2 x40 (132 : Int) a2.At_).bind fun x41 =>
  some (({ a3 with Op_ := ([115, 101, 116] : Str), Var_ := x4.1, zav := [x36.1] } : zag), a0, x41)
def zcc (n : Nat) (a0 : zad) (a1 : zaf) (a2 : zaa) (a3 : Int) : Option (zae × zaf) :=
 (zbs n a0 a1 a2).bind fun x3 =>
 (if (x3.2.e_ == (0 : Int)) = true then
    some (decide (x3.1.Op_ = ([110, 117, 109] : Str)))
   else
    some false).bind fun y6 =>
 if y6 = true then
  (idxL a0.p_.zaT a0.f_).bind fun x12 =>
  (idxL x12.zbH a3).bind fun x15 =>
  (zak a0 x3.2 (decide ((IntKind.i64.wrap x3.1.N_) < x15.zfZ)) (137 : Int) a2.At_).bind fun x16 =>
  some (x3.1, x16)
 else
  some (x3.1, x3.2)
def zcF (n : Nat) (a0 : zad) (a1 : zaf) (a2 : zaa) (a3 : zag) : Option (zag × zaf) :=
 (zbT n a0 a1 a2).bind fun x4 =>
 (zbv a0 x4.2 x4.1).bind fun x6 =>
 (zak a0 x4.2 (x6 == (4 : Int)) (132 : Int) a2.At_).bind fun x7 =>
 (idxL a2.zav (0 : Int)).bind fun x10 =>
 (zcc n a0 x7 x10 x4.1).bind fun x11 =>
 (idxL a2.zav (1 : Int)).bind fun x19 =>
 (zbw n a0 x11.2 x19).bind fun x20 =>
 (zeO x20.1.zbn (2 : Int)).bind fun x28 =>
 (zak a0 x20.2 x28 (132 : Int) a2.At_).bind fun x29 =>
 some (({ a3 with Op_ := ([112, 117, 116] : Str), Var_ := x4.1, zav := [x11.1, x20.1] } : zag), x29)
def zez (n : Nat) (a0 : zad) (a1 : zaf) (a2 : zaa) (a3 : zag) (a4 : Bool) : Option (zag × zad × zaf) :=
 (if a4 = true then
    (idxL a0.p_.zaT a0.f_).bind fun x6 =>
    (zak a0 a1 (x6.zbN != (0 : Int)) (135 : Int) a2.At_).bind fun x9 =>
    some x9
   else
    (zak a0 a1 false (135 : Int) a2.At_).bind fun x24 =>
    some x24).bind fun y4 =>
 (if (y4.e_ == (0 : Int)) = true then
    (idxL a2.zav (0 : Int)).bind fun x31 =>
    (zcB n a0 y4 x31).bind fun x32 =>
    some x32
   else
    some false).bind fun y29 =>
 if y29 = true then
  (idxL a2.zav (0 : Int)).bind fun x43 =>
  (zcq n a0 y4 x43 ({ a3 with zav := [] } : zag) (-2 : Int)).bind fun x44 =>
  if (x44.2.2.e_ == (0 : Int)) = true then
   (idxL x44.2.1.p_.zaT x44.1.zgb).bind fun x52 =>
   (idxL x44.2.1.p_.zaT x44.2.1.f_).bind fun x54 =>
   (zak x44.2.1 x44.2.2 (x52.zbN == x54.zbN) (132 : Int) a2.At_).bind fun x57 =>
   some (({ x44.1 with At_ := a2.At_ } : zag), x44.2.1, x57)
  else
   some (({ x44.1 with At_ := a2.At_ } : zag), x44.2.1, x44.2.2)
 else
  (idxL a2.zav (0 : Int)).bind fun x83 =>
  (zbw n a0 y4 x83).bind fun x84 =>
  (idxL a0.p_.zaT a0.f_).bind fun x92 =>
  (zeO x84.1.zbn x92.zbN).bind fun x95 =>
  (zak a0 x84.2 x95 (132 : Int) a2.At_).bind fun x96 =>
  some (({ a3 with Op_ := ([114, 101, 116, 117, 114, 110] : Str), zav := [x84.1] } : zag), a0, x96)
def zbc (za7 : zad -> zaf -> zaa -> Bool -> Option (zag × zad × zaf)) (a2 : zaa) (a3 : Bool) : Nat -> (List zag) -> Int -> zad -> zaf -> Option ((List zag) × zad × zaf)
 | 0, _, _, _, _ => none
 | c9 + 1, v4, v5, v6, v7 =>
   if (decide (v5 < (a2.zav.length : Int))) = true then
    (idxL a2.zav v5).bind fun x14 =>
    if (v7.e_ != (0 : Int)) = true then
     some (v4, v6, v7)
    else
     (if a3 = true then
        (za7 v6 v7 x14 (v5 == (IntKind.i64.wrap ((a2.zav.length : Int) - (1 : Int))))).bind fun x28 =>
        need (v4.length + [x28.1].length <= 1073741824) <|
        some ((v4 ++ [x28.1]), x28.2.1, x28.2.2)
       else
        (za7 v6 v7 x14 false).bind fun x33 =>
        need (v4.length + [x33.1].length <= 1073741824) <|
        some ((v4 ++ [x33.1]), x33.2.1, x33.2.2)).bind fun y26 =>
     zbc za7 a2 a3 c9 y26.1 (IntKind.i64.wrap (v5 + (1 : Int))) y26.2.1 y26.2.2
   else
    some (v4, v6, v7)
def zbZ (za7 : zad -> zaf -> zaa -> Bool -> Option (zag × zad × zaf)) (n : Nat) (a0 : zad) (a1 : zaf) (a2 : zaa) (a3 : Bool) : Option ((List zag) × zad × zaf) :=
 (zbc za7 a2 a3 n [] (0 : Int) a0 a1).bind fun y8 =>
 need ((0 : Int) <= (a0.zaG.length : Int) /\ (a0.zaG.length : Int) <= (y8.2.1.zaG.length : Int)) <|
 some (y8.1, ({ y8.2.1 with zaG := (y8.2.1.zaG.take (a0.zaG.length)) } : zad), y8.2.2)
def zbV (zaQ : zad -> zaf -> zaa -> Bool -> Option ((List zag) × zad × zaf)) (a2 : zaa) : Nat -> Int -> zad -> zaf -> zag -> Option (zad × zaf × zag)
 | 0, _, _, _, _ => none
 | c59 + 1, v54, v55, v56, v57 =>
   if (decide (v54 < ((a2.zav.drop 2).length : Int))) = true then
    (idxL (a2.zav.drop 2) v54).bind fun x64 =>
    (zaQ v55 v56 x64 false).bind fun x70 =>
    zbV zaQ a2 c59 (IntKind.i64.wrap (v54 + (1 : Int))) x70.2.1 x70.2.2 ({ v57 with zhC := x70.1 } : zag)
   else
    some (v55, v56, v57)
def zdc (zaQ : zad -> zaf -> zaa -> Bool -> Option ((List zag) × zad × zaf)) (zcR : zad -> zaf -> zaa -> zag -> Option (zag × zad × zaf)) (n : Nat) (a0 : zad) (a1 : zaf) (a2 : zaa) (a3 : Bool) : Option (zag × zad × zaf) :=
 if (a2.zba == (5 : Int)) = true then
  (idxL a2.zav (0 : Int)).bind fun x5 =>
  (zbs n a0 a1 x5).bind fun x6 =>
  (za8 n a0 x6.2 (zas.mk a2.za0 (1 : Int) (0 : Int)) a2.At_).bind fun x13 =>
  some ((zag.mk ([108, 101, 116] : Str) x13.1 (0 : Int) [x6.1] [] [] a2.At_), x13.2.1, x13.2.2)
 else
  if (a2.zba == (6 : Int)) = true then
   (zel n a0 a1 a2 (zag.mk [] (-1 : Int) (0 : Int) [] [] [] a2.At_)).bind fun x16 =>
   some (x16.1, x16.2.1, x16.2.2)
  else
   if (a2.zba == (7 : Int)) = true then
    (zcX (IntKind.i64.wrap (min a2.Num_ (1025 : Int)))).bind fun x19 =>
    (zak a0 a1 x19 (136 : Int) a2.At_).bind fun x20 =>
    (za8 n a0 x20 (zas.mk a2.za0 (4 : Int) (IntKind.i64.wrap a2.Num_)) a2.At_).bind fun x23 =>
    some ((zag.mk ([97, 114, 114] : Str) x23.1 (0 : Int) [] [] [] a2.At_), x23.2.1, x23.2.2)
   else
    if (a2.zba == (8 : Int)) = true then
     (zeF n a0 a1 a2 (zag.mk [] (-1 : Int) (0 : Int) [] [] [] a2.At_)).bind fun x26 =>
     some (x26.1, x26.2.1, x26.2.2)
    else
     if (a2.zba == (9 : Int)) = true then
      (zcF n a0 a1 a2 (zag.mk [] (-1 : Int) (0 : Int) [] [] [] a2.At_)).bind fun x29 =>
      some (x29.1, a0, x29.2)
     else
      if (a2.zba == (10 : Int)) = true then
       (zcq n a0 a1 a2 (zag.mk [] (-1 : Int) (0 : Int) [] [] [] a2.At_) (-1 : Int)).bind fun x32 =>
       some (x32.1, x32.2.1, x32.2.2)
      else
       if (a2.zba == (11 : Int)) = true then
        (idxL a2.zav (0 : Int)).bind fun x35 =>
        (zbs n a0 a1 x35).bind fun x36 =>
        (idxL a2.zav (1 : Int)).bind fun x43 =>
        (zaQ a0 x36.2 x43 false).bind fun x44 =>
        need ((0 : Int) <= (2 : Int) /\ (2 : Int) <= (a2.zav.length : Int)) <|
        (zbV zaQ a2 n (0 : Int) x44.2.1 x44.2.2 (zag.mk ([105, 102] : Str) (-1 : Int) (0 : Int) [x36.1] x44.1 [] a2.At_)).bind fun y58 =>
        some (y58.2.2, y58.1, y58.2.1)
       else
        if (a2.zba == (12 : Int)) = true then
         (zcR a0 a1 a2 (zag.mk [] (-1 : Int) (0 : Int) [] [] [] a2.At_)).bind fun x73 =>
         some (x73.1, x73.2.1, x73.2.2)
        else
         if (a2.zba == (13 : Int)) = true then
          (zez n a0 a1 a2 (zag.mk [] (-1 : Int) (0 : Int) [] [] [] a2.At_) a3).bind fun x76 =>
          some (x76.1, x76.2.1, x76.2.2)
         else
          some ((zag.mk [] (-1 : Int) (0 : Int) [] [] [] a2.At_), a0, a1)
def zd7 (zaQ : zad -> zaf -> zaa -> Bool -> Option ((List zag) × zad × zaf)) (n : Nat) (a0 : zad) (a1 : zaf) (a2 : zaa) (a3 : zag) : Option (zag × zad × zaf) :=
 (idxL a2.zav (0 : Int)).bind fun x4 =>
 (zbs n a0 a1 x4).bind fun x5 =>
 (idxL a2.zav (1 : Int)).bind fun x6 =>
 (zbs n a0 x5.2 x6).bind fun x7 =>
 (za8 n a0 x7.2 (zas.mk a2.za0 (1 : Int) (0 : Int)) a2.At_).bind fun x21 =>
 (idxL a2.zav (2 : Int)).bind fun x23 =>
 (zaQ x21.2.1 x21.2.2 x23 false).bind fun x24 =>
 need ((0 : Int) <= (min (a0.zaG.length : Int) (x24.2.1.zaG.length : Int)) /\ (min (a0.zaG.length : Int) (x24.2.1.zaG.length : Int)) <= (x24.2.1.zaG.length : Int)) <|
 some (({ a3 with Op_ := ([102, 111, 114] : Str), Var_ := x21.1, zav := [x5.1, x7.1], zcY := x24.1 } : zag), ({ x24.2.1 with zaG := (x24.2.1.zaG.take ((min (a0.zaG.length : Int) (x24.2.1.zaG.length : Int)).toNat)) } : zad), x24.2.2)
def zbG : Nat -> (zad -> zaf -> zaa -> Bool -> Option ((List zag) × zad × zaf)) × (zad -> zaf -> zaa -> Bool -> Option (zag × zad × zaf)) × (zad -> zaf -> zaa -> zag -> Option (zag × zad × zaf))
 | 0 => (fun _ _ _ _ => none, fun _ _ _ _ => none, fun _ _ _ _ => none)
 | n + 1 => (zbZ (zbG n).2.1 n, zdc (zbG n).1 (zbG n).2.2 n, zd7 (zbG n).1 n)
def zcO (n : Nat) : zad -> zaf -> zaa -> Bool -> Option ((List zag) × zad × zaf) := (zbG n).1
def zcI (n : Nat) : zad -> zaf -> zaa -> Bool -> Option (zag × zad × zaf) := (zbG n).2.1
def zib (n : Nat) : zad -> zaf -> zaa -> zag -> Option (zag × zad × zaf) := (zbG n).2.2
def zhd (a0 : zaa) : Option Bool :=
 (if (decide ((0 : Int) < (a0.zav.length : Int))) = true then
    (idxL a0.zav (IntKind.i64.wrap ((a0.zav.length : Int) - (1 : Int)))).bind fun x4 =>
    some (x4.zba == (13 : Int))
   else
    some false).bind fun y2 =>
 some y2
def zbY (n : Nat) (a3 : zaa) : Nat -> Int -> zad -> zaf -> Option (zad × zaf)
 | 0, _, _, _ => none
 | c11 + 1, v7, v8, v9 =>
   if (decide (v7 < ((a3.zav.drop (max (IntKind.i64.wrap ((a3.zav.length : Int) - (1 : Int))) (0 : Int)).toNat).length : Int))) = true then
    (idxL (a3.zav.drop (max (IntKind.i64.wrap ((a3.zav.length : Int) - (1 : Int))) (0 : Int)).toNat) v7).bind fun x16 =>
    (idxL v8.p_.zaT v8.f_).bind fun x22 =>
    (zcO n v8 v9 x16 true).bind fun x25 =>
    (idxL x25.2.1.p_.zaT v8.f_).bind fun x26 =>
    ((idxL (x25.2.1.p_.zaT.set v8.f_.toNat { x26 with zcY := x25.1 }) v8.f_).bind fun x56 =>
      if (x56.zbN == (0 : Int)) = true then
       (zak ({ x25.2.1 with p_ := ⟨(x25.2.1.p_.zaT.set v8.f_.toNat { x26 with zcY := x25.1 })⟩ } : zad) x25.2.2 true (135 : Int) a3.At_).bind fun x71 =>
       some x71
      else
       (zhd x16).bind fun x73 =>
       (zak ({ x25.2.1 with p_ := ⟨(x25.2.1.p_.zaT.set v8.f_.toNat { x26 with zcY := x25.1 })⟩ } : zad) x25.2.2 x73 (135 : Int) a3.At_).bind fun x74 =>
       some x74).bind fun y55 =>
    zbY n a3 c11 (IntKind.i64.wrap (v7 + (1 : Int))) ({ x25.2.1 with p_ := ⟨(x25.2.1.p_.zaT.set v8.f_.toNat { x26 with zcY := x25.1 })⟩ } : zad) y55
   else
    some (v8, v9)
def zcr (n : Nat) (a0 : zad) (a1 : zaf) (a2 : Int) (a3 : zaa) : Option (zad × zaf) :=
 (zce n a0 a1 a2).bind fun x2 =>
 need ((0 : Int) <= (max (IntKind.i64.wrap ((a3.zav.length : Int) - (1 : Int))) (0 : Int)) /\ (max (IntKind.i64.wrap ((a3.zav.length : Int) - (1 : Int))) (0 : Int)) <= (a3.zav.length : Int)) <|
 (zbY n a3 n (0 : Int) x2.1 x2.2).bind fun y10 =>
 some (y10.1, y10.2)
end Go.Proofs.YtldnmmnnohnpkaaDoor.Abs
namespace Go.Proofs.YtldnmmnnohnpkaaDoor.Abs
open Go.RowKit
set_option linter.unusedVariables false
def zgz (rec_ : Int -> List Int -> Option (Bool × List Int)) (to : Int) : List Int -> List Int -> Option (Bool × List Int)
 | [], seen => some (false, seen)
 | k :: ks, seen =>
   if (k == to) = true then some (true, seen)
   else
    (idxL seen k).bind fun s =>
    if (IntKind.i64.wrap (s + (1 : Int)) == (1 : Int)) = true then
     (rec_ k (seen.set k.toNat (IntKind.i64.wrap (s + (1 : Int))))).bind fun r =>
     if r.1 = true then some (true, r.2) else zgz rec_ to ks r.2
    else zgz rec_ to ks (seen.set k.toNat (IntKind.i64.wrap (s + (1 : Int))))
def zdU : Nat -> zad -> Int -> Int -> List Int -> Option (Bool × List Int)
 | 0, _, _, _, _ => none
 | n + 1, c, fr, to, seen => (idxL c.zbi fr).bind fun l => need (l.length <= 1073741824) <| zgz (fun k s => zdU n c k to s) to l seen
abbrev Look := Int -> zaa -> zad -> zaf -> Option (zad × zaf)
def zeN (look : Look) : List zaa -> Nat -> zad -> zaf -> Option (zad × zaf)
 | [], _, c, w => some (c, w)
 | f :: l, i, c, w => if (w.e_ == (0 : Int)) = true then (look i f c w).bind fun r => zeN look l (i + 1) r.1 r.2 else zeN look l (i + 1) c w
def zff (nodes : List zaa) : List Look -> zad -> zaf -> Option (zad × zaf)
 | [], c, w => some (c, w)
 | look :: ls, c, w => (zeN look nodes 0 c w).bind fun r => zff nodes ls r.1 r.2
def zhZ (n len : Nat) (c : zad) : List zaa -> Nat -> zaf -> Option zaf
 | [], _, w => some w
 | f :: l, i, w => if (w.e_ == (0 : Int)) = true then (zdU n c i i (List.replicate len 0)).bind fun r => (zak c w (!r.1) (134 : Int) f.At_).bind fun w' => zhZ n len c l (i + 1) w' else zhZ n len c l (i + 1) w
def zfg (n : Nat) (a0 : Str) : Option (zbD × Int × Int) :=
 (zfR n a0).bind fun p =>
 if (p.2.1 != (0 : Int)) = true then some (⟨[]⟩, p.2.1, p.2.2)
 else
  (zdn n zad.Z ⟨0, 0⟩ p.1).bind fun a =>
  need (p.1.zav.length <= 1073741824) <|
  (zff p.1.zav [fun i f c w => zc2 n c w i f, fun i f c w => zcr n c w i f] a.1 a.2).bind fun b =>
  (zhZ n p.1.zav.length b.1 p.1.zav 0 b.2).bind fun w =>
  if (w.e_ != (0 : Int)) = true then some (⟨[]⟩, w.e_, w.zif) else some (b.1.p_, 0, 0)
end Go.Proofs.YtldnmmnnohnpkaaDoor.Abs
