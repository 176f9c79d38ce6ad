/-
 Plain models of functions. Written by a program of mine (gen.py) for this claim.
-/
import Derived.Test.YtldnmmnnohnpkaaGreatDoorPcS3
namespace Go.Proofs.YtldnmmnnohnpkaaGreatDoor.Abs
open Go.RowKit
set_option linter.unusedVariables false
structure zav where
 zoJ : Str
 args_ : Int
def zav.C (x : zav) : List V := [.lit (.string (bs x.zoJ)), .lit (.int .i64 x.args_)]
@[go_sem] theorem zav.C_eq (x : zav) : zav.C x = [.lit (.string (bs x.zoJ)), .lit (.int .i64 x.args_)] := _root_.id rfl
structure T_anon_sign_op where
 sign_ : Str
 op_ : Int
structure zbf where
 zaY : Int
 At_ : Int
 za6 : Str
 Num_ : Int
def zbf.C (x : zbf) : List V := [.lit (.int .i64 x.zaY), .lit (.int .i64 x.At_), .lit (.string (bs x.za6)), .lit (.int .u32 x.Num_)]
@[go_sem] theorem zbf.C_eq (x : zbf) : zbf.C x = [.lit (.int .i64 x.zaY), .lit (.int .i64 x.At_), .lit (.string (bs x.za6)), .lit (.int .u32 x.Num_)] := _root_.id rfl
structure zaa where
 zaY : Int
 At_ : Int
 za6 : Str
 Num_ : Int
 zal : (List zaa)
mutual
def zaa.C : zaa -> List V
 | ⟨a0, a1, a2, a3, a4⟩ => [.lit (.int .i64 a0), .lit (.int .i64 a1), .lit (.string (bs a2)), .lit (.int .u32 a3), .list .none (zaa.CL a4)]
def zaa.CL : List zaa -> List (List V)
 | [] => []
 | x :: l => zaa.C x :: zaa.CL l
end
theorem zaa.CL_eq (l : List zaa) : zaa.CL l = l.map zaa.C := by
 induction l with
 | nil => rfl
 | cons x l ih => rw [zaa.CL, ih]; rfl
@[go_sem] theorem zaa.C_eq (x : zaa) : zaa.C x = [.lit (.int .i64 x.zaY), .lit (.int .i64 x.At_), .lit (.string (bs x.za6)), .lit (.int .u32 x.Num_), .list .none (x.zal.map zaa.C)] := by
 cases x; simp only [zaa.C, zaa.CL_eq]
structure zab where
 l_ : (List zbf)
 at_ : Int
 zfY : Int
 e_ : Int
 zjp : Int
def zab.C (x : zab) : List V := [.list .none (x.l_.map zbf.C), .lit (.int .i64 x.at_), .lit (.int .i64 x.zfY), .lit (.int .i64 x.e_), .lit (.int .i64 x.zjp)]
@[go_sem] theorem zab.C_eq (x : zab) : zab.C x = [.list .none (x.l_.map zbf.C), .lit (.int .i64 x.at_), .lit (.int .i64 x.zfY), .lit (.int .i64 x.e_), .lit (.int .i64 x.zjp)] := _root_.id rfl
structure zan where
 zem : Str
 zaY : Int
 zgw : Int
def zan.C (x : zan) : List V := [.lit (.string (bs x.zem)), .lit (.int .i64 x.zaY), .lit (.int .i64 x.zgw)]
@[go_sem] theorem zan.C_eq (x : zan) : zan.C x = [.lit (.string (bs x.zem)), .lit (.int .i64 x.zaY), .lit (.int .i64 x.zgw)] := _root_.id rfl
structure zae where
 Op_ : Str
 za7 : Int
 N_ : Int
 Var_ : Int
 zal : (List zae)
 At_ : Int
mutual
def zae.C : zae -> List V
 | ⟨a0, a1, a2, a3, a4, a5⟩ => [.lit (.string (bs a0)), .lit (.int .i64 a1), .lit (.int .u32 a2), .lit (.int .i64 a3), .list .none (zae.CL a4), .lit (.int .i64 a5)]
def zae.CL : List zae -> List (List V)
 | [] => []
 | x :: l => zae.C x :: zae.CL l
end
theorem zae.CL_eq (l : List zae) : zae.CL l = l.map zae.C := by
 induction l with
 | nil => rfl
 | cons x l ih => rw [zae.CL, ih]; rfl
@[go_sem] theorem zae.C_eq (x : zae) : zae.C x = [.lit (.string (bs x.Op_)), .lit (.int .i64 x.za7), .lit (.int .u32 x.N_), .lit (.int .i64 x.Var_), .list .none (x.zal.map zae.C), .lit (.int .i64 x.At_)] := by
 cases x; simp only [zae.C, zae.CL_eq]
structure zaf where
 Op_ : Str
 Var_ : Int
 zfe : Int
 zal : (List zae)
 zb1 : (List zaf)
 zeW : (List zaf)
 At_ : Int
mutual
def zaf.C : zaf -> List V
 | ⟨a0, a1, a2, a3, a4, a5, a6⟩ => [.lit (.string (bs a0)), .lit (.int .i64 a1), .lit (.int .i64 a2), .list .none (a3.map zae.C), .list .none (zaf.CL a4), .list .none (zaf.CL a5), .lit (.int .i64 a6)]
def zaf.CL : List zaf -> List (List V)
 | [] => []
 | x :: l => zaf.C x :: zaf.CL l
end
theorem zaf.CL_eq (l : List zaf) : zaf.CL l = l.map zaf.C := by
 induction l with
 | nil => rfl
 | cons x l ih => rw [zaf.CL, ih]; rfl
@[go_sem] theorem zaf.C_eq (x : zaf) : zaf.C x = [.lit (.string (bs x.Op_)), .lit (.int .i64 x.Var_), .lit (.int .i64 x.zfe), .list .none (x.zal.map zae.C), .list .none (x.zb1.map zaf.C), .list .none (x.zeW.map zaf.C), .lit (.int .i64 x.At_)] := by
 cases x; simp only [zaf.C, zaf.CL_eq]
structure zau where
 zem : Str
 zcR : Bool
 zbj : Int
 zaP : Int
 za9 : (List zan)
 zb1 : (List zaf)
def zau.C (x : zau) : List V := [.lit (.string (bs x.zem)), .lit (.bool x.zcR), .lit (.int .i64 x.zbj), .lit (.int .i64 x.zaP), .list .none (x.za9.map zan.C), .list .none (x.zb1.map zaf.C)]
@[go_sem] theorem zau.C_eq (x : zau) : zau.C x = [.lit (.string (bs x.zem)), .lit (.bool x.zcR), .lit (.int .i64 x.zbj), .lit (.int .i64 x.zaP), .list .none (x.za9.map zan.C), .list .none (x.zb1.map zaf.C)] := _root_.id rfl
structure zbJ where
 zay : (List zau)
def zbJ.C (x : zbJ) : List V := [.list .none (x.zay.map zau.C)]
@[go_sem] theorem zbJ.C_eq (x : zbJ) : zbJ.C x = [.list .none (x.zay.map zau.C)] := _root_.id rfl
def zbJ.Z : zbJ := ⟨[]⟩
structure zag where
 e_ : Int
 zjp : Int
structure zad where
 p_ : zbJ
 f_ : Int
 zaD : List Int
 zaV : List (List Int)
 at_ : Int
def zad.Z : zad := ⟨zbJ.Z, -1, [], [], 0⟩
def ckC (F fp S C : V) (x : zad) (y : zag) : List V := [F, fp, S, C, .lit (.int .i64 x.at_), .lit (.int .i64 y.e_), .lit (.int .i64 y.zjp)]
@[go_sem] theorem ckC_eq {F fp S C : V} {x : zad} {y : zag} : ckC F fp S C x y = [F, fp, S, C, .lit (.int .i64 x.at_), .lit (.int .i64 y.e_), .lit (.int .i64 y.zjp)] := _root_.id rfl
def zbN : List Str := [[45, 62], [46, 46], [61, 61], [60, 60, 60], [60, 60], [62, 62], [60], [40], [41], [123], [125], [91], [93], [44], [59], [58], [61], [43], [45], [42], [47], [37], [38], [124], [94], [126]]
@[go_sem] theorem zoQ : (cA cS zbN).length = 26 := by kernel_rfl
@[go_sem] theorem zn1 : (cA cS zbN).take 26 = (cA cS zbN) := by kernel_rfl
def zaQ : List Str := [[102, 110], [101, 120, 112, 111, 114, 116], [108, 101, 116], [118, 97, 114], [97, 114, 114], [105, 102], [101, 108, 115, 101], [102, 111, 114], [105, 110], [114, 101, 116, 117, 114, 110], [112, 117, 98], [117, 51, 50], [117, 54, 52]]
@[go_sem] theorem znJ : (cA cS zaQ).length = 13 := by kernel_rfl
@[go_sem] theorem zmO : zjU 1 13 (cA cS zaQ) = zaQ.map cS := _root_.id rfl
def zba : List (List Str) := [[[124], [], []], [[94], [], []], [[38], [], []], [[61, 61], [60], []], [[60, 60], [62, 62], [60, 60, 60]], [[43], [45], []], [[42], [47], [37]]]
def zaW : List zav := [(zav.mk [115, 101, 108, 101, 99, 116] 3), (zav.mk [108, 111, 110, 103] 1), (zav.mk [108, 111] 1), (zav.mk [104, 105] 1), (zav.mk [119, 105, 100, 101] 2)]
@[go_sem] theorem znK : (cA zav.C zaW).length = 10 := by kernel_rfl
@[go_sem] theorem zm9 : (cA zav.C zaW).take 10 = (cA zav.C zaW) := by kernel_rfl
@[go_sem] theorem zmh : (cA zav.C zaW).map V.shared = (cA zav.C zaW) := _root_.id rfl
def zi3 (a0 : Int) : Option Bool :=
 (if (a0 == (32 : Int)) = true then
    some true
   else
    if (a0 == (9 : Int)) = true then
     some true
    else
     if (a0 == (13 : Int)) = true then
      some true
     else
      some (a0 == (10 : Int))).bind fun y1 =>
 some y1
def zbS (a0 : Str) (a1 : Str) : Option Bool :=
 (if (decide ((a1.length : Int) <= (a0.length : Int))) = true then
    need ((0 : Int) <= (a1.length : Int) /\ (a1.length : Int) <= (a0.length : Int)) <|
    some (decide ((a0.take (a1.length : Int).toNat) = a1))
   else
    some false).bind fun y1 =>
 some y1
def zed (a0 : Str) (a1 : Str) : Option Bool :=
 (zbS a0 a1).bind fun x1 =>
 some x1
def zeA (a0 : Str) (a1 : Int) : Option Int := some (Lib.indexByte a0 a1.toNat.toUInt8)
def zdW (a0 : Str) (a1 : Int) : Option Int :=
 (zeA a0 a1).bind fun x1 =>
 some x1
def zec (a0 : Str) (a1 : Int) : Option Int :=
 (zdW a0 a1).bind fun x1 =>
 some x1
def zfc (a0 : Str) : Nat -> Int -> Option (Int ⊕ Int)
 | 0, _ => none
 | c4 + 1, v2 =>
   if (decide (v2 < (a0.length : Int))) = true then
    (idxL a0 v2).bind fun x9 =>
    (zi3 (x9.toNat : Int)).bind fun x10 =>
    if x10 = true then
     zfc a0 c4 (IntKind.i64.wrap (v2 + (1 : Int)))
    else
     need ((0 : Int) <= v2 /\ v2 <= (a0.length : Int)) <|
     (zed (a0.drop v2.toNat) ([47, 47] : Str)).bind fun x17 =>
     if x17 = true then
      need ((0 : Int) <= v2 /\ v2 <= (a0.length : Int)) <|
      (zec (a0.drop v2.toNat) (10 : Int)).bind fun x22 =>
      if (decide (x22 < (0 : Int))) = true then
       some (.inr (a0.length : Int))
      else
       zfc a0 c4 (IntKind.i64.wrap (v2 + x22))
     else
      some (.inr v2)
   else
    some (.inl v2)
def zjg (n : Nat) (a0 : Str) (a1 : Int) : Option Int :=
 (zfc a0 n a1).bind fun y3 =>
 y3.elim (fun y3a =>
  some y3a) (fun y3a =>
  some y3a)
def zgN (a0 : Int) : Option Bool :=
 (if (decide ((97 : Int) <= a0)) = true then
    if (decide (a0 <= (122 : Int))) = true then
     some true
    else
     some (a0 == (95 : Int))
   else
    some (a0 == (95 : Int))).bind fun y1 =>
 some y1
def zhU (a0 : Int) : Option Bool :=
 (if (decide ((48 : Int) <= a0)) = true then
    some (decide (a0 <= (57 : Int)))
   else
    some false).bind fun y1 =>
 some y1
def zfr (a0 : Str) : Nat -> Int -> Option (Unit ⊕ Str)
 | 0, _ => none
 | c4 + 1, v2 =>
   if (decide (v2 < (a0.length : Int))) = true then
    ((idxL a0 v2).bind fun x10 =>
      (zgN (x10.toNat : Int)).bind fun x11 =>
      if (!x11) = true then
       (zhU (x10.toNat : Int)).bind fun x18 =>
       some (!x18)
      else
       some false).bind fun y9 =>
    if y9 = true then
     need ((0 : Int) <= v2 /\ v2 <= (a0.length : Int)) <|
     some (.inr (a0.take v2.toNat))
    else
     zfr a0 c4 (IntKind.i64.wrap (v2 + (1 : Int)))
   else
    some (.inl ())
def zjO (n : Nat) (a0 : Str) : Option Str :=
 (zfr a0 n (0 : Int)).bind fun y3 =>
 y3.elim (fun y3a =>
  some a0) (fun y3a =>
  some y3a)
def zcL (a0 : Str) (a1 : Str) : Option (Str × Bool) :=
 (zbS a0 a1).bind fun x1 =>
 if (!x1) = true then
  some (a0, false)
 else
  need ((0 : Int) <= (a1.length : Int) /\ (a1.length : Int) <= (a0.length : Int)) <|
  some ((a0.drop (a1.length : Int).toNat), true)
def zeD (a0 : Str) (a1 : Str) : Option (Str × Bool) :=
 (zcL a0 a1).bind fun x1 =>
 some (x1.1, x1.2)
def zfb (x1 : (Str × Bool)) : Nat -> Int -> Int -> Option (Int ⊕ (Int × Bool))
 | 0, _, _ => none
 | c8 + 1, v5, v6 =>
   if (decide (v6 < (x1.1.length : Int))) = true then
    need ((0 : Int) <= (16 : Int) /\ (16 : Int) <= (([48, 49, 50, 51, 52, 53, 54, 55, 56, 57, 97, 98, 99, 100, 101, 102] : Str).length : Int)) <|
    (idxL x1.1 v6).bind fun x13 =>
    (zec (([48, 49, 50, 51, 52, 53, 54, 55, 56, 57, 97, 98, 99, 100, 101, 102] : Str).take (16 : Int).toNat) (x13.toNat : Int)).bind fun x14 =>
    (if (decide (x14 < (0 : Int))) = true then
       some true
      else
       some (decide ((4294967295 : Int) < (IntKind.i64.wrap ((IntKind.i64.wrap (v5 * (16 : Int))) + x14))))).bind fun y22 =>
    if y22 = true then
     some (.inr ((0 : Int), false))
    else
     zfb x1 c8 (IntKind.i64.wrap ((IntKind.i64.wrap (v5 * (16 : Int))) + x14)) (IntKind.i64.wrap (v6 + (1 : Int)))
   else
    some (.inl v5)
def zfa (a0 : Str) : Nat -> Int -> Int -> Option (Int ⊕ (Int × Bool))
 | 0, _, _ => none
 | c32 + 1, v29, v30 =>
   if (decide (v30 < (a0.length : Int))) = true then
    need ((0 : Int) <= (10 : Int) /\ (10 : Int) <= (([48, 49, 50, 51, 52, 53, 54, 55, 56, 57, 97, 98, 99, 100, 101, 102] : Str).length : Int)) <|
    (idxL a0 v30).bind fun x37 =>
    (zec (([48, 49, 50, 51, 52, 53, 54, 55, 56, 57, 97, 98, 99, 100, 101, 102] : Str).take (10 : Int).toNat) (x37.toNat : Int)).bind fun x38 =>
    (if (decide (x38 < (0 : Int))) = true then
       some true
      else
       some (decide ((4294967295 : Int) < (IntKind.i64.wrap ((IntKind.i64.wrap (v29 * (10 : Int))) + x38))))).bind fun y46 =>
    if y46 = true then
     some (.inr ((0 : Int), false))
    else
     zfa a0 c32 (IntKind.i64.wrap ((IntKind.i64.wrap (v29 * (10 : Int))) + x38)) (IntKind.i64.wrap (v30 + (1 : Int)))
   else
    some (.inl v29)
def zi2 (n : Nat) (a0 : Str) : Option (Int × Bool) :=
 (zeD a0 ([48, 120] : Str)).bind fun x1 =>
 if x1.2 = true then
  (zfb x1 n (0 : Int) (0 : Int)).bind fun y7 =>
  y7.elim (fun y7a =>
   some ((IntKind.u32.wrap y7a), (decide (x1.1 ≠ ([] : Str))))) (fun y7a =>
   some y7a)
 else
  (zfa a0 n (0 : Int) (0 : Int)).bind fun y31 =>
  y31.elim (fun y31a =>
   some ((IntKind.u32.wrap y31a), (decide (a0 ≠ ([] : Str))))) (fun y31a =>
   some y31a)
def zfs (a0 : Str) : Nat -> Int -> Option (Unit ⊕ Str)
 | 0, _ => none
 | c4 + 1, v2 =>
   if (decide (v2 < (26 : Int))) = true then
    (idxL zbN v2).bind fun x9 =>
    (zed a0 x9).bind fun x17 =>
    if x17 = true then
     some (.inr x9)
    else
     zfs a0 c4 (IntKind.i64.wrap (v2 + (1 : Int)))
   else
    some (.inl ())
def zjP (n : Nat) (a0 : Str) : Option Str :=
 (zfs a0 n (0 : Int)).bind fun y3 =>
 y3.elim (fun y3a =>
  some ([] : Str)) (fun y3a =>
  some y3a)
def zjQ (n : Nat) (a0 : Str) (a1 : Int) : Option (zbf × Int) :=
 need ((0 : Int) <= a1 /\ a1 <= (a0.length : Int)) <|
 (zjO n (a0.drop a1.toNat)).bind fun x2 =>
 (idxL a0 a1).bind fun x7 =>
 (zgN (x7.toNat : Int)).bind fun x8 =>
 if x8 = true then
  if (decide ((32 : Int) < (x2.length : Int))) = true then
   some ((zbf.mk (0 : Int) (0 : Int) [] (0 : Int)), (102 : Int))
  else
   some ((zbf.mk (1 : Int) a1 x2 (0 : Int)), (0 : Int))
 else
  (zhU (x7.toNat : Int)).bind fun x16 =>
  if x16 = true then
   (zi2 n x2).bind fun x19 =>
   if (!x19.2) = true then
    some ((zbf.mk (0 : Int) (0 : Int) [] (0 : Int)), (101 : Int))
   else
    some ((zbf.mk (2 : Int) a1 x2 x19.1), (0 : Int))
  else
   need ((0 : Int) <= a1 /\ a1 <= (a0.length : Int)) <|
   (zjP n (a0.drop a1.toNat)).bind fun x22 =>
   if (decide (x22 = ([] : Str))) = true then
    some ((zbf.mk (0 : Int) (0 : Int) [] (0 : Int)), (100 : Int))
   else
    some ((zbf.mk (3 : Int) a1 x22 (0 : Int)), (0 : Int))
def zeR (n : Nat) (a0 : Str) : Nat -> (List zbf) -> Int -> Option ((List zbf) ⊕ ((List zbf) × Int × Int))
 | 0, _, _ => none
 | c8 + 1, v5, v6 =>
   if (decide (v6 < (a0.length : Int))) = true then
    (zjQ n a0 v6).bind fun x13 =>
    if (x13.2 != (0 : Int)) = true then
     some (.inr ([], x13.2, v6))
    else
     need (v5.length + [x13.1].length <= 1073741824) <|
     (zjg n a0 (IntKind.i64.wrap (v6 + (x13.1.za6.length : Int)))).bind fun x20 =>
     zeR n a0 c8 (v5 ++ [x13.1]) x20
   else
    some (.inl v5)
def zhT (n : Nat) (a0 : Str) : Option ((List zbf) × Int × Int) :=
 if (decide ((65536 : Int) < (a0.length : Int))) = true then
  some ([], (161 : Int), (0 : Int))
 else
  (zjg n a0 (0 : Int)).bind fun x2 =>
  (zeR n a0 n [] x2).bind fun y7 =>
  y7.elim (fun y7a =>
   need (y7a.length + [(zbf.mk (4 : Int) (a0.length : Int) [] (0 : Int))].length <= 1073741824) <|
   some ((y7a ++ [(zbf.mk (4 : Int) (a0.length : Int) [] (0 : Int))]), (0 : Int), (0 : Int))) (fun y7a =>
   some y7a)
def zby (a0 : zab) : Option zbf :=
 (idxL a0.l_ a0.at_).bind fun x2 =>
 some x2
def zcn (a0 : zab) (a1 : Int) : Option zab :=
 if (a0.e_ == (0 : Int)) = true then
  (zby a0).bind fun x2 =>
  some ({ a0 with e_ := a1, zjp := x2.At_ } : zab)
 else
  some a0
def zbF (a0 : zab) (a1 : Int) : Option (zaa × zab) :=
 if (decide ((16384 : Int) < (IntKind.i64.wrap (a0.zfY + (1 : Int))))) = true then
  (zcn ({ a0 with zfY := (IntKind.i64.wrap (a0.zfY + (1 : Int))) } : zab) (136 : Int)).bind fun x3 =>
  (zby x3).bind fun x5 =>
  some ((zaa.mk a1 x5.At_ [] (0 : Int) []), x3)
 else
  (zby ({ a0 with zfY := (IntKind.i64.wrap (a0.zfY + (1 : Int))) } : zab)).bind fun x7 =>
  some ((zaa.mk a1 x7.At_ [] (0 : Int) []), ({ a0 with zfY := (IntKind.i64.wrap (a0.zfY + (1 : Int))) } : zab))
def zbv (a0 : (List Str)) (a1 : Str) : Nat -> Int -> Option (Unit ⊕ Int)
 | 0, _ => none
 | c4 + 1, v2 =>
   if (decide (v2 < (a0.length : Int))) = true then
    (idxL a0 v2).bind fun x9 =>
    if (decide (a1 = x9)) = true then
     some (.inr v2)
    else
     zbv a0 a1 c4 (IntKind.i64.wrap (v2 + (1 : Int)))
   else
    some (.inl ())
def zc4 (n : Nat) (a0 : (List Str)) (a1 : Str) : Option Int :=
 (zbv a0 a1 n (0 : Int)).bind fun y3 =>
 y3.elim (fun y3a =>
  some (-1 : Int)) (fun y3a =>
  some y3a)
def zcB (n : Nat) (a0 : (List Str)) (a1 : Str) : Option Bool :=
 (zc4 n a0 a1).bind fun x1 =>
 some (decide ((0 : Int) <= x1))
def zgM (n : Nat) (a0 : Str) : Option Bool :=
 (zcB n zaQ a0).bind fun x1 =>
 some x1
def zcC (n : Nat) (a0 : zab) (a1 : Str) : Option Bool :=
 (zby a0).bind fun x1 =>
 (if (a0.e_ == (0 : Int)) = true then
    if (decide (x1.za6 = a1)) = true then
     if (x1.zaY == (3 : Int)) = true then
      some true
     else
      if (x1.zaY == (1 : Int)) = true then
       (zgM n a1).bind fun x9 =>
       some x9
      else
       some false
    else
     some false
   else
    some false).bind fun y4 =>
 some y4
def zaH (n : Nat) (a0 : zab) (a1 : Str) : Option (Bool × zab) :=
 (zcC n a0 a1).bind fun x1 =>
 if (!x1) = true then
  some (false, a0)
 else
  some (true, ({ a0 with at_ := (IntKind.i64.wrap (a0.at_ + (1 : Int))) } : zab))
def zaC (n : Nat) (a0 : zab) (a1 : Str) : Option zab :=
 (zaH n a0 a1).bind fun x1 =>
 if (!x1.1) = true then
  (zcn x1.2 (110 : Int)).bind fun x4 =>
  some x4
 else
  some x1.2
def zbw (n : Nat) (a0 : zab) : Option (Str × zab) :=
 (zby a0).bind fun x1 =>
 (if (a0.e_ != (0 : Int)) = true then
    some true
   else
    if (x1.zaY != (1 : Int)) = true then
     some true
    else
     (zgM n x1.za6).bind fun x7 =>
     some x7).bind fun y4 =>
 if y4 = true then
  (zcn a0 (110 : Int)).bind fun x13 =>
  some (([] : Str), x13)
 else
  some (x1.za6, ({ a0 with at_ := (IntKind.i64.wrap (a0.at_ + (1 : Int))) } : zab))
def zcW (a0 : zab) : Option (Int × zab) :=
 (zby a0).bind fun x1 =>
 (if (a0.e_ != (0 : Int)) = true then
    some true
   else
    some (x1.zaY != (2 : Int))).bind fun y4 =>
 if y4 = true then
  (zcn a0 (110 : Int)).bind fun x10 =>
  some ((0 : Int), x10)
 else
  some (x1.Num_, ({ a0 with at_ := (IntKind.i64.wrap (a0.at_ + (1 : Int))) } : zab))
def zdC (n : Nat) (a0 : zab) : Option (Int × zab) :=
 (zaC n a0 ([91] : Str)).bind fun x1 =>
 (zcW x1).bind fun x3 =>
 (zaC n x3.2 ([93] : Str)).bind fun x5 =>
 some (x3.1, x5)
def zeN : List Str := [([112, 117, 98] : Str), ([117, 51, 50] : Str), ([117, 54, 52] : Str)]
def zcl (n : Nat) : Nat -> Int -> zab -> zaa -> zaa -> Option ((zab × zaa × zaa) ⊕ (zaa × zab))
 | 0, _, _, _, _ => none
 | c15 + 1, v10, v11, v12, v13 =>
   if (decide (v10 < (3 : Int))) = true then
    (idxL zeN v10).bind fun x20 =>
    (zaH n v11 x20).bind fun x29 =>
    if x29.1 = true then
     some (.inr (({ v13 with Num_ := (IntKind.u32.wrap (IntKind.i64.wrap ((1 : Int) + v10))) } : zaa), x29.2))
    else
     zcl n c15 (IntKind.i64.wrap (v10 + (1 : Int))) x29.2 v12 v13
   else
    some (.inl (v11, v12, v13))
def zd4 (n : Nat) (a0 : zab) : Option (zaa × zab) :=
 (zbF a0 (3 : Int)).bind fun x2 =>
 (zbw n x2.2).bind fun x5 =>
 (zaC n x5.2 ([58] : Str)).bind fun x7 =>
 (zcl n n (0 : Int) x7 (zaa.mk (0 : Int) (0 : Int) [] (0 : Int) []) ({ x2.1 with za6 := x5.1 } : zaa)).bind fun y14 =>
 y14.elim (fun y14a =>
  (zbF y14a.1 (14 : Int)).bind fun x37 =>
  (zdC n x37.2).bind fun x40 =>
  some (({ y14a.2.2 with Num_ := (4 : Int), zal := [({ x37.1 with Num_ := x40.1 } : zaa)] } : zaa), x40.2)) (fun y14a =>
  some y14a)
def zbG (n : Nat) : Nat -> (List zaa) -> zab -> Option ((List zaa) × zab)
 | 0, _, _ => none
 | c11 + 1, v8, v9 =>
   if (v9.e_ == (0 : Int)) = true then
    (zd4 n v9).bind fun x16 =>
    need (v8.length + [x16.1].length <= 1073741824) <|
    (zaH n x16.2 ([44] : Str)).bind fun x21 =>
    if (!x21.1) = true then
     some ((v8 ++ [x16.1]), x21.2)
    else
     zbG n c11 (v8 ++ [x16.1]) x21.2
   else
    some (v8, v9)
def zbU (n : Nat) (a0 : zab) : Option ((List zaa) × zab) :=
 (zaC n a0 ([40] : Str)).bind fun x1 =>
 (zaH n x1 ([41] : Str)).bind fun x3 =>
 if x3.1 = true then
  some ([], x3.2)
 else
  ((zbG n n [] x3.2).bind fun y10 =>
    some (y10.1, y10.2)).bind fun y6 =>
  (zaC n y6.2 ([41] : Str)).bind fun x27 =>
  some (y6.1, x27)
def zdE (a0 : zab) (a1 : Int) : Option zab :=
 if (decide ((64 : Int) < a1)) = true then
  (zcn a0 (111 : Int)).bind fun x2 =>
  some x2
 else
  some a0
def zcv (n : Nat) (x1 : (List Str)) (a0 : zab) : Nat -> Int -> Option (Unit ⊕ Str)
 | 0, _ => none
 | c15 + 1, v13 =>
   if (decide (v13 < (3 : Int))) = true then
    (idxL x1 v13).bind fun x20 =>
    (if (decide (x20 ≠ ([] : Str))) = true then
       (zcC n a0 x20).bind fun x31 =>
       some x31
      else
       some false).bind fun y29 =>
    if y29 = true then
     some (.inr x20)
    else
     zcv n x1 a0 c15 (IntKind.i64.wrap (v13 + (1 : Int)))
   else
    some (.inl ())
def zdD (n : Nat) (a0 : zab) (a1 : Int) : Option Str :=
 (idxL zba a1).bind fun x1 =>
 (zcv n x1 a0 n (0 : Int)).bind fun y14 =>
 y14.elim (fun y14a =>
  some ([] : Str)) (fun y14a =>
  some y14a)
def zbn (zbt : zab -> Int -> Option (zaa × zab)) (n : Nat) (a1 : Int) : Nat -> (List zaa) -> zab -> Option ((List zaa) × zab)
 | 0, _, _ => none
 | c11 + 1, v8, v9 =>
   if (v9.e_ == (0 : Int)) = true then
    (zbt v9 a1).bind fun x16 =>
    need (v8.length + [x16.1].length <= 1073741824) <|
    (zaH n x16.2 ([44] : Str)).bind fun x21 =>
    if (!x21.1) = true then
     some ((v8 ++ [x16.1]), x21.2)
    else
     zbn zbt n a1 c11 (v8 ++ [x16.1]) x21.2
   else
    some (v8, v9)
def zb5 (zbt : zab -> Int -> Option (zaa × zab)) (n : Nat) (a0 : zab) (a1 : Int) : Option ((List zaa) × zab) :=
 (zaC n a0 ([40] : Str)).bind fun x1 =>
 (zaH n x1 ([41] : Str)).bind fun x3 =>
 if x3.1 = true then
  some ([], x3.2)
 else
  ((zbn zbt n a1 n [] x3.2).bind fun y10 =>
    some (y10.1, y10.2)).bind fun y6 =>
  (zaC n y6.2 ([41] : Str)).bind fun x27 =>
  some (y6.1, x27)
def zdO (za4 : zab -> Int -> Int -> Option (zaa × zab)) (n : Nat) (a0 : zab) (a1 : Int) : Option (zaa × zab) :=
 (za4 a0 (0 : Int) a1).bind fun x2 =>
 some (x2.1, x2.2)
def zcm (za4 : zab -> Int -> Int -> Option (zaa × zab)) (n : Nat) (a1 : Int) (a2 : Int) : Nat -> Str -> zab -> zaa -> Option (zab × zaa)
 | 0, _, _, _ => none
 | c15 + 1, v11, v12, v13 =>
   if (decide (v11 ≠ ([] : Str))) = true then
    (zbF v12 (19 : Int)).bind fun x20 =>
    (zaC n x20.2 v11).bind fun x23 =>
    (za4 x23 (IntKind.i64.wrap (a1 + (1 : Int))) a2).bind fun x25 =>
    if (a1 == (3 : Int)) = true then
     some (x25.2, ({ x20.1 with za6 := v11, zal := [v13, x25.1] } : zaa))
    else
     (zdD n x25.2 a1).bind fun x28 =>
     zcm za4 n a1 a2 c15 x28 x25.2 ({ x20.1 with za6 := v11, zal := [v13, x25.1] } : zaa)
   else
    some (v12, v13)
def zds (za2 : zab -> Int -> Option (zaa × zab)) (za4 : zab -> Int -> Int -> Option (zaa × zab)) (n : Nat) (a0 : zab) (a1 : Int) (a2 : Int) : Option (zaa × zab) :=
 if (a1 == (7 : Int)) = true then
  (za2 a0 a2).bind fun x3 =>
  some (x3.1, x3.2)
 else
  (za4 a0 (IntKind.i64.wrap (a1 + (1 : Int))) a2).bind fun x5 =>
  (zdD n x5.2 a1).bind fun x8 =>
  (zcm za4 n a1 a2 n x8 x5.2 x5.1).bind fun y14 =>
  some (y14.2, y14.1)
def zdI : List Str := [([126] : Str), ([45] : Str)]
def zb3 (za2 : zab -> Int -> Option (zaa × zab)) (n : Nat) (a1 : Int) : Nat -> Int -> zab -> zaa -> zaa -> Option ((zab × zaa × zaa) ⊕ (zaa × zab))
 | 0, _, _, _, _ => none
 | c23 + 1, v18, v19, v20, v21 =>
   if (decide (v18 < (2 : Int))) = true then
    (idxL zdI v18).bind fun x28 =>
    (zaH n v19 x28).bind fun x37 =>
    if x37.1 = true then
     (za2 x37.2 (IntKind.i64.wrap (a1 + (1 : Int)))).bind fun x40 =>
     some (.inr (({ v20 with zaY := (18 : Int), za6 := x28, zal := [x40.1] } : zaa), x40.2))
    else
     zb3 za2 n a1 c23 (IntKind.i64.wrap (v18 + (1 : Int))) x37.2 v20 v21
   else
    some (.inl (v19, v20, v21))
def zcV (zbB : zab -> Int -> Option (zaa × zab)) (za2 : zab -> Int -> Option (zaa × zab)) (zcr : zab -> Int -> Option ((List zaa) × zab)) (n : Nat) (a0 : zab) (a1 : Int) : Option (zaa × zab) :=
 (zdE a0 a1).bind fun x4 =>
 (zaH n x4 ([40] : Str)).bind fun x6 =>
 if x6.1 = true then
  (zbB x6.2 (IntKind.i64.wrap (a1 + (1 : Int)))).bind fun x9 =>
  (zaC n x9.2 ([41] : Str)).bind fun x12 =>
  some (x9.1, x12)
 else
  (zbF x6.2 (15 : Int)).bind fun x14 =>
  (zb3 za2 n a1 n (0 : Int) x14.2 x14.1 (zaa.mk (0 : Int) (0 : Int) [] (0 : Int) [])).bind fun y22 =>
  y22.elim (fun y22a =>
   (if (y22a.1.e_ == (0 : Int)) = true then
      (zby y22a.1).bind fun x72 =>
      some (x72.zaY == (2 : Int))
     else
      some false).bind fun y70 =>
   if y70 = true then
    (zcW y22a.1).bind fun x78 =>
    some (({ y22a.2.1 with zaY := (14 : Int), Num_ := x78.1 } : zaa), x78.2)
   else
    (zbw n y22a.1).bind fun x80 =>
    ((zcC n x80.2 ([40] : Str)).bind fun x83 =>
      if x83 = true then
       (zcr x80.2 a1).bind fun x86 =>
       some (x86.2, ({ y22a.2.1 with zaY := (17 : Int), za6 := x80.1, zal := x86.1 } : zaa))
      else
       (zaH n x80.2 ([91] : Str)).bind fun x88 =>
       if x88.1 = true then
        (zbB x88.2 (IntKind.i64.wrap (a1 + (1 : Int)))).bind fun x91 =>
        (zaC n x91.2 ([93] : Str)).bind fun x93 =>
        some (x93, ({ y22a.2.1 with zaY := (16 : Int), za6 := x80.1, zal := [x91.1] } : zaa))
       else
        some (x88.2, ({ y22a.2.1 with za6 := x80.1 } : zaa))).bind fun y82 =>
    some (y82.2, y82.1)) (fun y22a =>
   some y22a)
def zcI (zbB : zab -> Int -> Option (zaa × zab)) (n : Nat) (a0 : zab) (a1 : Int) : Option (zaa × zab) :=
 (zbB a0 (IntKind.i64.wrap (a1 + (1 : Int)))).bind fun x2 =>
 some (x2.1, x2.2)
def zat : Nat -> (zab -> Int -> Option ((List zaa) × zab)) × (zab -> Int -> Option (zaa × zab)) × (zab -> Int -> Int -> Option (zaa × zab)) × (zab -> Int -> Option (zaa × zab)) × (zab -> Int -> Option (zaa × zab))
 | 0 => (fun _ _ => none, fun _ _ => none, fun _ _ _ => none, fun _ _ => none, fun _ _ => none)
 | n + 1 => (zb5 (zat n).2.2.2.2 n, zdO (zat n).2.2.1 n, zds (zat n).2.2.2.1 (zat n).2.2.1 n, zcV (zat n).2.1 (zat n).2.2.2.1 (zat n).1 n, zcI (zat n).2.1 n)
def zgk (n : Nat) : zab -> Int -> Option ((List zaa) × zab) := (zat n).1
def zbH (n : Nat) : zab -> Int -> Option (zaa × zab) := (zat n).2.1
def zjk (n : Nat) : zab -> Int -> Int -> Option (zaa × zab) := (zat n).2.2.1
def zis (n : Nat) : zab -> Int -> Option (zaa × zab) := (zat n).2.2.2.1
def zhF (n : Nat) : zab -> Int -> Option (zaa × zab) := (zat n).2.2.2.2
def zdk (n : Nat) (a0 : zab) (a1 : zaa) (a2 : Int) : Option (zaa × zab) :=
 (zbw n a0).bind fun x3 =>
 (zaC n x3.2 ([61] : Str)).bind fun x5 =>
 (zbH n x5 a2).bind fun x7 =>
 (zaC n x7.2 ([59] : Str)).bind fun x9 =>
 some (({ a1 with za6 := x3.1, zal := [x7.1] } : zaa), x9)
def zdr (n : Nat) (a0 : zab) (a1 : Int) : Option (zaa × zab) :=
 (zbH n a0 (IntKind.i64.wrap (a1 + (2 : Int)))).bind fun x2 =>
 some (x2.1, x2.2)
def zbx (n : Nat) (a1 : Int) : Nat -> (List zaa) -> zab -> Option ((List zaa) × zab)
 | 0, _, _ => none
 | c11 + 1, v8, v9 =>
   if (v9.e_ == (0 : Int)) = true then
    (zdr n v9 a1).bind fun x16 =>
    need (v8.length + [x16.1].length <= 1073741824) <|
    (zaH n x16.2 ([44] : Str)).bind fun x21 =>
    if (!x21.1) = true then
     some ((v8 ++ [x16.1]), x21.2)
    else
     zbx n a1 c11 (v8 ++ [x16.1]) x21.2
   else
    some (v8, v9)
def zcy (n : Nat) (a0 : zab) (a1 : Int) : Option ((List zaa) × zab) :=
 (zaC n a0 ([40] : Str)).bind fun x1 =>
 (zaH n x1 ([41] : Str)).bind fun x3 =>
 if x3.1 = true then
  some ([], x3.2)
 else
  ((zbx n a1 n [] x3.2).bind fun y10 =>
    some (y10.1, y10.2)).bind fun y6 =>
  (zaC n y6.2 ([41] : Str)).bind fun x27 =>
  some (y6.1, x27)
def zd3 (n : Nat) (a0 : zab) (a1 : zaa) (a2 : Int) : Option (zaa × zab) :=
 (zbw n a0).bind fun x5 =>
 ((zcC n x5.2 ([40] : Str)).bind fun x8 =>
   if x8 = true then
    (zcy n x5.2 a2).bind fun x11 =>
    some (x11.2, ({ a1 with zaY := (10 : Int), za6 := x5.1, zal := x11.1 } : zaa))
   else
    (zaH n x5.2 ([91] : Str)).bind fun x13 =>
    if x13.1 = true then
     (zbH n x13.2 (IntKind.i64.wrap (a2 + (2 : Int)))).bind fun x16 =>
     (zaC n x16.2 ([93] : Str)).bind fun x18 =>
     (zaC n x18 ([61] : Str)).bind fun x20 =>
     (zbH n x20 (IntKind.i64.wrap (a2 + (1 : Int)))).bind fun x22 =>
     need ([x16.1].length + [x22.1].length <= 1073741824) <|
     some (x22.2, ({ a1 with zaY := (9 : Int), za6 := x5.1, zal := ([x16.1] ++ [x22.1]) } : zaa))
    else
     (zaC n x13.2 ([61] : Str)).bind fun x25 =>
     (zbH n x25 (IntKind.i64.wrap (a2 + (1 : Int)))).bind fun x27 =>
     some (x27.2, ({ a1 with za6 := x5.1, zal := [x27.1] } : zaa))).bind fun y7 =>
 (zaC n y7.1 ([59] : Str)).bind fun x32 =>
 some (y7.2, x32)
def zbY (zbs : zab -> Int -> Option (zaa × zab)) (n : Nat) (a1 : Int) : Nat -> zab -> zaa -> Option (zab × zaa)
 | 0, _, _ => none
 | c13 + 1, v10, v11 =>
   (if (v10.e_ == (0 : Int)) = true then
      (zcC n v10 ([125] : Str)).bind fun x19 =>
      some (!x19)
     else
      some false).bind fun y17 =>
   if y17 = true then
    (zbs v10 a1).bind fun x25 =>
    need (v11.zal.length + [x25.1].length <= 1073741824) <|
    zbY zbs n a1 c13 x25.2 ({ v11 with zal := (v11.zal ++ [x25.1]) } : zaa)
   else
    some (v10, v11)
def zdu (zbs : zab -> Int -> Option (zaa × zab)) (n : Nat) (a0 : zab) (a1 : Int) : Option (zaa × zab) :=
 (zdE a0 a1).bind fun x2 =>
 (zbF x2 (4 : Int)).bind fun x4 =>
 (zaC n x4.2 ([123] : Str)).bind fun x7 =>
 (zbY zbs n a1 n x7 x4.1).bind fun y12 =>
 (zaC n y12.1 ([125] : Str)).bind fun x32 =>
 some (y12.2, x32)
def zcH (zdG : zab -> zaa -> Int -> Option (zaa × zab)) (zd9 : zab -> zaa -> Int -> Option (zaa × zab)) (n : Nat) (a0 : zab) (a1 : Int) : Option (zaa × zab) :=
 (zbF a0 (8 : Int)).bind fun x2 =>
 ((zaH n x2.2 ([108, 101, 116] : Str)).bind fun x6 =>
   if x6.1 = true then
    (zdk n x6.2 ({ x2.1 with zaY := (5 : Int) } : zaa) (IntKind.i64.wrap (a1 + (1 : Int)))).bind fun x9 =>
    some (.inr (x9.1, x9.2))
   else
    (zaH n x6.2 ([118, 97, 114] : Str)).bind fun x11 =>
    if x11.1 = true then
     (zdk n x11.2 ({ x2.1 with zaY := (6 : Int) } : zaa) (IntKind.i64.wrap (a1 + (1 : Int)))).bind fun x14 =>
     some (.inr (x14.1, x14.2))
    else
     (zaH n x11.2 ([97, 114, 114] : Str)).bind fun x16 =>
     if x16.1 = true then
      (zbw n x16.2).bind fun x19 =>
      (zdC n x19.2).bind fun x21 =>
      some (.inl (x21.2, ({ x2.1 with zaY := (7 : Int), za6 := x19.1, Num_ := x21.1 } : zaa)))
     else
      (zaH n x16.2 ([114, 101, 116, 117, 114, 110] : Str)).bind fun x23 =>
      if x23.1 = true then
       (zbH n x23.2 (IntKind.i64.wrap (a1 + (1 : Int)))).bind fun x26 =>
       some (.inl (x26.2, ({ x2.1 with zaY := (13 : Int), zal := [x26.1] } : zaa)))
      else
       (zaH n x23.2 ([105, 102] : Str)).bind fun x28 =>
       if x28.1 = true then
        (zdG x28.2 x2.1 a1).bind fun x31 =>
        some (.inr (x31.1, x31.2))
       else
        (zaH n x28.2 ([102, 111, 114] : Str)).bind fun x33 =>
        if x33.1 = true then
         (zd9 x33.2 x2.1 a1).bind fun x36 =>
         some (.inr (x36.1, x36.2))
        else
         (zd3 n x33.2 x2.1 a1).bind fun x38 =>
         some (.inr (x38.1, x38.2)) : Option ((zab × zaa) ⊕ (zaa × zab))).bind fun y5 =>
 y5.elim (fun y5a =>
  (zaC n y5a.1 ([59] : Str)).bind fun x43 =>
  some (y5a.2, x43)) (fun y5a =>
  some y5a)
def zdd (zbq : zab -> Int -> Option (zaa × zab)) (n : Nat) (a0 : zab) (a1 : zaa) (a2 : Int) : Option (zaa × zab) :=
 (zbH n a0 (IntKind.i64.wrap (a2 + (1 : Int)))).bind fun x3 =>
 (zbq x3.2 (IntKind.i64.wrap (a2 + (1 : Int)))).bind fun x5 =>
 need ([x3.1].length + [x5.1].length <= 1073741824) <|
 (zaH n x5.2 ([101, 108, 115, 101] : Str)).bind fun x8 =>
 if x8.1 = true then
  (zbq x8.2 (IntKind.i64.wrap (a2 + (1 : Int)))).bind fun x11 =>
  need (([x3.1] ++ [x5.1]).length + [x11.1].length <= 1073741824) <|
  some (({ a1 with zaY := (11 : Int), zal := (([x3.1] ++ [x5.1]) ++ [x11.1]) } : zaa), x11.2)
 else
  some (({ a1 with zaY := (11 : Int), zal := ([x3.1] ++ [x5.1]) } : zaa), x8.2)
def zdN (zbq : zab -> Int -> Option (zaa × zab)) (n : Nat) (a0 : zab) (a1 : zaa) (a2 : Int) : Option (zaa × zab) :=
 (zbw n a0).bind fun x3 =>
 (zaC n x3.2 ([105, 110] : Str)).bind fun x5 =>
 (zbH n x5 (IntKind.i64.wrap (a2 + (1 : Int)))).bind fun x7 =>
 (zaC n x7.2 ([46, 46] : Str)).bind fun x9 =>
 (zbH n x9 (IntKind.i64.wrap (a2 + (1 : Int)))).bind fun x11 =>
 need ([x7.1].length + [x11.1].length <= 1073741824) <|
 (zbq x11.2 (IntKind.i64.wrap (a2 + (1 : Int)))).bind fun x14 =>
 need (([x7.1] ++ [x11.1]).length + [x14.1].length <= 1073741824) <|
 some (({ a1 with zaY := (12 : Int), za6 := x3.1, zal := (([x7.1] ++ [x11.1]) ++ [x14.1]) } : zaa), x14.2)
def zbc : Nat -> (zab -> Int -> Option (zaa × zab)) × (zab -> Int -> Option (zaa × zab)) × (zab -> zaa -> Int -> Option (zaa × zab)) × (zab -> zaa -> Int -> Option (zaa × zab))
 | 0 => (fun _ _ => none, fun _ _ => none, fun _ _ _ => none, fun _ _ _ => none)
 | n + 1 => (zdu (zbc n).2.1 n, zcH (zbc n).2.2.1 (zbc n).2.2.2 n, zdd (zbc n).1 n, zdN (zbc n).1 n)
def zbz (n : Nat) : zab -> Int -> Option (zaa × zab) := (zbc n).1
def zhD (n : Nat) : zab -> Int -> Option (zaa × zab) := (zbc n).2.1
def ziY (n : Nat) : zab -> zaa -> Int -> Option (zaa × zab) := (zbc n).2.2.1
def zjz (n : Nat) : zab -> zaa -> Int -> Option (zaa × zab) := (zbc n).2.2.2
def zdc (n : Nat) (a0 : zab) : Option (zaa × zab) :=
 (zbF a0 (2 : Int)).bind fun x2 =>
 (zaH n x2.2 ([101, 120, 112, 111, 114, 116] : Str)).bind fun x5 =>
 if x5.1 = true then
  (zaC n x5.2 ([102, 110] : Str)).bind fun x8 =>
  (zbw n x8).bind fun x10 =>
  (zbU n x10.2).bind fun x12 =>
  (zaH n x12.2 ([45, 62] : Str)).bind fun x14 =>
  if x14.1 = true then
   (zaH n x14.2 ([117, 51, 50] : Str)).bind fun x17 =>
   if x17.1 = true then
    (zbz n x17.2 (1 : Int)).bind fun x20 =>
    need (x12.1.length + [x20.1].length <= 1073741824) <|
    some (({ x2.1 with za6 := x10.1, Num_ := (orK .u32 (1 : Int) (2 : Int)), zal := (x12.1 ++ [x20.1]) } : zaa), x20.2)
   else
    (zaC n x17.2 ([117, 54, 52] : Str)).bind fun x25 =>
    (zbz n x25 (1 : Int)).bind fun x27 =>
    need (x12.1.length + [x27.1].length <= 1073741824) <|
    some (({ x2.1 with za6 := x10.1, Num_ := (orK .u32 (1 : Int) (4 : Int)), zal := (x12.1 ++ [x27.1]) } : zaa), x27.2)
  else
   (zbz n x14.2 (1 : Int)).bind fun x32 =>
   need (x12.1.length + [x32.1].length <= 1073741824) <|
   some (({ x2.1 with za6 := x10.1, Num_ := (1 : Int), zal := (x12.1 ++ [x32.1]) } : zaa), x32.2)
 else
  (zaC n x5.2 ([102, 110] : Str)).bind fun x37 =>
  (zbw n x37).bind fun x39 =>
  (zbU n x39.2).bind fun x41 =>
  (zaH n x41.2 ([45, 62] : Str)).bind fun x43 =>
  if x43.1 = true then
   (zaH n x43.2 ([117, 51, 50] : Str)).bind fun x46 =>
   if x46.1 = true then
    (zbz n x46.2 (1 : Int)).bind fun x49 =>
    need (x41.1.length + [x49.1].length <= 1073741824) <|
    some (({ x2.1 with za6 := x39.1, Num_ := (orK .u32 x2.1.Num_ (2 : Int)), zal := (x41.1 ++ [x49.1]) } : zaa), x49.2)
   else
    (zaC n x46.2 ([117, 54, 52] : Str)).bind fun x54 =>
    (zbz n x54 (1 : Int)).bind fun x56 =>
    need (x41.1.length + [x56.1].length <= 1073741824) <|
    some (({ x2.1 with za6 := x39.1, Num_ := (orK .u32 x2.1.Num_ (4 : Int)), zal := (x41.1 ++ [x56.1]) } : zaa), x56.2)
  else
   (zbz n x43.2 (1 : Int)).bind fun x61 =>
   need (x41.1.length + [x61.1].length <= 1073741824) <|
   some (({ x2.1 with za6 := x39.1, zal := (x41.1 ++ [x61.1]) } : zaa), x61.2)
def zeb (n : Nat) : Nat -> zab -> zaa -> Option (zab × zaa)
 | 0, _, _ => none
 | c13 + 1, v10, v11 =>
   (if (v10.e_ == (0 : Int)) = true then
      (zby v10).bind fun x19 =>
      some (x19.zaY != (4 : Int))
     else
      some false).bind fun y17 =>
   if y17 = true then
    (zdc n v10).bind fun x25 =>
    need (v11.zal.length + [x25.1].length <= 1073741824) <|
    zeb n c13 x25.2 ({ v11 with zal := (v11.zal ++ [x25.1]) } : zaa)
   else
    some (v10, v11)
def zgQ (n : Nat) (a0 : Str) : Option (zaa × Int × Int) :=
 (zhT n a0).bind fun x2 =>
 if (x2.2.1 != (0 : Int)) = true then
  some ((zaa.mk (0 : Int) (0 : Int) [] (0 : Int) []), x2.2.1, x2.2.2)
 else
  (zbF (zab.mk x2.1 (0 : Int) (0 : Int) (0 : Int) (0 : Int)) (1 : Int)).bind fun x6 =>
  (zeb n n x6.2 x6.1).bind fun y12 =>
  if (y12.1.e_ != (0 : Int)) = true then
   some ((zaa.mk (0 : Int) (0 : Int) [] (0 : Int) []), y12.1.e_, y12.1.zjp)
  else
   some (y12.2, (0 : Int), (0 : Int))
def zgB (a0 : zau) (a1 : Str) : Option Bool :=
 some (decide (a0.zem = a1))
def zaL (a0 : (List zau)) (a1 : Str) : Nat -> Int -> Option (Unit ⊕ Int)
 | 0, _ => none
 | c4 + 1, v2 =>
   if (decide (v2 < (a0.length : Int))) = true then
    (idxL a0 v2).bind fun x9 =>
    (zgB x9 a1).bind fun x10 =>
    if x10 = true then
     some (.inr v2)
    else
     zaL a0 a1 c4 (IntKind.i64.wrap (v2 + (1 : Int)))
   else
    some (.inl ())
def zbr (n : Nat) (a0 : (List zau)) (a1 : Str) : Option Int :=
 (zaL a0 a1 n (0 : Int)).bind fun y3 =>
 y3.elim (fun y3a =>
  some (-1 : Int)) (fun y3a =>
  some y3a)
def zd1 (n : Nat) (a0 : zbJ) (a1 : Str) : Option (Int × Bool) :=
 (zbr n a0.zay a1).bind fun x3 =>
 some ((max x3 (0 : Int)), (decide ((0 : Int) <= x3)))
def zeB (a0 : zad) (a1 : zag) (a2 : Int) (a3 : Int) : Option zag :=
 if (a1.e_ == (0 : Int)) = true then
  some (zag.mk a2 a3)
 else
  some a1
def zam (a0 : zad) (a1 : zag) (a2 : Bool) (a3 : Int) (a4 : Int) : Option zag :=
 if (!a2) = true then
  (zeB a0 a1 a3 a4).bind fun x2 =>
  some x2
 else
  some a1
def zeu (a0 : Str) : Nat -> Int -> Option (Unit ⊕ Int)
 | 0, _ => none
 | c4 + 1, v2 =>
   if (decide (v2 < (5 : Int))) = true then
    (idxL zaW v2).bind fun x9 =>
    if (decide (x9.zoJ = a0)) = true then
     some (.inr x9.args_)
    else
     zeu a0 c4 (IntKind.i64.wrap (v2 + (1 : Int)))
   else
    some (.inl ())
def zf6 (n : Nat) (a0 : Str) : Option Int :=
 (zeu a0 n (0 : Int)).bind fun y3 =>
 y3.elim (fun y3a =>
  some (0 : Int)) (fun y3a =>
  some y3a)
def zgn (a0 : Int) : Option Int :=
 if ((andK .u32 a0 (2 : Int)) != (0 : Int)) = true then
  some (2 : Int)
 else
  if ((andK .u32 a0 (4 : Int)) != (0 : Int)) = true then
   some (3 : Int)
  else
   some (0 : Int)
def zce (n : Nat) (a2 : zaa) : Nat -> Int -> zad -> zag -> Option (zad × zag)
 | 0, _, _, _ => none
 | c9 + 1, v5, v6, v7 =>
   if (decide (v5 < (a2.zal.length : Int))) = true then
    (idxL a2.zal v5).bind fun x14 =>
    (zd1 n v6.p_ x14.za6).bind fun x20 =>
    (if (!x20.2) = true then
       (zf6 n x14.za6).bind fun x25 =>
       (zam v6 v7 (x25 == (0 : Int)) (131 : Int) x14.At_).bind fun x26 =>
       some x26
      else
       (zam v6 v7 false (131 : Int) x14.At_).bind fun x29 =>
       some x29).bind fun y23 =>
    (zgn x14.Num_).bind fun x34 =>
    need (v6.f_ < 0) <|
    need (v6.p_.zay.length + 1 <= 1073741824) <|
    zce n a2 c9 (IntKind.i64.wrap (v5 + (1 : Int))) ({ v6 with p_ := ⟨(v6.p_.zay ++ [(zau.mk x14.za6 ((andK .u32 x14.Num_ (1 : Int)) != (0 : Int)) x34 (0 : Int) [] [])])⟩ } : zad) y23
   else
    some (v6, v7)
def zdQ (n : Nat) (a0 : zad) (a1 : zag) (a2 : zaa) : Option (zad × zag) :=
 (zam a0 a1 (decide ((a2.zal.length : Int) <= (64 : Int))) (136 : Int) a2.At_).bind fun x2 =>
 (zce n a2 n (0 : Int) a0 x2).bind fun y8 =>
 need ((0 : Int) <= (a2.zal.length : Int) /\ (a2.zal.length : Int) <= 1073741824) <|
 some (({ y8.1 with zaV := (List.replicate a2.zal.length []) } : zad), y8.2)
def zbR (x1 : zau) : Nat -> Int -> zad -> Option zad
 | 0, _, _ => none
 | c31 + 1, v28, v29 =>
   if (decide (v28 < x1.zaP)) = true then
    need (v29.zaD.length + 1 <= 1073741824) <|
    zbR x1 c31 (IntKind.i64.wrap (v28 + (1 : Int))) ({ v29 with zaD := (v29.zaD ++ [v28]) } : zad)
   else
    some v29
def zcY (n : Nat) (a0 : zad) (a1 : zag) (a2 : Int) : Option (zad × zag) :=
 (idxL a0.p_.zay a2).bind fun x1 =>
 (zbR x1 n (0 : Int) ({ a0 with f_ := a2, zaD := [], at_ := a2 } : zad)).bind fun y30 =>
 some (y30, a1)
def zf4 (a0 : Int) : Option Bool :=
 (if (decide ((1 : Int) <= a0)) = true then
    if (decide (a0 <= (255 : Int))) = true then
     some true
    else
     if (decide ((255 : Int) < a0)) = true then
      if (decide (a0 <= (1024 : Int))) = true then
       some ((a0.tmod (4 : Int)) == (0 : Int))
      else
       some false
     else
      some false
   else
    if (decide ((255 : Int) < a0)) = true then
     if (decide (a0 <= (1024 : Int))) = true then
      some ((a0.tmod (4 : Int)) == (0 : Int))
     else
      some false
    else
     some false).bind fun y1 =>
 some y1
def zco (a0 : zad) (a2 : Str) : Nat -> Int -> Option (Unit ⊕ Int)
 | 0, _ => none
 | c5 + 1, v3 =>
   if (decide ((0 : Int) <= v3)) = true then
    (idxL a0.p_.zay a0.f_).bind fun x10 =>
    (idxL a0.zaD v3).bind fun x13 =>
    (idxL x10.za9 x13).bind fun x14 =>
    if (decide (x14.zem = a2)) = true then
     some (.inr x13)
    else
     zco a0 a2 c5 (IntKind.i64.wrap (v3 - (1 : Int)))
   else
    some (.inl ())
def zdl (n : Nat) (a0 : zad) (a1 : zag) (a2 : Str) : Option Int :=
 (zco a0 a2 n (IntKind.i64.wrap ((a0.zaD.length : Int) - (1 : Int)))).bind fun y4 =>
 y4.elim (fun y4a =>
  some (-1 : Int)) (fun y4a =>
  some y4a)
def zbo (n : Nat) (a0 : zad) (a1 : zag) (a2 : zan) (a3 : Int) : Option (Int × zad × zag) :=
 (zdl n a0 a1 a2.zem).bind fun x2 =>
 (zam a0 a1 (decide (x2 < (0 : Int))) (131 : Int) a3).bind fun x3 =>
 (idxL a0.p_.zay a0.f_).bind fun x6 =>
 (zam a0 x3 (decide ((x6.za9.length : Int) < (250 : Int))) (136 : Int) a3).bind fun x9 =>
 if (x9.e_ != (0 : Int)) = true then
  some ((-1 : Int), a0, x9)
 else
  need (x6.za9.length + 1 <= 1073741824) <|
  need (a0.zaD.length + 1 <= 1073741824) <|
  some ((x6.za9.length : Int), ({ a0 with p_ := ⟨(a0.p_.zay.set a0.f_.toNat { x6 with za9 := (x6.za9 ++ [a2]) })⟩, zaD := (a0.zaD ++ [(x6.za9.length : Int)]) } : zad), x9)
def zb4 (n : Nat) (a2 : (List zaa)) : Nat -> Int -> zad -> zag -> Option (zad × zag)
 | 0, _, _, _ => none
 | c6 + 1, v2, v3, v4 =>
   if (decide (v2 < (a2.length : Int))) = true then
    ((idxL a2 v2).bind fun x12 =>
      (if ((IntKind.i64.wrap x12.Num_) == (4 : Int)) = true then
         some (decide ((0 : Int) < (x12.zal.length : Int)))
        else
         some false).bind fun y19 =>
      if y19 = true then
       (idxL x12.zal (0 : Int)).bind fun x25 =>
       (zf4 (IntKind.i64.wrap x25.Num_)).bind fun x31 =>
       (zam v3 v4 x31 (136 : Int) x12.At_).bind fun x32 =>
       (zbo n v3 x32 (zan.mk x12.za6 (IntKind.i64.wrap x12.Num_) (IntKind.i64.wrap x25.Num_)) x12.At_).bind fun x35 =>
       some (x35.2.1, x35.2.2)
      else
       (zbo n v3 v4 (zan.mk x12.za6 (IntKind.i64.wrap x12.Num_) (0 : Int)) x12.At_).bind fun x37 =>
       some (x37.2.1, x37.2.2)).bind fun y11 =>
    zb4 n a2 c6 (IntKind.i64.wrap (v2 + (1 : Int))) y11.1 y11.2
   else
    some (v3, v4)
def zel (n : Nat) (a0 : zad) (a1 : zag) (a2 : (List zaa)) : Option (zad × zag) :=
 (zb4 n a2 n (0 : Int) a0 a1).bind fun y5 =>
 (idxL y5.1.p_.zay y5.1.f_).bind fun x61 =>
 some (({ y5.1 with p_ := ⟨(y5.1.p_.zay.set y5.1.f_.toNat { x61 with zaP := (x61.za9.length : Int) })⟩ } : zad), y5.2)
def zcQ (a0 : zau) : Nat -> Int -> Int -> Option Int
 | 0, _, _ => none
 | c8 + 1, v5, v6 =>
   if (decide (v6 < ((a0.za9.take a0.zaP.toNat).length : Int))) = true then
    ((idxL (a0.za9.take a0.zaP.toNat) v6).bind fun x14 =>
      if (x14.zaY == (3 : Int)) = true then
       some (IntKind.i64.wrap ((IntKind.i64.wrap (v5 + (IntKind.i64.wrap ((v5.tmod (2 : Int)) + (1 : Int))))) + (1 : Int)))
      else
       some (IntKind.i64.wrap (v5 + (1 : Int)))).bind fun y13 =>
    zcQ a0 c8 y13 (IntKind.i64.wrap (v6 + (1 : Int)))
   else
    some v5
def zeU (n : Nat) (a0 : zau) : Option Int :=
 need ((0 : Int) <= a0.zaP /\ a0.zaP <= (a0.za9.length : Int)) <|
 (zcQ a0 n (0 : Int) (0 : Int)).bind fun y7 =>
 some y7
def zcJ (n : Nat) (a0 : zad) (a1 : zag) (a2 : Int) (a3 : zaa) : Option (zad × zag) :=
 (zcY n a0 a1 a2).bind fun x2 =>
 need ((0 : Int) <= (max (IntKind.i64.wrap ((a3.zal.length : Int) - (1 : Int))) (0 : Int)) /\ (max (IntKind.i64.wrap ((a3.zal.length : Int) - (1 : Int))) (0 : Int)) <= (a3.zal.length : Int)) <|
 (zel n x2.1 x2.2 (a3.zal.take (max (IntKind.i64.wrap ((a3.zal.length : Int) - (1 : Int))) (0 : Int)).toNat)).bind fun x4 =>
 if (x4.2.e_ == (0 : Int)) = true then
  ((idxL x4.1.p_.zay x4.1.f_).bind fun x10 =>
    if (!x10.zcR) = true then
     (zam x4.1 x4.2 true (136 : Int) a3.At_).bind fun x27 =>
     some x27
    else
     (zeU n x10).bind fun x29 =>
     (zam x4.1 x4.2 (decide (x29 <= (4 : Int))) (136 : Int) a3.At_).bind fun x30 =>
     some x30).bind fun y9 =>
  some (x4.1, y9)
 else
  some (x4.1, x4.2)
def zbI (a0 : zad) (a1 : zag) (a2 : Int) : Option Int :=
 if (decide (a2 < (0 : Int))) = true then
  some (0 : Int)
 else
  (idxL a0.p_.zay a0.f_).bind fun x2 =>
  (idxL x2.za9 a2).bind fun x5 =>
  some x5.zaY
def zca (n : Nat) (a0 : zad) (a1 : zag) (a2 : zaa) : Option (Int × zag) :=
 (zdl n a0 a1 a2.za6).bind fun x2 =>
 (zam a0 a1 (decide ((0 : Int) <= x2)) (130 : Int) a2.At_).bind fun x4 =>
 some (x2, x4)
def zfC (a0 : Int) (a1 : Int) : Option Int :=
 (if (a0 == a1) = true then
    if (decide ((1 : Int) <= a0)) = true then
     some (decide (a0 <= (3 : Int)))
    else
     some false
   else
    some false).bind fun y1 =>
 if y1 = true then
  some a0
 else
  (if (a0 == (1 : Int)) = true then
     if (a1 == (2 : Int)) = true then
      some true
     else
      if (a0 == (2 : Int)) = true then
       some (a1 == (1 : Int))
      else
       some false
    else
     if (a0 == (2 : Int)) = true then
      some (a1 == (1 : Int))
     else
      some false).bind fun y8 =>
  if y8 = true then
   some (2 : Int)
  else
   some (0 : Int)
def zaR (a0 : zad) (a1 : zag) (a2 : zae) (a3 : Int) : Option (zae × zag) :=
 (zam a0 a1 (a3 != (0 : Int)) (132 : Int) a2.At_).bind fun x3 =>
 some (({ a2 with za7 := a3 } : zae), x3)
def zci (a0 : zad) (a1 : zag) (a2 : zae) (a3 : zae) (a4 : zae) : Option (zae × zag) :=
 (zam a0 a1 (a4.za7 == (1 : Int)) (133 : Int) a4.At_).bind fun x5 =>
 if (a3.za7 == (3 : Int)) = true then
  (if (decide (a4.Op_ = ([110, 117, 109] : Str))) = true then
     (zam a0 x5 (decide (a4.N_ <= (63 : Int))) (132 : Int) a2.At_).bind fun x10 =>
     some x10
    else
     (zam a0 x5 false (132 : Int) a2.At_).bind fun x12 =>
     some x12).bind fun y8 =>
  (zaR a0 y8 a2 a3.za7).bind fun x17 =>
  some (x17.1, x17.2)
 else
  (zaR a0 x5 a2 a3.za7).bind fun x19 =>
  some (x19.1, x19.2)
def zfB (a0 : Int) : Option Int :=
 if (a0 == (1 : Int)) = true then
  some (2 : Int)
 else
  some a0
def zeK (a0 : Int) : Option Bool :=
 (if (a0 == (1 : Int)) = true then
    some true
   else
    some (a0 == (2 : Int))).bind fun y1 =>
 some y1
def zdB (a0 : zad) (a1 : zag) (a2 : zae) : Option Int :=
 (idxL a2.zal (1 : Int)).bind fun x2 =>
 (idxL a2.zal (2 : Int)).bind fun x3 =>
 (zfC x2.za7 x3.za7).bind fun x4 =>
 ((idxL a2.zal (0 : Int)).bind fun x17 =>
   (zeK x17.za7).bind fun x18 =>
   if (!x18) = true then
    some true
   else
    some (x4 == (0 : Int))).bind fun y16 =>
 if y16 = true then
  some (0 : Int)
 else
  (zfB x4).bind fun x30 =>
  some x30
def zdz (zdY : zad -> zag -> zaa -> zae -> Option (zae × zag)) (zdH : zad -> zag -> zaa -> zae -> Option (zae × zag)) (zdo : zad -> zag -> zaa -> zae -> Option (zae × zag)) (zdb : zad -> zag -> zaa -> zae -> Option (zae × zag)) (n : Nat) (a0 : zad) (a1 : zag) (a2 : zaa) : Option (zae × zag) :=
 if (a2.zaY == (14 : Int)) = true then
  some ((zae.mk ([110, 117, 109] : Str) (1 : Int) a2.Num_ (-1 : Int) [] a2.At_), a1)
 else
  if (a2.zaY == (15 : Int)) = true then
   (zca n a0 a1 a2).bind fun x6 =>
   (zbI a0 x6.2 x6.1).bind fun x8 =>
   (zam a0 x6.2 (x8 != (4 : Int)) (132 : Int) a2.At_).bind fun x10 =>
   some ((zae.mk ([118, 97, 114] : Str) x8 (0 : Int) x6.1 [] a2.At_), x10)
  else
   if (a2.zaY == (16 : Int)) = true then
    (zdY a0 a1 a2 (zae.mk [] (0 : Int) (0 : Int) (-1 : Int) [] a2.At_)).bind fun x13 =>
    some (x13.1, x13.2)
   else
    if (a2.zaY == (18 : Int)) = true then
     (zdH a0 a1 a2 (zae.mk [] (0 : Int) (0 : Int) (-1 : Int) [] a2.At_)).bind fun x16 =>
     some (x16.1, x16.2)
    else
     if (a2.zaY == (19 : Int)) = true then
      (zdo a0 a1 a2 (zae.mk [] (0 : Int) (0 : Int) (-1 : Int) [] a2.At_)).bind fun x19 =>
      some (x19.1, x19.2)
     else
      (zdb a0 a1 a2 (zae.mk [] (0 : Int) (0 : Int) (-1 : Int) [] a2.At_)).bind fun x21 =>
      some (x21.1, x21.2)
def zdy (zbb : zad -> zag -> zaa -> Option (zae × zag)) (n : Nat) (a0 : zad) (a1 : zag) (a2 : zaa) (a3 : zae) : Option (zae × zag) :=
 (idxL a2.zal (0 : Int)).bind fun x4 =>
 (zbb a0 a1 x4).bind fun x5 =>
 (zca n a0 x5.2 a2).bind fun x13 =>
 (zbI a0 x13.2 x13.1).bind fun x15 =>
 (zam a0 x13.2 (x15 == (4 : Int)) (132 : Int) a2.At_).bind fun x16 =>
 (zam a0 x16 (x5.1.za7 == (1 : Int)) (133 : Int) x5.1.At_).bind fun x19 =>
 (if (x19.e_ == (0 : Int)) = true then
    some (decide (x5.1.Op_ = ([110, 117, 109] : Str)))
   else
    some false).bind fun y21 =>
 if y21 = true then
  (idxL a0.p_.zay a0.f_).bind fun x27 =>
  (idxL x27.za9 x13.1).bind fun x30 =>
  (zam a0 x19 (decide ((IntKind.i64.wrap x5.1.N_) < x30.zgw)) (137 : Int) x5.1.At_).bind fun x31 =>
  some (({ a3 with Op_ := ([105, 110, 100, 101, 120] : Str), za7 := (2 : Int), Var_ := x13.1, zal := [x5.1] } : zae), x31)
 else
  some (({ a3 with Op_ := ([105, 110, 100, 101, 120] : Str), za7 := (2 : Int), Var_ := x13.1, zal := [x5.1] } : zae), x19)
def zde (za8 : zad -> zag -> (List zaa) -> Option ((List zae) × zag)) (n : Nat) (a0 : zad) (a1 : zag) (a2 : zaa) (a3 : zae) : Option (zae × zag) :=
 (za8 a0 a1 a2.zal).bind fun x4 =>
 if (decide (a2.za6 = ([45] : Str))) = true then
  (idxL x4.1 (0 : Int)).bind fun x7 =>
  some (({ a3 with Op_ := ([110, 101, 103] : Str), za7 := x7.za7, zal := x4.1 } : zae), x4.2)
 else
  (idxL x4.1 (0 : Int)).bind fun x13 =>
  some (({ a3 with Op_ := ([110, 111, 116] : Str), za7 := x13.za7, zal := x4.1 } : zae), x4.2)
def zcZ (za8 : zad -> zag -> (List zaa) -> Option ((List zae) × zag)) (n : Nat) (a0 : zad) (a1 : zag) (a2 : zaa) (a3 : zae) : Option (zae × zag) :=
 (za8 a0 a1 a2.zal).bind fun x4 =>
 (idxL x4.1 (0 : Int)).bind fun x6 =>
 (idxL x4.1 (1 : Int)).bind fun x9 =>
 (zfC x6.za7 x9.za7).bind fun x20 =>
 if (decide (a2.za6 = ([47] : Str))) = true then
  (zam a0 x4.2 (x6.za7 == (1 : Int)) (133 : Int) x6.At_).bind fun x23 =>
  (zam a0 x23 (x9.za7 == (1 : Int)) (133 : Int) x9.At_).bind fun x25 =>
  (zaR a0 x25 ({ a3 with Op_ := a2.za6, zal := x4.1 } : zae) (1 : Int)).bind fun x27 =>
  some (x27.1, x27.2)
 else
  if (decide (a2.za6 = ([37] : Str))) = true then
   (zam a0 x4.2 (x6.za7 == (1 : Int)) (133 : Int) x6.At_).bind fun x30 =>
   (zam a0 x30 (x9.za7 == (1 : Int)) (133 : Int) x9.At_).bind fun x32 =>
   (zaR a0 x32 ({ a3 with Op_ := a2.za6, zal := x4.1 } : zae) (1 : Int)).bind fun x34 =>
   some (x34.1, x34.2)
  else
   if (decide (a2.za6 = ([60, 60] : Str))) = true then
    (zci a0 x4.2 ({ a3 with Op_ := a2.za6, zal := x4.1 } : zae) x6 x9).bind fun x37 =>
    some (x37.1, x37.2)
   else
    if (decide (a2.za6 = ([62, 62] : Str))) = true then
     (zci a0 x4.2 ({ a3 with Op_ := a2.za6, zal := x4.1 } : zae) x6 x9).bind fun x40 =>
     some (x40.1, x40.2)
    else
     if (decide (a2.za6 = ([60, 60, 60] : Str))) = true then
      (zci a0 x4.2 ({ a3 with Op_ := a2.za6, zal := x4.1 } : zae) x6 x9).bind fun x43 =>
      some (x43.1, x43.2)
     else
      if (decide (a2.za6 = ([42] : Str))) = true then
       (zam a0 x4.2 (x20 != (3 : Int)) (132 : Int) a2.At_).bind fun x46 =>
       (zaR a0 x46 ({ a3 with Op_ := a2.za6, zal := x4.1 } : zae) x20).bind fun x48 =>
       some (x48.1, x48.2)
      else
       if (decide (a2.za6 = ([61, 61] : Str))) = true then
        if (x20 == (3 : Int)) = true then
         (zaR a0 x4.2 ({ a3 with Op_ := a2.za6, zal := x4.1 } : zae) (2 : Int)).bind fun x52 =>
         some (x52.1, x52.2)
        else
         (zaR a0 x4.2 ({ a3 with Op_ := a2.za6, zal := x4.1 } : zae) x20).bind fun x54 =>
         some (x54.1, x54.2)
       else
        if (decide (a2.za6 = ([60] : Str))) = true then
         if (x20 == (3 : Int)) = true then
          (zaR a0 x4.2 ({ a3 with Op_ := a2.za6, zal := x4.1 } : zae) (2 : Int)).bind fun x58 =>
          some (x58.1, x58.2)
         else
          (zaR a0 x4.2 ({ a3 with Op_ := a2.za6, zal := x4.1 } : zae) x20).bind fun x60 =>
          some (x60.1, x60.2)
        else
         (zaR a0 x4.2 ({ a3 with Op_ := a2.za6, zal := x4.1 } : zae) x20).bind fun x62 =>
         some (x62.1, x62.2)
def zcN (za8 : zad -> zag -> (List zaa) -> Option ((List zae) × zag)) (n : Nat) (a0 : zad) (a1 : zag) (a2 : zaa) (a3 : zae) : Option (zae × zag) :=
 (zf6 n a2.za6).bind fun x4 =>
 (zam a0 a1 (decide ((0 : Int) < x4)) (130 : Int) a2.At_).bind fun x6 =>
 (zam a0 x6 ((a2.zal.length : Int) == x4) (136 : Int) a2.At_).bind fun x8 =>
 (za8 a0 x8 a2.zal).bind fun x10 =>
 if (x10.2.e_ != (0 : Int)) = true then
  some (({ a3 with Op_ := a2.za6, zal := x10.1 } : zae), x10.2)
 else
  (idxL x10.1 (0 : Int)).bind fun x13 =>
  if (decide (a2.za6 = ([115, 101, 108, 101, 99, 116] : Str))) = true then
   (zdB a0 x10.2 ({ a3 with Op_ := a2.za6, zal := x10.1 } : zae)).bind fun x20 =>
   (zaR a0 x10.2 ({ a3 with Op_ := a2.za6, zal := x10.1 } : zae) x20).bind fun x21 =>
   some (x21.1, x21.2)
  else
   if (decide (a2.za6 = ([108, 111, 110, 103] : Str))) = true then
    (zeK x13.za7).bind fun x25 =>
    (zam a0 x10.2 x25 (132 : Int) a2.At_).bind fun x26 =>
    (zaR a0 x26 ({ a3 with Op_ := a2.za6, zal := x10.1 } : zae) (3 : Int)).bind fun x29 =>
    some (x29.1, x29.2)
   else
    if (decide (a2.za6 = ([119, 105, 100, 101] : Str))) = true then
     ((zeK x13.za7).bind fun x33 =>
       if x33 = true then
        (idxL x10.1 (1 : Int)).bind fun x36 =>
        (zeK x36.za7).bind fun x37 =>
        (zam a0 x10.2 x37 (132 : Int) a2.At_).bind fun x38 =>
        some x38
       else
        (zam a0 x10.2 false (132 : Int) a2.At_).bind fun x46 =>
        some x46).bind fun y32 =>
     (zaR a0 y32 ({ a3 with Op_ := a2.za6, zal := x10.1 } : zae) (3 : Int)).bind fun x51 =>
     some (x51.1, x51.2)
    else
     (zam a0 x10.2 (x13.za7 == (3 : Int)) (132 : Int) a2.At_).bind fun x53 =>
     (zaR a0 x53 ({ a3 with Op_ := a2.za6, zal := x10.1 } : zae) (2 : Int)).bind fun x55 =>
     some (x55.1, x55.2)
def zcx (zbb : zad -> zag -> zaa -> Option (zae × zag)) (a2 : (List zaa)) (a0 : zad) : Nat -> (List zae) -> Int -> zag -> Option ((List zae) × zag)
 | 0, _, _, _ => none
 | c6 + 1, v2, v3, v4 =>
   if (decide (v3 < (a2.length : Int))) = true then
    (idxL a2 v3).bind fun x11 =>
    (zbb a0 v4 x11).bind fun x17 =>
    need (v2.length + [x17.1].length <= 1073741824) <|
    zcx zbb a2 a0 c6 (v2 ++ [x17.1]) (IntKind.i64.wrap (v3 + (1 : Int))) x17.2
   else
    some (v2, v4)
def zdU (zbb : zad -> zag -> zaa -> Option (zae × zag)) (n : Nat) (a0 : zad) (a1 : zag) (a2 : (List zaa)) : Option ((List zae) × zag) :=
 (zcx zbb a2 a0 n [] (0 : Int) a1).bind fun y5 =>
 some (y5.1, y5.2)
def zaK : Nat -> (zad -> zag -> zaa -> Option (zae × zag)) × (zad -> zag -> zaa -> zae -> Option (zae × zag)) × (zad -> zag -> zaa -> zae -> Option (zae × zag)) × (zad -> zag -> zaa -> zae -> Option (zae × zag)) × (zad -> zag -> zaa -> zae -> Option (zae × zag)) × (zad -> zag -> (List zaa) -> Option ((List zae) × zag))
 | 0 => (fun _ _ _ => none, fun _ _ _ _ => none, fun _ _ _ _ => none, fun _ _ _ _ => none, fun _ _ _ _ => none, fun _ _ _ => none)
 | n + 1 => (zdz (zaK n).2.1 (zaK n).2.2.1 (zaK n).2.2.2.1 (zaK n).2.2.2.2.1 n, zdy (zaK n).1 n, zde (zaK n).2.2.2.2.2 n, zcZ (zaK n).2.2.2.2.2 n, zcN (zaK n).2.2.2.2.2 n, zdU (zaK n).1 n)
def zcb (n : Nat) : zad -> zag -> zaa -> Option (zae × zag) := (zaK n).1
def zjm (n : Nat) : zad -> zag -> zaa -> zae -> Option (zae × zag) := (zaK n).2.1
def ziZ (n : Nat) : zad -> zag -> zaa -> zae -> Option (zae × zag) := (zaK n).2.2.1
def ziE (n : Nat) : zad -> zag -> zaa -> zae -> Option (zae × zag) := (zaK n).2.2.2.1
def zic (n : Nat) : zad -> zag -> zaa -> zae -> Option (zae × zag) := (zaK n).2.2.2.2.1
def zjB (n : Nat) : zad -> zag -> (List zaa) -> Option ((List zae) × zag) := (zaK n).2.2.2.2.2
def zbE (n : Nat) (a0 : zad) (a1 : zag) (a2 : zaa) : Option (zae × zag) :=
 (zcb n a0 a1 a2).bind fun x3 =>
 (zam a0 x3.2 (x3.1.za7 == (1 : Int)) (133 : Int) a2.At_).bind fun x6 =>
 some (x3.1, x6)
def zcX (n : Nat) (a0 : zad) (a1 : zag) (a2 : zaa) : Option (Int × zag) :=
 (zd1 n a0.p_ a2.za6).bind fun x2 =>
 (zam a0 a1 x2.2 (130 : Int) a2.At_).bind fun x5 =>
 some (x2.1, x5)
def zdw (a0 : zad) (a1 : zag) (a2 : Int) : Option (List zan) :=
 (idxL a0.p_.zay a2).bind fun x1 =>
 need ((0 : Int) <= x1.zaP /\ x1.zaP <= (x1.za9.length : Int)) <|
 some (x1.za9.take (x1.zaP.toNat))
def zfD (a0 : Int) (a1 : Int) : Option Bool :=
 (if (a0 == a1) = true then
    some true
   else
    if (a0 == (1 : Int)) = true then
     some (a1 == (2 : Int))
    else
     some false).bind fun y1 =>
 some y1
def zdT (n : Nat) (a0 : zad) (a1 : zag) (a2 : zaa) (a3 : Int) : Option (zae × zag) :=
 (zam a0 a1 (a2.zaY == (15 : Int)) (132 : Int) a2.At_).bind fun x3 =>
 (zca n a0 x3 a2).bind fun x5 =>
 ((zbI a0 x5.2 x5.1).bind fun x8 =>
   if (x8 == (4 : Int)) = true then
    (idxL a0.p_.zay a0.f_).bind fun x11 =>
    (idxL x11.za9 (max x5.1 (0 : Int))).bind fun x14 =>
    (zam a0 x5.2 (x14.zgw == a3) (132 : Int) a2.At_).bind fun x15 =>
    some x15
   else
    (zam a0 x5.2 false (132 : Int) a2.At_).bind fun x40 =>
    some x40).bind fun y7 =>
 some ((zae.mk ([118, 97, 114] : Str) (4 : Int) (0 : Int) x5.1 [] a2.At_), y7)
def zc0 (n : Nat) (a0 : zad) (a1 : zag) (a2 : zaa) (a3 : zan) : Option (zae × zag) :=
 if (a3.zaY == (4 : Int)) = true then
  (zdT n a0 a1 a2 a3.zgw).bind fun x5 =>
  some (x5.1, x5.2)
 else
  if (a3.zaY == (1 : Int)) = true then
   (zbE n a0 a1 a2).bind fun x8 =>
   some (x8.1, x8.2)
  else
   (zcb n a0 a1 a2).bind fun x10 =>
   (zfD x10.1.za7 a3.zaY).bind fun x13 =>
   (zam a0 x10.2 x13 (132 : Int) a2.At_).bind fun x14 =>
   some (x10.1, x14)
def zcp (n : Nat) (a2 : zaa) (x20 : (List zan)) (a0 : zad) (x7 : (List Int)) (x4 : (Int × zag)) : Nat -> Int -> zag -> zaf -> Option (zag × zaf)
 | 0, _, _, _ => none
 | c29 + 1, v25, v26, v27 =>
   if (decide (v25 < (a2.zal.length : Int))) = true then
    (idxL a2.zal v25).bind fun x34 =>
    if (v26.e_ != (0 : Int)) = true then
     some (v26, v27)
    else
     (idxL x20 v25).bind fun x41 =>
     (zc0 n ({ a0 with zaV := (a0.zaV.set a0.at_.toNat (x7 ++ [x4.1])) } : zad) v26 x34 x41).bind fun x42 =>
     need (v27.zal.length + [x42.1].length <= 1073741824) <|
     zcp n a2 x20 a0 x7 x4 c29 (IntKind.i64.wrap (v25 + (1 : Int))) x42.2 ({ v27 with zal := (v27.zal ++ [x42.1]) } : zaf)
   else
    some (v26, v27)
def zct (n : Nat) (a0 : zad) (a1 : zag) (a2 : zaa) (a3 : zaf) (a4 : Int) : Option (zaf × zad × zag) :=
 (zcX n a0 a1 a2).bind fun x4 =>
 if (x4.2.e_ != (0 : Int)) = true then
  some (({ a3 with Op_ := ([99, 97, 108, 108] : Str), Var_ := a4, zfe := x4.1, zal := [] } : zaf), a0, x4.2)
 else
  (idxL a0.zaV a0.at_).bind fun x7 =>
  need (x7.length + 1 <= 1073741824) <|
  (zdw ({ a0 with zaV := (a0.zaV.set a0.at_.toNat (x7 ++ [x4.1])) } : zad) x4.2 x4.1).bind fun x20 =>
  (zam ({ a0 with zaV := (a0.zaV.set a0.at_.toNat (x7 ++ [x4.1])) } : zad) x4.2 ((a2.zal.length : Int) == (x20.length : Int)) (136 : Int) a2.At_).bind fun x22 =>
  (zcp n a2 x20 a0 x7 x4 n (0 : Int) x22 ({ a3 with Op_ := ([99, 97, 108, 108] : Str), Var_ := a4, zfe := x4.1, zal := [] } : zaf)).bind fun y28 =>
  some (y28.2, ({ a0 with zaV := (a0.zaV.set a0.at_.toNat (x7 ++ [x4.1])) } : zad), y28.1)
def zcw (n : Nat) (a0 : zad) (a1 : zag) (a2 : zaa) : Option Bool :=
 (if (a2.zaY == (17 : Int)) = true then
    (zf6 n a2.za6).bind fun x4 =>
    some (x4 == (0 : Int))
   else
    some false).bind fun y2 =>
 some y2
def zdS (n : Nat) (a0 : zad) (a1 : zag) (a2 : zaa) (a3 : zaf) : Option (zaf × zad × zag) :=
 (idxL a2.zal (0 : Int)).bind fun x4 =>
 (zcw n a0 a1 x4).bind fun x5 =>
 if x5 = true then
  (zct n a0 a1 x4 ({ a3 with zal := [] } : zaf) (-1 : Int)).bind fun x13 =>
  if (x13.2.2.e_ != (0 : Int)) = true then
   some (({ x13.1 with At_ := a2.At_ } : zaf), x13.2.1, x13.2.2)
  else
   (idxL x13.2.1.p_.zay x13.1.zfe).bind fun x16 =>
   (zam x13.2.1 x13.2.2 (x16.zbj != (0 : Int)) (132 : Int) a2.At_).bind fun x30 =>
   (zbo n x13.2.1 x30 (zan.mk a2.za6 x16.zbj (0 : Int)) a2.At_).bind fun x32 =>
   some (({ x13.1 with Var_ := x32.1, At_ := a2.At_ } : zaf), x32.2.1, x32.2.2)
 else
  (zcb n a0 a1 x4).bind fun x34 =>
  (zfB x34.1.za7).bind fun x37 =>
  (zbo n a0 x34.2 (zan.mk a2.za6 x37 (0 : Int)) a2.At_).bind fun x38 =>
  some (({ a3 with Op_ := ([118, 97, 114] : Str), Var_ := x38.1, zal := [x34.1] } : zaf), x38.2.1, x38.2.2)
def zdg (n : Nat) (a0 : zad) (a1 : zag) (a2 : zaa) : Option (Int × zag) :=
 (zca n a0 a1 a2).bind fun x2 =>
 (zbI a0 x2.2 x2.1).bind fun x4 =>
 (if (x4 == (2 : Int)) = true then
    (zam a0 x2.2 true (132 : Int) a2.At_).bind fun x8 =>
    some x8
   else
    (zam a0 x2.2 (x4 == (3 : Int)) (132 : Int) a2.At_).bind fun x10 =>
    some x10).bind fun y6 =>
 some (x2.1, y6)
def zef (n : Nat) (a0 : zad) (a1 : zag) (a2 : zaa) (a3 : zaf) : Option (zaf × zad × zag) :=
 (zdg n a0 a1 a2).bind fun x4 =>
 (idxL a2.zal (0 : Int)).bind fun x6 =>
 (zcw n a0 x4.2 x6).bind fun x7 =>
 if x7 = true then
  (zct n a0 x4.2 x6 ({ a3 with zal := [] } : zaf) x4.1).bind fun x15 =>
  if (x15.2.2.e_ == (0 : Int)) = true then
   (zbI x15.2.1 x15.2.2 x4.1).bind fun x18 =>
   (idxL x15.2.1.p_.zay x15.1.zfe).bind fun x19 =>
   (zam x15.2.1 x15.2.2 (x19.zbj == x18) (132 : Int) a2.At_).bind fun x21 =>
   some (({ x15.1 with At_ := a2.At_ } : zaf), x15.2.1, x21)
  else
   some (({ x15.1 with At_ := a2.At_ } : zaf), x15.2.1, x15.2.2)
 else
  (zcb n a0 x4.2 x6).bind fun x36 =>
  (zbI a0 x36.2 x4.1).bind fun x39 =>
  (zfD x36.1.za7 x39).bind fun x40 =>
  (zam a0 x36.2 x40 (132 : Int) a2.At_).bind fun x41 =>
  some (({ a3 with Op_ := ([115, 101, 116] : Str), Var_ := x4.1, zal := [x36.1] } : zaf), a0, x41)
def zdR (n : Nat) (a0 : zad) (a1 : zag) (a2 : zaa) (a3 : Int) : Option (zae × zag) :=
 (zbE n a0 a1 a2).bind fun x3 =>
 (if (x3.2.e_ == (0 : Int)) = true then
    some (decide (x3.1.Op_ = ([110, 117, 109] : Str)))
   else
    some false).bind fun y6 =>
 if y6 = true then
  (idxL a0.p_.zay a0.f_).bind fun x12 =>
  (idxL x12.za9 a3).bind fun x15 =>
  (zam a0 x3.2 (decide ((IntKind.i64.wrap x3.1.N_) < x15.zgw)) (137 : Int) a2.At_).bind fun x16 =>
  some (x3.1, x16)
 else
  some (x3.1, x3.2)
def zeg (n : Nat) (a0 : zad) (a1 : zag) (a2 : zaa) (a3 : zaf) : Option (zaf × zag) :=
 (zca n a0 a1 a2).bind fun x4 =>
 (zbI a0 x4.2 x4.1).bind fun x6 =>
 (zam a0 x4.2 (x6 == (4 : Int)) (132 : Int) a2.At_).bind fun x7 =>
 (idxL a2.zal (0 : Int)).bind fun x10 =>
 (zdR n a0 x7 x10 x4.1).bind fun x11 =>
 (idxL a2.zal (1 : Int)).bind fun x19 =>
 (zcb n a0 x11.2 x19).bind fun x20 =>
 (zfD x20.1.za7 (2 : Int)).bind fun x28 =>
 (zam a0 x20.2 x28 (132 : Int) a2.At_).bind fun x29 =>
 some (({ a3 with Op_ := ([112, 117, 116] : Str), Var_ := x4.1, zal := [x11.1, x20.1] } : zaf), x29)
def zd7 (n : Nat) (a0 : zad) (a1 : zag) (a2 : zaa) (a3 : zaf) (a4 : Bool) : Option (zaf × zad × zag) :=
 (if a4 = true then
    (idxL a0.p_.zay a0.f_).bind fun x6 =>
    (zam a0 a1 (x6.zbj != (0 : Int)) (135 : Int) a2.At_).bind fun x9 =>
    some x9
   else
    (zam a0 a1 false (135 : Int) a2.At_).bind fun x24 =>
    some x24).bind fun y4 =>
 (if (y4.e_ == (0 : Int)) = true then
    (idxL a2.zal (0 : Int)).bind fun x31 =>
    (zcw n a0 y4 x31).bind fun x32 =>
    some x32
   else
    some false).bind fun y29 =>
 if y29 = true then
  (idxL a2.zal (0 : Int)).bind fun x43 =>
  (zct n a0 y4 x43 ({ a3 with zal := [] } : zaf) (-2 : Int)).bind fun x44 =>
  if (x44.2.2.e_ == (0 : Int)) = true then
   (idxL x44.2.1.p_.zay x44.1.zfe).bind fun x52 =>
   (idxL x44.2.1.p_.zay x44.2.1.f_).bind fun x54 =>
   (zam x44.2.1 x44.2.2 (x52.zbj == x54.zbj) (132 : Int) a2.At_).bind fun x57 =>
   some (({ x44.1 with At_ := a2.At_ } : zaf), x44.2.1, x57)
  else
   some (({ x44.1 with At_ := a2.At_ } : zaf), x44.2.1, x44.2.2)
 else
  (idxL a2.zal (0 : Int)).bind fun x83 =>
  (zcb n a0 y4 x83).bind fun x84 =>
  (idxL a0.p_.zay a0.f_).bind fun x92 =>
  (zfD x84.1.za7 x92.zbj).bind fun x95 =>
  (zam a0 x84.2 x95 (132 : Int) a2.At_).bind fun x96 =>
  some (({ a3 with Op_ := ([114, 101, 116, 117, 114, 110] : Str), zal := [x84.1] } : zaf), a0, x96)
def zcf (zbi : zad -> zag -> zaa -> Bool -> Option (zaf × zad × zag)) (a2 : zaa) (a3 : Bool) : Nat -> (List zaf) -> Int -> zad -> zag -> Option ((List zaf) × zad × zag)
 | 0, _, _, _, _ => none
 | c9 + 1, v4, v5, v6, v7 =>
   if (decide (v5 < (a2.zal.length : Int))) = true then
    (idxL a2.zal v5).bind fun x14 =>
    if (v7.e_ != (0 : Int)) = true then
     some (v4, v6, v7)
    else
     (if a3 = true then
        (zbi v6 v7 x14 (v5 == (IntKind.i64.wrap ((a2.zal.length : Int) - (1 : Int))))).bind fun x28 =>
        need (v4.length + [x28.1].length <= 1073741824) <|
        some ((v4 ++ [x28.1]), x28.2.1, x28.2.2)
       else
        (zbi v6 v7 x14 false).bind fun x33 =>
        need (v4.length + [x33.1].length <= 1073741824) <|
        some ((v4 ++ [x33.1]), x33.2.1, x33.2.2)).bind fun y26 =>
     zcf zbi a2 a3 c9 y26.1 (IntKind.i64.wrap (v5 + (1 : Int))) y26.2.1 y26.2.2
   else
    some (v4, v6, v7)
def zdh (zbi : zad -> zag -> zaa -> Bool -> Option (zaf × zad × zag)) (n : Nat) (a0 : zad) (a1 : zag) (a2 : zaa) (a3 : Bool) : Option ((List zaf) × zad × zag) :=
 (zcf zbi a2 a3 n [] (0 : Int) a0 a1).bind fun y8 =>
 need ((0 : Int) <= (a0.zaD.length : Int) /\ (a0.zaD.length : Int) <= (y8.2.1.zaD.length : Int)) <|
 some (y8.1, ({ y8.2.1 with zaD := (y8.2.1.zaD.take (a0.zaD.length)) } : zad), y8.2.2)
def zbu (za1 : zad -> zag -> zaa -> Bool -> Option ((List zaf) × zad × zag)) (a2 : zaa) : Nat -> Int -> zad -> zag -> zaf -> Option (zad × zag × zaf)
 | 0, _, _, _, _ => none
 | c59 + 1, v54, v55, v56, v57 =>
   if (decide (v54 < ((a2.zal.drop 2).length : Int))) = true then
    (idxL (a2.zal.drop 2) v54).bind fun x64 =>
    (za1 v55 v56 x64 false).bind fun x70 =>
    zbu za1 a2 c59 (IntKind.i64.wrap (v54 + (1 : Int))) x70.2.1 x70.2.2 ({ v57 with zeW := x70.1 } : zaf)
   else
    some (v55, v56, v57)
def zcA (za1 : zad -> zag -> zaa -> Bool -> Option ((List zaf) × zad × zag)) (zdX : zad -> zag -> zaa -> zaf -> Option (zaf × zad × zag)) (n : Nat) (a0 : zad) (a1 : zag) (a2 : zaa) (a3 : Bool) : Option (zaf × zad × zag) :=
 if (a2.zaY == (5 : Int)) = true then
  (idxL a2.zal (0 : Int)).bind fun x5 =>
  (zbE n a0 a1 x5).bind fun x6 =>
  (zbo n a0 x6.2 (zan.mk a2.za6 (1 : Int) (0 : Int)) a2.At_).bind fun x13 =>
  some ((zaf.mk ([108, 101, 116] : Str) x13.1 (0 : Int) [x6.1] [] [] a2.At_), x13.2.1, x13.2.2)
 else
  if (a2.zaY == (6 : Int)) = true then
   (zdS n a0 a1 a2 (zaf.mk [] (-1 : Int) (0 : Int) [] [] [] a2.At_)).bind fun x16 =>
   some (x16.1, x16.2.1, x16.2.2)
  else
   if (a2.zaY == (7 : Int)) = true then
    (zf4 (IntKind.i64.wrap (min a2.Num_ (1025 : Int)))).bind fun x19 =>
    (zam a0 a1 x19 (136 : Int) a2.At_).bind fun x20 =>
    (zbo n a0 x20 (zan.mk a2.za6 (4 : Int) (IntKind.i64.wrap a2.Num_)) a2.At_).bind fun x23 =>
    some ((zaf.mk ([97, 114, 114] : Str) x23.1 (0 : Int) [] [] [] a2.At_), x23.2.1, x23.2.2)
   else
    if (a2.zaY == (8 : Int)) = true then
     (zef n a0 a1 a2 (zaf.mk [] (-1 : Int) (0 : Int) [] [] [] a2.At_)).bind fun x26 =>
     some (x26.1, x26.2.1, x26.2.2)
    else
     if (a2.zaY == (9 : Int)) = true then
      (zeg n a0 a1 a2 (zaf.mk [] (-1 : Int) (0 : Int) [] [] [] a2.At_)).bind fun x29 =>
      some (x29.1, a0, x29.2)
     else
      if (a2.zaY == (10 : Int)) = true then
       (zct n a0 a1 a2 (zaf.mk [] (-1 : Int) (0 : Int) [] [] [] a2.At_) (-1 : Int)).bind fun x32 =>
       some (x32.1, x32.2.1, x32.2.2)
      else
       if (a2.zaY == (11 : Int)) = true then
        (idxL a2.zal (0 : Int)).bind fun x35 =>
        (zbE n a0 a1 x35).bind fun x36 =>
        (idxL a2.zal (1 : Int)).bind fun x43 =>
        (za1 a0 x36.2 x43 false).bind fun x44 =>
        need ((0 : Int) <= (2 : Int) /\ (2 : Int) <= (a2.zal.length : Int)) <|
        (zbu za1 a2 n (0 : Int) x44.2.1 x44.2.2 (zaf.mk ([105, 102] : Str) (-1 : Int) (0 : Int) [x36.1] x44.1 [] a2.At_)).bind fun y58 =>
        some (y58.2.2, y58.1, y58.2.1)
       else
        if (a2.zaY == (12 : Int)) = true then
         (zdX a0 a1 a2 (zaf.mk [] (-1 : Int) (0 : Int) [] [] [] a2.At_)).bind fun x73 =>
         some (x73.1, x73.2.1, x73.2.2)
        else
         if (a2.zaY == (13 : Int)) = true then
          (zd7 n a0 a1 a2 (zaf.mk [] (-1 : Int) (0 : Int) [] [] [] a2.At_) a3).bind fun x76 =>
          some (x76.1, x76.2.1, x76.2.2)
         else
          some ((zaf.mk [] (-1 : Int) (0 : Int) [] [] [] a2.At_), a0, a1)
def zdx (za1 : zad -> zag -> zaa -> Bool -> Option ((List zaf) × zad × zag)) (n : Nat) (a0 : zad) (a1 : zag) (a2 : zaa) (a3 : zaf) : Option (zaf × zad × zag) :=
 (idxL a2.zal (0 : Int)).bind fun x4 =>
 (zbE n a0 a1 x4).bind fun x5 =>
 (idxL a2.zal (1 : Int)).bind fun x6 =>
 (zbE n a0 x5.2 x6).bind fun x7 =>
 (zbo n a0 x7.2 (zan.mk a2.za6 (1 : Int) (0 : Int)) a2.At_).bind fun x21 =>
 (idxL a2.zal (2 : Int)).bind fun x23 =>
 (za1 x21.2.1 x21.2.2 x23 false).bind fun x24 =>
 need ((0 : Int) <= (min (a0.zaD.length : Int) (x24.2.1.zaD.length : Int)) /\ (min (a0.zaD.length : Int) (x24.2.1.zaD.length : Int)) <= (x24.2.1.zaD.length : Int)) <|
 some (({ a3 with Op_ := ([102, 111, 114] : Str), Var_ := x21.1, zal := [x5.1, x7.1], zb1 := x24.1 } : zaf), ({ x24.2.1 with zaD := (x24.2.1.zaD.take ((min (a0.zaD.length : Int) (x24.2.1.zaD.length : Int)).toNat)) } : zad), x24.2.2)
def zbm : Nat -> (zad -> zag -> zaa -> Bool -> Option ((List zaf) × zad × zag)) × (zad -> zag -> zaa -> Bool -> Option (zaf × zad × zag)) × (zad -> zag -> zaa -> zaf -> Option (zaf × zad × zag))
 | 0 => (fun _ _ _ _ => none, fun _ _ _ _ => none, fun _ _ _ _ => none)
 | n + 1 => (zdh (zbm n).2.1 n, zcA (zbm n).1 (zbm n).2.2 n, zdx (zbm n).1 n)
def ze9 (n : Nat) : zad -> zag -> zaa -> Bool -> Option ((List zaf) × zad × zag) := (zbm n).1
def zhn (n : Nat) : zad -> zag -> zaa -> Bool -> Option (zaf × zad × zag) := (zbm n).2.1
def zjl (n : Nat) : zad -> zag -> zaa -> zaf -> Option (zaf × zad × zag) := (zbm n).2.2
def zfO (a0 : zaa) : Option Bool :=
 (if (decide ((0 : Int) < (a0.zal.length : Int))) = true then
    (idxL a0.zal (IntKind.i64.wrap ((a0.zal.length : Int) - (1 : Int)))).bind fun x4 =>
    some (x4.zaY == (13 : Int))
   else
    some false).bind fun y2 =>
 some y2
def zb0 (n : Nat) (a3 : zaa) : Nat -> Int -> zad -> zag -> Option (zad × zag)
 | 0, _, _, _ => none
 | c11 + 1, v7, v8, v9 =>
   if (decide (v7 < ((a3.zal.drop (max (IntKind.i64.wrap ((a3.zal.length : Int) - (1 : Int))) (0 : Int)).toNat).length : Int))) = true then
    (idxL (a3.zal.drop (max (IntKind.i64.wrap ((a3.zal.length : Int) - (1 : Int))) (0 : Int)).toNat) v7).bind fun x16 =>
    (idxL v8.p_.zay v8.f_).bind fun x22 =>
    (ze9 n v8 v9 x16 true).bind fun x25 =>
    (idxL x25.2.1.p_.zay v8.f_).bind fun x26 =>
    ((idxL (x25.2.1.p_.zay.set v8.f_.toNat { x26 with zb1 := x25.1 }) v8.f_).bind fun x56 =>
      if (x56.zbj == (0 : Int)) = true then
       (zam ({ x25.2.1 with p_ := ⟨(x25.2.1.p_.zay.set v8.f_.toNat { x26 with zb1 := x25.1 })⟩ } : zad) x25.2.2 true (135 : Int) a3.At_).bind fun x71 =>
       some x71
      else
       (zfO x16).bind fun x73 =>
       (zam ({ x25.2.1 with p_ := ⟨(x25.2.1.p_.zay.set v8.f_.toNat { x26 with zb1 := x25.1 })⟩ } : zad) x25.2.2 x73 (135 : Int) a3.At_).bind fun x74 =>
       some x74).bind fun y55 =>
    zb0 n a3 c11 (IntKind.i64.wrap (v7 + (1 : Int))) ({ x25.2.1 with p_ := ⟨(x25.2.1.p_.zay.set v8.f_.toNat { x26 with zb1 := x25.1 })⟩ } : zad) y55
   else
    some (v8, v9)
def zcK (n : Nat) (a0 : zad) (a1 : zag) (a2 : Int) (a3 : zaa) : Option (zad × zag) :=
 (zcY n a0 a1 a2).bind fun x2 =>
 need ((0 : Int) <= (max (IntKind.i64.wrap ((a3.zal.length : Int) - (1 : Int))) (0 : Int)) /\ (max (IntKind.i64.wrap ((a3.zal.length : Int) - (1 : Int))) (0 : Int)) <= (a3.zal.length : Int)) <|
 (zb0 n a3 n (0 : Int) x2.1 x2.2).bind fun y10 =>
 some (y10.1, y10.2)
end Go.Proofs.YtldnmmnnohnpkaaGreatDoor.Abs
namespace Go.Proofs.YtldnmmnnohnpkaaGreatDoor.Abs
open Go.RowKit
set_option linter.unusedVariables false
def zgi (rec_ : Int -> List Int -> Option (Bool × List Int)) (to : Int) : List Int -> List Int -> Option (Bool × List Int)
 | [], seen => some (false, seen)
 | k :: ks, seen =>
   if (k == to) = true then some (true, seen)
   else
    (idxL seen k).bind fun s =>
    if (IntKind.i64.wrap (s + (1 : Int)) == (1 : Int)) = true then
     (rec_ k (seen.set k.toNat (IntKind.i64.wrap (s + (1 : Int))))).bind fun r =>
     if r.1 = true then some (true, r.2) else zgi rec_ to ks r.2
    else zgi rec_ to ks (seen.set k.toNat (IntKind.i64.wrap (s + (1 : Int))))
def zcE : Nat -> zad -> Int -> Int -> List Int -> Option (Bool × List Int)
 | 0, _, _, _, _ => none
 | n + 1, c, fr, to, seen => (idxL c.zaV fr).bind fun l => need (l.length <= 1073741824) <| zgi (fun k s => zcE n c k to s) to l seen
abbrev Look := Int -> zaa -> zad -> zag -> Option (zad × zag)
def zfj (look : Look) : List zaa -> Nat -> zad -> zag -> Option (zad × zag)
 | [], _, c, w => some (c, w)
 | f :: l, i, c, w => if (w.e_ == (0 : Int)) = true then (look i f c w).bind fun r => zfj look l (i + 1) r.1 r.2 else zfj look l (i + 1) c w
def zf5 (nodes : List zaa) : List Look -> zad -> zag -> Option (zad × zag)
 | [], c, w => some (c, w)
 | look :: ls, c, w => (zfj look nodes 0 c w).bind fun r => zf5 nodes ls r.1 r.2
def zgY (n len : Nat) (c : zad) : List zaa -> Nat -> zag -> Option zag
 | [], _, w => some w
 | f :: l, i, w => if (w.e_ == (0 : Int)) = true then (zcE n c i i (List.replicate len 0)).bind fun r => (zam c w (!r.1) (134 : Int) f.At_).bind fun w' => zgY n len c l (i + 1) w' else zgY n len c l (i + 1) w
def zf7 (n : Nat) (a0 : Str) : Option (zbJ × Int × Int) :=
 (zgQ n a0).bind fun p =>
 if (p.2.1 != (0 : Int)) = true then some (⟨[]⟩, p.2.1, p.2.2)
 else
  (zdQ n zad.Z ⟨0, 0⟩ p.1).bind fun a =>
  need (p.1.zal.length <= 1073741824) <|
  (zf5 p.1.zal [fun i f c w => zcJ n c w i f, fun i f c w => zcK n c w i f] a.1 a.2).bind fun b =>
  (zgY n p.1.zal.length b.1 p.1.zal 0 b.2).bind fun w =>
  if (w.e_ != (0 : Int)) = true then some (⟨[]⟩, w.e_, w.zjp) else some (b.1.p_, 0, 0)
end Go.Proofs.YtldnmmnnohnpkaaGreatDoor.Abs
