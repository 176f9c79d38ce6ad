/-
 Plain models of functions. Written by a program of mine (gen.py) for this claim.
-/
import Derived.Test.YtncembphlfbgoaaDoorCFS3
namespace Go.Proofs.YtncembphlfbgoaaDoor.Abs
open Go.RowKit
set_option linter.unusedVariables false
structure aZ where
 Eo:cD
 Gx:Int
def aZ.C (x:aZ):List V:=[.lit (.string (bs x.Eo)),.lit (.int .i64 x.Gx)]
@[go_sem] theorem aZ.C_eq (x:aZ):aZ.C x=[.lit (.string (bs x.Eo)),.lit (.int .i64 x.Gx)]:=_root_.id rfl
structure cV where
 bN:Int
 eH:Int
 bP:cD
 jC:Int
def cV.C (x:cV):List V:=[.lit (.int .i64 x.bN),.lit (.int .i64 x.eH),.lit (.string (bs x.bP)),.lit (.int .u32 x.jC)]
@[go_sem] theorem cV.C_eq (x:cV):cV.C x=[.lit (.int .i64 x.bN),.lit (.int .i64 x.eH),.lit (.string (bs x.bP)),.lit (.int .u32 x.jC)]:=_root_.id rfl
structure aA where
 bN:Int
 eH:Int
 bP:cD
 jC:Int
 aN:(List aA)
mutual
def aA.C:aA->List V
 | ⟨a0,a1,a2,a3,a4⟩=>[.lit (.int .i64 a0),.lit (.int .i64 a1),.lit (.string (bs a2)),.lit (.int .u32 a3),.list .none (aA.CL a4)]
def aA.CL:List aA->List (List V)
 | []=>[]
 | x::l=>aA.C x::aA.CL l
end
theorem aA.CL_eq (l:List aA):aA.CL l=l.map aA.C:=by
 induction l with
 | nil=>rfl
 | cons x l ih=>rw [aA.CL,ih];rfl
@[go_sem] theorem aA.C_eq (x:aA):aA.C x=[.lit (.int .i64 x.bN),.lit (.int .i64 x.eH),.lit (.string (bs x.bP)),.lit (.int .u32 x.jC),.list .none (x.aN.map aA.C)]:=by
 cases x;simp only [aA.C,aA.CL_eq]
structure aB where
 l_:(List cV)
 fC:Int
 nV:Int
 e_:Int
 uE:Int
def aB.C (x:aB):List V:=[.list .none (x.l_.map cV.C),.lit (.int .i64 x.fC),.lit (.int .i64 x.nV),.lit (.int .i64 x.e_),.lit (.int .i64 x.uE)]
@[go_sem] theorem aB.C_eq (x:aB):aB.C x=[.list .none (x.l_.map cV.C),.lit (.int .i64 x.fC),.lit (.int .i64 x.nV),.lit (.int .i64 x.e_),.lit (.int .i64 x.uE)]:=_root_.id rfl
structure aY where
 gI:cD
 bN:Int
 nR:Int
def aY.C (x:aY):List V:=[.lit (.string (bs x.gI)),.lit (.int .i64 x.bN),.lit (.int .i64 x.nR)]
@[go_sem] theorem aY.C_eq (x:aY):aY.C x=[.lit (.string (bs x.gI)),.lit (.int .i64 x.bN),.lit (.int .i64 x.nR)]:=_root_.id rfl
structure aG where
 nJ:cD
 cE:Int
 N_:Int
 pJ:Int
 aN:(List aG)
 eH:Int
mutual
def aG.C:aG->List V
 | ⟨a0,a1,a2,a3,a4,a5⟩=>[.lit (.string (bs a0)),.lit (.int .i64 a1),.lit (.int .u32 a2),.lit (.int .i64 a3),.list .none (aG.CL a4),.lit (.int .i64 a5)]
def aG.CL:List aG->List (List V)
 | []=>[]
 | x::l=>aG.C x::aG.CL l
end
theorem aG.CL_eq (l:List aG):aG.CL l=l.map aG.C:=by
 induction l with
 | nil=>rfl
 | cons x l ih=>rw [aG.CL,ih];rfl
@[go_sem] theorem aG.C_eq (x:aG):aG.C x=[.lit (.string (bs x.nJ)),.lit (.int .i64 x.cE),.lit (.int .u32 x.N_),.lit (.int .i64 x.pJ),.list .none (x.aN.map aG.C),.lit (.int .i64 x.eH)]:=by
 cases x;simp only [aG.C,aG.CL_eq]
structure aH where
 nJ:cD
 pJ:Int
 mR:Int
 aN:(List aG)
 eR:(List aH)
 pT:(List aH)
 eH:Int
mutual
def aH.C:aH->List V
 | ⟨a0,a1,a2,a3,a4,a5,a6⟩=>[.lit (.string (bs a0)),.lit (.int .i64 a1),.lit (.int .i64 a2),.list .none (a3.map aG.C),.list .none (aH.CL a4),.list .none (aH.CL a5),.lit (.int .i64 a6)]
def aH.CL:List aH->List (List V)
 | []=>[]
 | x::l=>aH.C x::aH.CL l
end
theorem aH.CL_eq (l:List aH):aH.CL l=l.map aH.C:=by
 induction l with
 | nil=>rfl
 | cons x l ih=>rw [aH.CL,ih];rfl
@[go_sem] theorem aH.C_eq (x:aH):aH.C x=[.lit (.string (bs x.nJ)),.lit (.int .i64 x.pJ),.lit (.int .i64 x.mR),.list .none (x.aN.map aG.C),.list .none (x.eR.map aH.C),.list .none (x.pT.map aH.C),.lit (.int .i64 x.eH)]:=by
 cases x;simp only [aH.C,aH.CL_eq]
structure aO where
 gI:cD
 eJ:Bool
 cR:Int
 bI:Int
 bR:(List aY)
 eR:(List aH)
def aO.C (x:aO):List V:=[.lit (.string (bs x.gI)),.lit (.bool x.eJ),.lit (.int .i64 x.cR),.lit (.int .i64 x.bI),.list .none (x.bR.map aY.C),.list .none (x.eR.map aH.C)]
@[go_sem] theorem aO.C_eq (x:aO):aO.C x=[.lit (.string (bs x.gI)),.lit (.bool x.eJ),.lit (.int .i64 x.cR),.lit (.int .i64 x.bI),.list .none (x.bR.map aY.C),.list .none (x.eR.map aH.C)]:=_root_.id rfl
structure bV where
 aS:(List aO)
def bV.C (x:bV):List V:=[.list .none (x.aS.map aO.C)]
@[go_sem] theorem bV.C_eq (x:bV):bV.C x=[.list .none (x.aS.map aO.C)]:=_root_.id rfl
def bV.Z:bV:=⟨[]⟩
structure aF where
 e_:Int
 uE:Int
structure aD where
 p_:bV
 f_:Int
 aX:List Int
 bO:List (List Int)
 fC:Int
def aD.Z:aD:=⟨bV.Z,-1,[],[],0⟩
def kT (F fp S C:V) (x:aD) (y:aF):List V:=[F,fp,S,C,.lit (.int .i64 x.fC),.lit (.int .i64 y.e_),.lit (.int .i64 y.uE)]
@[go_sem] theorem ckC_eq {F fp S C:V} {x:aD} {y:aF}:kT F fp S C x y=[F,fp,S,C,.lit (.int .i64 x.fC),.lit (.int .i64 y.e_),.lit (.int .i64 y.uE)]:=_root_.id rfl
def eF:List cD:=[[45,62],[46,46],[61,61],[60,60,60],[60,60],[62,62],[60],[40],[41],[123],[125],[91],[93],[44],[59],[58],[61],[43],[45],[42],[47],[37],[38],[124],[94],[126]]
@[go_sem] theorem Ia:(cA cS eF).length=26:=by kernel_rfl
@[go_sem] theorem Hr:(cA cS eF).take 26=(cA cS eF):=by kernel_rfl
def bT:List cD:=[[102,110],[101,120,112,111,114,116],[108,101,116],[118,97,114],[97,114,114],[105,102],[101,108,115,101],[102,111,114],[105,110],[114,101,116,117,114,110],[112,117,98],[117,51,50],[117,54,52]]
@[go_sem] theorem Gp:(cA cS bT).length=13:=by kernel_rfl
@[go_sem] theorem EW:uA 1 13 (cA cS bT)=bT.map cS:=_root_.id rfl
def cT:List (List cD):=[[[124],[],[]],[[94],[],[]],[[38],[],[]],[[61,61],[60],[]],[[60,60],[62,62],[60,60,60]],[[43],[45],[]],[[42],[47],[37]]]
def cG:List aZ:=[(aZ.mk [115,101,108,101,99,116] 3),(aZ.mk [108,111,110,103] 1),(aZ.mk [108,111] 1),(aZ.mk [104,105] 1),(aZ.mk [119,105,100,101] 2)]
@[go_sem] theorem Gq:(cA aZ.C cG).length=10:=by kernel_rfl
@[go_sem] theorem FB:(cA aZ.C cG).take 10=(cA aZ.C cG):=by kernel_rfl
@[go_sem] theorem ED:(cA aZ.C cG).map V.shared=(cA aZ.C cG):=_root_.id rfl
def vY (a0:Int):Option Bool:=
 (if (a0 == (32:Int))=true then
    some true
   else
    if (a0 == (9:Int))=true then
     some true
    else
     if (a0 == (13:Int))=true then
      some true
     else
      some (a0 == (10:Int))).bind fun y1=>
 some y1
def eQ (a0:cD) (a1:cD):Option Bool:=
 (if (decide ((a1.length:Int)<=(a0.length:Int)))=true then
    kM ((0:Int)<=(a1.length:Int)/\(a1.length:Int)<=(a0.length:Int)) <|
    some (decide ((a0.take (a1.length:Int).toNat)=a1))
   else
    some false).bind fun y1=>
 some y1
def lE (a0:cD) (a1:cD):Option Bool:=
 (eQ a0 a1).bind fun x1=>
 some x1
def mJ (a0:cD) (a1:Int):Option Int:=some (Lib.indexByte a0 a1.toNat.toUInt8)
def kN (a0:cD) (a1:Int):Option Int:=
 (mJ a0 a1).bind fun x1=>
 some x1
def lD (a0:cD) (a1:Int):Option Int:=
 (kN a0 a1).bind fun x1=>
 some x1
def nA (a0:cD):Nat->Int->Option (Int ⊕ Int)
 | 0,_=>none
 | c4+1,v2=>
   if (decide (v2<(a0.length:Int)))=true then
    (cJ a0 v2).bind fun x9=>
    (vY (x9.toNat:Int)).bind fun x10=>
    if x10=true then
     nA a0 c4 (IntKind.i64.wrap (v2+(1:Int)))
    else
     kM ((0:Int)<=v2/\v2<=(a0.length:Int)) <|
     (lE (a0.drop v2.toNat) ([47,47]:cD)).bind fun x17=>
     if x17=true then
      kM ((0:Int)<=v2/\v2<=(a0.length:Int)) <|
      (lD (a0.drop v2.toNat) (10:Int)).bind fun x22=>
      if (decide (x22<(0:Int)))=true then
       some (.inr (a0.length:Int))
      else
       nA a0 c4 (IntKind.i64.wrap (v2+x22))
     else
      some (.inr v2)
   else
    some (.inl v2)
def vX (n:Nat) (a0:cD) (a1:Int):Option Int:=
 (nA a0 n a1).bind fun y3=>
 y3.elim (fun y3a=>
  some y3a) (fun y3a=>
  some y3a)
def qZ (a0:Int):Option Bool:=
 (if (decide ((97:Int)<=a0))=true then
    if (decide (a0<=(122:Int)))=true then
     some true
    else
     some (a0 == (95:Int))
   else
    some (a0 == (95:Int))).bind fun y1=>
 some y1
def sJ (a0:Int):Option Bool:=
 (if (decide ((48:Int)<=a0))=true then
    some (decide (a0<=(57:Int)))
   else
    some false).bind fun y1=>
 some y1
def oE (a0:cD):Nat->Int->Option (Unit ⊕ cD)
 | 0,_=>none
 | c4+1,v2=>
   if (decide (v2<(a0.length:Int)))=true then
    ((cJ a0 v2).bind fun x10=>
      (qZ (x10.toNat:Int)).bind fun x11=>
      if (!x11)=true then
       (sJ (x10.toNat:Int)).bind fun x18=>
       some (!x18)
      else
       some false).bind fun y9=>
    if y9=true then
     kM ((0:Int)<=v2/\v2<=(a0.length:Int)) <|
     some (.inr (a0.take v2.toNat))
    else
     oE a0 c4 (IntKind.i64.wrap (v2+(1:Int)))
   else
    some (.inl ())
def yK (n:Nat) (a0:cD):Option cD:=
 (oE a0 n (0:Int)).bind fun y3=>
 y3.elim (fun y3a=>
  some a0) (fun y3a=>
  some y3a)
def iA (a0:cD) (a1:cD):Option (cD × Bool):=
 (eQ a0 a1).bind fun x1=>
 if (!x1)=true then
  some (a0,false)
 else
  kM ((0:Int)<=(a1.length:Int)/\(a1.length:Int)<=(a0.length:Int)) <|
  some ((a0.drop (a1.length:Int).toNat),true)
def mG (a0:cD) (a1:cD):Option (cD × Bool):=
 (iA a0 a1).bind fun x1=>
 some (x1.1,x1.2)
def nH (x1:(cD × Bool)):Nat->Int->Int->Option (Int ⊕ (Int × Bool))
 | 0,_,_=>none
 | c8+1,v5,v6=>
   if (decide (v6<(x1.1.length:Int)))=true then
    kM ((0:Int)<=(16:Int)/\(16:Int)<=(([48,49,50,51,52,53,54,55,56,57,97,98,99,100,101,102]:cD).length:Int)) <|
    (cJ x1.1 v6).bind fun x13=>
    (lD (([48,49,50,51,52,53,54,55,56,57,97,98,99,100,101,102]:cD).take (16:Int).toNat) (x13.toNat:Int)).bind fun x14=>
    (if (decide (x14<(0:Int)))=true then
       some true
      else
       some (decide ((4294967295:Int)<(IntKind.i64.wrap ((IntKind.i64.wrap (v5*(16:Int)))+x14))))).bind fun y22=>
    if y22=true then
     some (.inr ((0:Int),false))
    else
     nH x1 c8 (IntKind.i64.wrap ((IntKind.i64.wrap (v5*(16:Int)))+x14)) (IntKind.i64.wrap (v6+(1:Int)))
   else
    some (.inl v5)
def nG (a0:cD):Nat->Int->Int->Option (Int ⊕ (Int × Bool))
 | 0,_,_=>none
 | c32+1,v29,v30=>
   if (decide (v30<(a0.length:Int)))=true then
    kM ((0:Int)<=(10:Int)/\(10:Int)<=(([48,49,50,51,52,53,54,55,56,57,97,98,99,100,101,102]:cD).length:Int)) <|
    (cJ a0 v30).bind fun x37=>
    (lD (([48,49,50,51,52,53,54,55,56,57,97,98,99,100,101,102]:cD).take (10:Int).toNat) (x37.toNat:Int)).bind fun x38=>
    (if (decide (x38<(0:Int)))=true then
       some true
      else
       some (decide ((4294967295:Int)<(IntKind.i64.wrap ((IntKind.i64.wrap (v29*(10:Int)))+x38))))).bind fun y46=>
    if y46=true then
     some (.inr ((0:Int),false))
    else
     nG a0 c32 (IntKind.i64.wrap ((IntKind.i64.wrap (v29*(10:Int)))+x38)) (IntKind.i64.wrap (v30+(1:Int)))
   else
    some (.inl v29)
def vW (n:Nat) (a0:cD):Option (Int × Bool):=
 (mG a0 ([48,120]:cD)).bind fun x1=>
 if x1.2=true then
  (nH x1 n (0:Int) (0:Int)).bind fun y7=>
  y7.elim (fun y7a=>
   some ((IntKind.u32.wrap y7a),(decide (x1.1 ≠ ([]:cD))))) (fun y7a=>
   some y7a)
 else
  (nG a0 n (0:Int) (0:Int)).bind fun y31=>
  y31.elim (fun y31a=>
   some ((IntKind.u32.wrap y31a),(decide (a0 ≠ ([]:cD))))) (fun y31a=>
   some y31a)
def oF (a0:cD):Nat->Int->Option (Unit ⊕ cD)
 | 0,_=>none
 | c4+1,v2=>
   if (decide (v2<(26:Int)))=true then
    (cJ eF v2).bind fun x9=>
    (lE a0 x9).bind fun x17=>
    if x17=true then
     some (.inr x9)
    else
     oF a0 c4 (IntKind.i64.wrap (v2+(1:Int)))
   else
    some (.inl ())
def yL (n:Nat) (a0:cD):Option cD:=
 (oF a0 n (0:Int)).bind fun y3=>
 y3.elim (fun y3a=>
  some ([]:cD)) (fun y3a=>
  some y3a)
def yM (n:Nat) (a0:cD) (a1:Int):Option (cV × Int):=
 kM ((0:Int)<=a1/\a1<=(a0.length:Int)) <|
 (yK n (a0.drop a1.toNat)).bind fun x2=>
 (cJ a0 a1).bind fun x7=>
 (qZ (x7.toNat:Int)).bind fun x8=>
 if x8=true then
  if (decide ((32:Int)<(x2.length:Int)))=true then
   some ((cV.mk (0:Int) (0:Int) [] (0:Int)),(102:Int))
  else
   some ((cV.mk (1:Int) a1 x2 (0:Int)),(0:Int))
 else
  (sJ (x7.toNat:Int)).bind fun x16=>
  if x16=true then
   (vW n x2).bind fun x19=>
   if (!x19.2)=true then
    some ((cV.mk (0:Int) (0:Int) [] (0:Int)),(101:Int))
   else
    some ((cV.mk (2:Int) a1 x2 x19.1),(0:Int))
  else
   kM ((0:Int)<=a1/\a1<=(a0.length:Int)) <|
   (yL n (a0.drop a1.toNat)).bind fun x22=>
   if (decide (x22=([]:cD)))=true then
    some ((cV.mk (0:Int) (0:Int) [] (0:Int)),(100:Int))
   else
    some ((cV.mk (3:Int) a1 x22 (0:Int)),(0:Int))
def mO (n:Nat) (a0:cD):Nat->(List cV)->Int->Option ((List cV) ⊕ ((List cV) × Int × Int))
 | 0,_,_=>none
 | c8+1,v5,v6=>
   if (decide (v6<(a0.length:Int)))=true then
    (yM n a0 v6).bind fun x13=>
    if (x13.2 != (0:Int))=true then
     some (.inr ([],x13.2,v6))
    else
     kM (v5.length+[x13.1].length<=1073741824) <|
     (vX n a0 (IntKind.i64.wrap (v6+(x13.1.bP.length:Int)))).bind fun x20=>
     mO n a0 c8 (v5++[x13.1]) x20
   else
    some (.inl v5)
def sX (n:Nat) (a0:cD):Option ((List cV) × Int × Int):=
 if (decide ((65536:Int)<(a0.length:Int)))=true then
  some ([],(161:Int),(0:Int))
 else
  (vX n a0 (0:Int)).bind fun x2=>
  (mO n a0 n [] x2).bind fun y7=>
  y7.elim (fun y7a=>
   kM (y7a.length+[(cV.mk (4:Int) (a0.length:Int) [] (0:Int))].length<=1073741824) <|
   some ((y7a++[(cV.mk (4:Int) (a0.length:Int) [] (0:Int))]),(0:Int),(0:Int))) (fun y7a=>
   some y7a)
def dR (a0:aB):Option cV:=
 (cJ a0.l_ a0.fC).bind fun x2=>
 some x2
def fP (a0:aB) (a1:Int):Option aB:=
 if (a0.e_ == (0:Int))=true then
  (dR a0).bind fun x2=>
  some ({ a0 with e_:=a1,uE:=x2.eH }:aB)
 else
  some a0
def dX (a0:aB) (a1:Int):Option (aA × aB):=
 if (decide ((16384:Int)<(IntKind.i64.wrap (a0.nV+(1:Int)))))=true then
  (fP ({ a0 with nV:=(IntKind.i64.wrap (a0.nV+(1:Int))) }:aB) (136:Int)).bind fun x3=>
  (dR x3).bind fun x5=>
  some ((aA.mk a1 x5.eH [] (0:Int) []),x3)
 else
  (dR ({ a0 with nV:=(IntKind.i64.wrap (a0.nV+(1:Int))) }:aB)).bind fun x7=>
  some ((aA.mk a1 x7.eH [] (0:Int) []),({ a0 with nV:=(IntKind.i64.wrap (a0.nV+(1:Int))) }:aB))
def dU (a0:(List cD)) (a1:cD):Nat->Int->Option (Unit ⊕ Int)
 | 0,_=>none
 | c4+1,v2=>
   if (decide (v2<(a0.length:Int)))=true then
    (cJ a0 v2).bind fun x9=>
    if (decide (a1=x9))=true then
     some (.inr v2)
    else
     dU a0 a1 c4 (IntKind.i64.wrap (v2+(1:Int)))
   else
    some (.inl ())
def iQ (n:Nat) (a0:(List cD)) (a1:cD):Option Int:=
 (dU a0 a1 n (0:Int)).bind fun y3=>
 y3.elim (fun y3a=>
  some (-1:Int)) (fun y3a=>
  some y3a)
def gU (n:Nat) (a0:(List cD)) (a1:cD):Option Bool:=
 (iQ n a0 a1).bind fun x1=>
 some (decide ((0:Int)<=x1))
def qV (n:Nat) (a0:cD):Option Bool:=
 (gU n bT a0).bind fun x1=>
 some x1
def gO (n:Nat) (a0:aB) (a1:cD):Option Bool:=
 (dR a0).bind fun x1=>
 (if (a0.e_ == (0:Int))=true then
    if (decide (x1.bP=a1))=true then
     if (x1.bN == (3:Int))=true then
      some true
     else
      if (x1.bN == (1:Int))=true then
       (qV n a1).bind fun x9=>
       some x9
      else
       some false
    else
     some false
   else
    some false).bind fun y4=>
 some y4
def bJ (n:Nat) (a0:aB) (a1:cD):Option (Bool × aB):=
 (gO n a0 a1).bind fun x1=>
 if (!x1)=true then
  some (false,a0)
 else
  some (true,({ a0 with fC:=(IntKind.i64.wrap (a0.fC+(1:Int))) }:aB))
def bG (n:Nat) (a0:aB) (a1:cD):Option aB:=
 (bJ n a0 a1).bind fun x1=>
 if (!x1.1)=true then
  (fP x1.2 (110:Int)).bind fun x4=>
  some x4
 else
  some x1.2
def dN (n:Nat) (a0:aB):Option (cD × aB):=
 (dR a0).bind fun x1=>
 (if (a0.e_ != (0:Int))=true then
    some true
   else
    if (x1.bN != (1:Int))=true then
     some true
    else
     (qV n x1.bP).bind fun x7=>
     some x7).bind fun y4=>
 if y4=true then
  (fP a0 (110:Int)).bind fun x13=>
  some (([]:cD),x13)
 else
  some (x1.bP,({ a0 with fC:=(IntKind.i64.wrap (a0.fC+(1:Int))) }:aB))
def iH (a0:aB):Option (Int × aB):=
 (dR a0).bind fun x1=>
 (if (a0.e_ != (0:Int))=true then
    some true
   else
    some (x1.bN != (2:Int))).bind fun y4=>
 if y4=true then
  (fP a0 (110:Int)).bind fun x10=>
  some ((0:Int),x10)
 else
  some (x1.jC,({ a0 with fC:=(IntKind.i64.wrap (a0.fC+(1:Int))) }:aB))
def jR (n:Nat) (a0:aB):Option (Int × aB):=
 (bG n a0 ([91]:cD)).bind fun x1=>
 (iH x1).bind fun x3=>
 (bG n x3.2 ([93]:cD)).bind fun x5=>
 some (x3.1,x5)
def mT:List cD:=[([112,117,98]:cD),([117,51,50]:cD),([117,54,52]:cD)]
def fR (n:Nat):Nat->Int->aB->aA->aA->Option ((aB × aA × aA) ⊕ (aA × aB))
 | 0,_,_,_,_=>none
 | c15+1,v10,v11,v12,v13=>
   if (decide (v10<(3:Int)))=true then
    (cJ mT v10).bind fun x20=>
    (bJ n v11 x20).bind fun x29=>
    if x29.1=true then
     some (.inr (({ v13 with jC:=(IntKind.u32.wrap (IntKind.i64.wrap ((1:Int)+v10))) }:aA),x29.2))
    else
     fR n c15 (IntKind.i64.wrap (v10+(1:Int))) x29.2 v12 v13
   else
    some (.inl (v11,v12,v13))
def kY (n:Nat) (a0:aB):Option (aA × aB):=
 (dX a0 (3:Int)).bind fun x2=>
 (dN n x2.2).bind fun x5=>
 (bG n x5.2 ([58]:cD)).bind fun x7=>
 (fR n n (0:Int) x7 (aA.mk (0:Int) (0:Int) [] (0:Int) []) ({ x2.1 with bP:=x5.1 }:aA)).bind fun y14=>
 y14.elim (fun y14a=>
  (dX y14a.1 (14:Int)).bind fun x37=>
  (jR n x37.2).bind fun x40=>
  some (({ y14a.2.2 with jC:=(4:Int),aN:=[({ x37.1 with jC:=x40.1 }:aA)] }:aA),x40.2)) (fun y14a=>
  some y14a)
def eD (n:Nat):Nat->(List aA)->aB->Option ((List aA) × aB)
 | 0,_,_=>none
 | c11+1,v8,v9=>
   if (v9.e_ == (0:Int))=true then
    (kY n v9).bind fun x16=>
    kM (v8.length+[x16.1].length<=1073741824) <|
    (bJ n x16.2 ([44]:cD)).bind fun x21=>
    if (!x21.1)=true then
     some ((v8++[x16.1]),x21.2)
    else
     eD n c11 (v8++[x16.1]) x21.2
   else
    some (v8,v9)
def eS (n:Nat) (a0:aB):Option ((List aA) × aB):=
 (bG n a0 ([40]:cD)).bind fun x1=>
 (bJ n x1 ([41]:cD)).bind fun x3=>
 if x3.1=true then
  some ([],x3.2)
 else
  ((eD n n [] x3.2).bind fun y10=>
    some (y10.1,y10.2)).bind fun y6=>
  (bG n y6.2 ([41]:cD)).bind fun x27=>
  some (y6.1,x27)
def jT (a0:aB) (a1:Int):Option aB:=
 if (decide ((64:Int)<a1))=true then
  (fP a0 (111:Int)).bind fun x2=>
  some x2
 else
  some a0
def gC (n:Nat) (x1:(List cD)) (a0:aB):Nat->Int->Option (Unit ⊕ cD)
 | 0,_=>none
 | c15+1,v13=>
   if (decide (v13<(3:Int)))=true then
    (cJ x1 v13).bind fun x20=>
    (if (decide (x20 ≠ ([]:cD)))=true then
       (gO n a0 x20).bind fun x31=>
       some x31
      else
       some false).bind fun y29=>
    if y29=true then
     some (.inr x20)
    else
     gC n x1 a0 c15 (IntKind.i64.wrap (v13+(1:Int)))
   else
    some (.inl ())
def jS (n:Nat) (a0:aB) (a1:Int):Option cD:=
 (cJ cT a1).bind fun x1=>
 (gC n x1 a0 n (0:Int)).bind fun y14=>
 y14.elim (fun y14a=>
  some ([]:cD)) (fun y14a=>
  some y14a)
def dI (dQ:aB->Int->Option (aA × aB)) (n:Nat) (a1:Int):Nat->(List aA)->aB->Option ((List aA) × aB)
 | 0,_,_=>none
 | c11+1,v8,v9=>
   if (v9.e_ == (0:Int))=true then
    (dQ v9 a1).bind fun x16=>
    kM (v8.length+[x16.1].length<=1073741824) <|
    (bJ n x16.2 ([44]:cD)).bind fun x21=>
    if (!x21.1)=true then
     some ((v8++[x16.1]),x21.2)
    else
     dI dQ n a1 c11 (v8++[x16.1]) x21.2
   else
    some (v8,v9)
def fH (dQ:aB->Int->Option (aA × aB)) (n:Nat) (a0:aB) (a1:Int):Option ((List aA) × aB):=
 (bG n a0 ([40]:cD)).bind fun x1=>
 (bJ n x1 ([41]:cD)).bind fun x3=>
 if x3.1=true then
  some ([],x3.2)
 else
  ((dI dQ n a1 n [] x3.2).bind fun y10=>
    some (y10.1,y10.2)).bind fun y6=>
  (bG n y6.2 ([41]:cD)).bind fun x27=>
  some (y6.1,x27)
def kD (cO:aB->Int->Int->Option (aA × aB)) (n:Nat) (a0:aB) (a1:Int):Option (aA × aB):=
 (cO a0 (0:Int) a1).bind fun x2=>
 some (x2.1,x2.2)
def fT (cO:aB->Int->Int->Option (aA × aB)) (n:Nat) (a1:Int) (a2:Int):Nat->cD->aB->aA->Option (aB × aA)
 | 0,_,_,_=>none
 | c15+1,v11,v12,v13=>
   if (decide (v11 ≠ ([]:cD)))=true then
    (dX v12 (19:Int)).bind fun x20=>
    (bG n x20.2 v11).bind fun x23=>
    (cO x23 (IntKind.i64.wrap (a1+(1:Int))) a2).bind fun x25=>
    if (a1 == (3:Int))=true then
     some (x25.2,({ x20.1 with bP:=v11,aN:=[v13,x25.1] }:aA))
    else
     (jS n x25.2 a1).bind fun x28=>
     fT cO n a1 a2 c15 x28 x25.2 ({ x20.1 with bP:=v11,aN:=[v13,x25.1] }:aA)
   else
    some (v12,v13)
def jG (cN:aB->Int->Option (aA × aB)) (cO:aB->Int->Int->Option (aA × aB)) (n:Nat) (a0:aB) (a1:Int) (a2:Int):Option (aA × aB):=
 if (a1 == (7:Int))=true then
  (cN a0 a2).bind fun x3=>
  some (x3.1,x3.2)
 else
  (cO a0 (IntKind.i64.wrap (a1+(1:Int))) a2).bind fun x5=>
  (jS n x5.2 a1).bind fun x8=>
  (fT cO n a1 a2 n x8 x5.2 x5.1).bind fun y14=>
  some (y14.2,y14.1)
def jY:List cD:=[([126]:cD),([45]:cD)]
def fD (cN:aB->Int->Option (aA × aB)) (n:Nat) (a1:Int):Nat->Int->aB->aA->aA->Option ((aB × aA × aA) ⊕ (aA × aB))
 | 0,_,_,_,_=>none
 | c23+1,v18,v19,v20,v21=>
   if (decide (v18<(2:Int)))=true then
    (cJ jY v18).bind fun x28=>
    (bJ n v19 x28).bind fun x37=>
    if x37.1=true then
     (cN x37.2 (IntKind.i64.wrap (a1+(1:Int)))).bind fun x40=>
     some (.inr (({ v20 with bN:=(18:Int),bP:=x28,aN:=[x40.1] }:aA),x40.2))
    else
     fD cN n a1 c23 (IntKind.i64.wrap (v18+(1:Int))) x37.2 v20 v21
   else
    some (.inl (v19,v20,v21))
def iK (dW:aB->Int->Option (aA × aB)) (cN:aB->Int->Option (aA × aB)) (gB:aB->Int->Option ((List aA) × aB)) (n:Nat) (a0:aB) (a1:Int):Option (aA × aB):=
 (jT a0 a1).bind fun x4=>
 (bJ n x4 ([40]:cD)).bind fun x6=>
 if x6.1=true then
  (dW x6.2 (IntKind.i64.wrap (a1+(1:Int)))).bind fun x9=>
  (bG n x9.2 ([41]:cD)).bind fun x12=>
  some (x9.1,x12)
 else
  (dX x6.2 (15:Int)).bind fun x14=>
  (fD cN n a1 n (0:Int) x14.2 x14.1 (aA.mk (0:Int) (0:Int) [] (0:Int) [])).bind fun y22=>
  y22.elim (fun y22a=>
   (if (y22a.1.e_ == (0:Int))=true then
      (dR y22a.1).bind fun x72=>
      some (x72.bN == (2:Int))
     else
      some false).bind fun y70=>
   if y70=true then
    (iH y22a.1).bind fun x78=>
    some (({ y22a.2.1 with bN:=(14:Int),jC:=x78.1 }:aA),x78.2)
   else
    (dN n y22a.1).bind fun x80=>
    ((gO n x80.2 ([40]:cD)).bind fun x83=>
      if x83=true then
       (gB x80.2 a1).bind fun x86=>
       some (x86.2,({ y22a.2.1 with bN:=(17:Int),bP:=x80.1,aN:=x86.1 }:aA))
      else
       (bJ n x80.2 ([91]:cD)).bind fun x88=>
       if x88.1=true then
        (dW x88.2 (IntKind.i64.wrap (a1+(1:Int)))).bind fun x91=>
        (bG n x91.2 ([93]:cD)).bind fun x93=>
        some (x93,({ y22a.2.1 with bN:=(16:Int),bP:=x80.1,aN:=[x91.1] }:aA))
       else
        some (x88.2,({ y22a.2.1 with bP:=x80.1 }:aA))).bind fun y82=>
    some (y82.2,y82.1)) (fun y22a=>
   some y22a)
def gX (dW:aB->Int->Option (aA × aB)) (n:Nat) (a0:aB) (a1:Int):Option (aA × aB):=
 (dW a0 (IntKind.i64.wrap (a1+(1:Int)))).bind fun x2=>
 some (x2.1,x2.2)
def aV:Nat->(aB->Int->Option ((List aA) × aB)) × (aB->Int->Option (aA × aB)) × (aB->Int->Int->Option (aA × aB)) × (aB->Int->Option (aA × aB)) × (aB->Int->Option (aA × aB))
 | 0=>(fun _ _=>none,fun _ _=>none,fun _ _ _=>none,fun _ _=>none,fun _ _=>none)
 | n+1=>(fH (aV n).2.2.2.2 n,kD (aV n).2.2.1 n,jG (aV n).2.2.2.1 (aV n).2.2.1 n,iK (aV n).2.1 (aV n).2.2.2.1 (aV n).1 n,gX (aV n).2.1 n)
def qX (n:Nat):aB->Int->Option ((List aA) × aB):=(aV n).1
def dY (n:Nat):aB->Int->Option (aA × aB):=(aV n).2.1
def yG (n:Nat):aB->Int->Int->Option (aA × aB):=(aV n).2.2.1
def wP (n:Nat):aB->Int->Option (aA × aB):=(aV n).2.2.2.1
def uK (n:Nat):aB->Int->Option (aA × aB):=(aV n).2.2.2.2
def iR (n:Nat) (a0:aB) (a1:aA) (a2:Int):Option (aA × aB):=
 (dN n a0).bind fun x3=>
 (bG n x3.2 ([61]:cD)).bind fun x5=>
 (dY n x5 a2).bind fun x7=>
 (bG n x7.2 ([59]:cD)).bind fun x9=>
 some (({ a1 with bP:=x3.1,aN:=[x7.1] }:aA),x9)
def jE (n:Nat) (a0:aB) (a1:Int):Option (aA × aB):=
 (dY n a0 (IntKind.i64.wrap (a1+(2:Int)))).bind fun x2=>
 some (x2.1,x2.2)
def dV (n:Nat) (a1:Int):Nat->(List aA)->aB->Option ((List aA) × aB)
 | 0,_,_=>none
 | c11+1,v8,v9=>
   if (v9.e_ == (0:Int))=true then
    (jE n v9 a1).bind fun x16=>
    kM (v8.length+[x16.1].length<=1073741824) <|
    (bJ n x16.2 ([44]:cD)).bind fun x21=>
    if (!x21.1)=true then
     some ((v8++[x16.1]),x21.2)
    else
     dV n a1 c11 (v8++[x16.1]) x21.2
   else
    some (v8,v9)
def gG (n:Nat) (a0:aB) (a1:Int):Option ((List aA) × aB):=
 (bG n a0 ([40]:cD)).bind fun x1=>
 (bJ n x1 ([41]:cD)).bind fun x3=>
 if x3.1=true then
  some ([],x3.2)
 else
  ((dV n a1 n [] x3.2).bind fun y10=>
    some (y10.1,y10.2)).bind fun y6=>
  (bG n y6.2 ([41]:cD)).bind fun x27=>
  some (y6.1,x27)
def kX (n:Nat) (a0:aB) (a1:aA) (a2:Int):Option (aA × aB):=
 (dN n a0).bind fun x5=>
 ((gO n x5.2 ([40]:cD)).bind fun x8=>
   if x8=true then
    (gG n x5.2 a2).bind fun x11=>
    some (x11.2,({ a1 with bN:=(10:Int),bP:=x5.1,aN:=x11.1 }:aA))
   else
    (bJ n x5.2 ([91]:cD)).bind fun x13=>
    if x13.1=true then
     (dY n x13.2 (IntKind.i64.wrap (a2+(2:Int)))).bind fun x16=>
     (bG n x16.2 ([93]:cD)).bind fun x18=>
     (bG n x18 ([61]:cD)).bind fun x20=>
     (dY n x20 (IntKind.i64.wrap (a2+(1:Int)))).bind fun x22=>
     kM ([x16.1].length+[x22.1].length<=1073741824) <|
     some (x22.2,({ a1 with bN:=(9:Int),bP:=x5.1,aN:=([x16.1]++[x22.1]) }:aA))
    else
     (bG n x13.2 ([61]:cD)).bind fun x25=>
     (dY n x25 (IntKind.i64.wrap (a2+(1:Int)))).bind fun x27=>
     some (x27.2,({ a1 with bP:=x5.1,aN:=[x27.1] }:aA))).bind fun y7=>
 (bG n y7.1 ([59]:cD)).bind fun x32=>
 some (y7.2,x32)
def eW (dP:aB->Int->Option (aA × aB)) (n:Nat) (a1:Int):Nat->aB->aA->Option (aB × aA)
 | 0,_,_=>none
 | c13+1,v10,v11=>
   (if (v10.e_ == (0:Int))=true then
      (gO n v10 ([125]:cD)).bind fun x19=>
      some (!x19)
     else
      some false).bind fun y17=>
   if y17=true then
    (dP v10 a1).bind fun x25=>
    kM (v11.aN.length+[x25.1].length<=1073741824) <|
    eW dP n a1 c13 x25.2 ({ v11 with aN:=(v11.aN++[x25.1]) }:aA)
   else
    some (v10,v11)
def jI (dP:aB->Int->Option (aA × aB)) (n:Nat) (a0:aB) (a1:Int):Option (aA × aB):=
 (jT a0 a1).bind fun x2=>
 (dX x2 (4:Int)).bind fun x4=>
 (bG n x4.2 ([123]:cD)).bind fun x7=>
 (eW dP n a1 n x7 x4.1).bind fun y12=>
 (bG n y12.1 ([125]:cD)).bind fun x32=>
 some (y12.2,x32)
def gW (jW:aB->aA->Int->Option (aA × aB)) (lF:aB->aA->Int->Option (aA × aB)) (n:Nat) (a0:aB) (a1:Int):Option (aA × aB):=
 (dX a0 (8:Int)).bind fun x2=>
 ((bJ n x2.2 ([108,101,116]:cD)).bind fun x6=>
   if x6.1=true then
    (iR n x6.2 ({ x2.1 with bN:=(5:Int) }:aA) (IntKind.i64.wrap (a1+(1:Int)))).bind fun x9=>
    some (.inr (x9.1,x9.2))
   else
    (bJ n x6.2 ([118,97,114]:cD)).bind fun x11=>
    if x11.1=true then
     (iR n x11.2 ({ x2.1 with bN:=(6:Int) }:aA) (IntKind.i64.wrap (a1+(1:Int)))).bind fun x14=>
     some (.inr (x14.1,x14.2))
    else
     (bJ n x11.2 ([97,114,114]:cD)).bind fun x16=>
     if x16.1=true then
      (dN n x16.2).bind fun x19=>
      (jR n x19.2).bind fun x21=>
      some (.inl (x21.2,({ x2.1 with bN:=(7:Int),bP:=x19.1,jC:=x21.1 }:aA)))
     else
      (bJ n x16.2 ([114,101,116,117,114,110]:cD)).bind fun x23=>
      if x23.1=true then
       (dY n x23.2 (IntKind.i64.wrap (a1+(1:Int)))).bind fun x26=>
       some (.inl (x26.2,({ x2.1 with bN:=(13:Int),aN:=[x26.1] }:aA)))
      else
       (bJ n x23.2 ([105,102]:cD)).bind fun x28=>
       if x28.1=true then
        (jW x28.2 x2.1 a1).bind fun x31=>
        some (.inr (x31.1,x31.2))
       else
        (bJ n x28.2 ([102,111,114]:cD)).bind fun x33=>
        if x33.1=true then
         (lF x33.2 x2.1 a1).bind fun x36=>
         some (.inr (x36.1,x36.2))
        else
         (kX n x33.2 x2.1 a1).bind fun x38=>
         some (.inr (x38.1,x38.2)):Option ((aB × aA) ⊕ (aA × aB))).bind fun y5=>
 y5.elim (fun y5a=>
  (bG n y5a.1 ([59]:cD)).bind fun x43=>
  some (y5a.2,x43)) (fun y5a=>
  some y5a)
def iT (dM:aB->Int->Option (aA × aB)) (n:Nat) (a0:aB) (a1:aA) (a2:Int):Option (aA × aB):=
 (dY n a0 (IntKind.i64.wrap (a2+(1:Int)))).bind fun x3=>
 (dM x3.2 (IntKind.i64.wrap (a2+(1:Int)))).bind fun x5=>
 kM ([x3.1].length+[x5.1].length<=1073741824) <|
 (bJ n x5.2 ([101,108,115,101]:cD)).bind fun x8=>
 if x8.1=true then
  (dM x8.2 (IntKind.i64.wrap (a2+(1:Int)))).bind fun x11=>
  kM (([x3.1]++[x5.1]).length+[x11.1].length<=1073741824) <|
  some (({ a1 with bN:=(11:Int),aN:=(([x3.1]++[x5.1])++[x11.1]) }:aA),x11.2)
 else
  some (({ a1 with bN:=(11:Int),aN:=([x3.1]++[x5.1]) }:aA),x8.2)
def kC (dM:aB->Int->Option (aA × aB)) (n:Nat) (a0:aB) (a1:aA) (a2:Int):Option (aA × aB):=
 (dN n a0).bind fun x3=>
 (bG n x3.2 ([105,110]:cD)).bind fun x5=>
 (dY n x5 (IntKind.i64.wrap (a2+(1:Int)))).bind fun x7=>
 (bG n x7.2 ([46,46]:cD)).bind fun x9=>
 (dY n x9 (IntKind.i64.wrap (a2+(1:Int)))).bind fun x11=>
 kM ([x7.1].length+[x11.1].length<=1073741824) <|
 (dM x11.2 (IntKind.i64.wrap (a2+(1:Int)))).bind fun x14=>
 kM (([x7.1]++[x11.1]).length+[x14.1].length<=1073741824) <|
 some (({ a1 with bN:=(12:Int),bP:=x3.1,aN:=(([x7.1]++[x11.1])++[x14.1]) }:aA),x14.2)
def cX:Nat->(aB->Int->Option (aA × aB)) × (aB->Int->Option (aA × aB)) × (aB->aA->Int->Option (aA × aB)) × (aB->aA->Int->Option (aA × aB))
 | 0=>(fun _ _=>none,fun _ _=>none,fun _ _ _=>none,fun _ _ _=>none)
 | n+1=>(jI (cX n).2.1 n,gW (cX n).2.2.1 (cX n).2.2.2 n,iT (cX n).1 n,kC (cX n).1 n)
def dS (n:Nat):aB->Int->Option (aA × aB):=(cX n).1
def uI (n:Nat):aB->Int->Option (aA × aB):=(cX n).2.1
def xU (n:Nat):aB->aA->Int->Option (aA × aB):=(cX n).2.2.1
def zP (n:Nat):aB->aA->Int->Option (aA × aB):=(cX n).2.2.2
def iS (n:Nat) (a0:aB):Option (aA × aB):=
 (dX a0 (2:Int)).bind fun x2=>
 (bJ n x2.2 ([101,120,112,111,114,116]:cD)).bind fun x5=>
 if x5.1=true then
  (bG n x5.2 ([102,110]:cD)).bind fun x8=>
  (dN n x8).bind fun x10=>
  (eS n x10.2).bind fun x12=>
  (bJ n x12.2 ([45,62]:cD)).bind fun x14=>
  if x14.1=true then
   (bJ n x14.2 ([117,51,50]:cD)).bind fun x17=>
   if x17.1=true then
    (dS n x17.2 (1:Int)).bind fun x20=>
    kM (x12.1.length+[x20.1].length<=1073741824) <|
    some (({ x2.1 with bP:=x10.1,jC:=(orK .u32 (1:Int) (2:Int)),aN:=(x12.1++[x20.1]) }:aA),x20.2)
   else
    (bG n x17.2 ([117,54,52]:cD)).bind fun x25=>
    (dS n x25 (1:Int)).bind fun x27=>
    kM (x12.1.length+[x27.1].length<=1073741824) <|
    some (({ x2.1 with bP:=x10.1,jC:=(orK .u32 (1:Int) (4:Int)),aN:=(x12.1++[x27.1]) }:aA),x27.2)
  else
   (dS n x14.2 (1:Int)).bind fun x32=>
   kM (x12.1.length+[x32.1].length<=1073741824) <|
   some (({ x2.1 with bP:=x10.1,jC:=(1:Int),aN:=(x12.1++[x32.1]) }:aA),x32.2)
 else
  (bG n x5.2 ([102,110]:cD)).bind fun x37=>
  (dN n x37).bind fun x39=>
  (eS n x39.2).bind fun x41=>
  (bJ n x41.2 ([45,62]:cD)).bind fun x43=>
  if x43.1=true then
   (bJ n x43.2 ([117,51,50]:cD)).bind fun x46=>
   if x46.1=true then
    (dS n x46.2 (1:Int)).bind fun x49=>
    kM (x41.1.length+[x49.1].length<=1073741824) <|
    some (({ x2.1 with bP:=x39.1,jC:=(orK .u32 x2.1.jC (2:Int)),aN:=(x41.1++[x49.1]) }:aA),x49.2)
   else
    (bG n x46.2 ([117,54,52]:cD)).bind fun x54=>
    (dS n x54 (1:Int)).bind fun x56=>
    kM (x41.1.length+[x56.1].length<=1073741824) <|
    some (({ x2.1 with bP:=x39.1,jC:=(orK .u32 x2.1.jC (4:Int)),aN:=(x41.1++[x56.1]) }:aA),x56.2)
  else
   (dS n x43.2 (1:Int)).bind fun x61=>
   kM (x41.1.length+[x61.1].length<=1073741824) <|
   some (({ x2.1 with bP:=x39.1,aN:=(x41.1++[x61.1]) }:aA),x61.2)
def kW (n:Nat):Nat->aB->aA->Option (aB × aA)
 | 0,_,_=>none
 | c13+1,v10,v11=>
   (if (v10.e_ == (0:Int))=true then
      (dR v10).bind fun x19=>
      some (x19.bN != (4:Int))
     else
      some false).bind fun y17=>
   if y17=true then
    (iS n v10).bind fun x25=>
    kM (v11.aN.length+[x25.1].length<=1073741824) <|
    kW n c13 x25.2 ({ v11 with aN:=(v11.aN++[x25.1]) }:aA)
   else
    some (v10,v11)
def rL (n:Nat) (a0:cD):Option (aA × Int × Int):=
 (sX n a0).bind fun x2=>
 if (x2.2.1 != (0:Int))=true then
  some ((aA.mk (0:Int) (0:Int) [] (0:Int) []),x2.2.1,x2.2.2)
 else
  (dX (aB.mk x2.1 (0:Int) (0:Int) (0:Int) (0:Int)) (1:Int)).bind fun x6=>
  (kW n n x6.2 x6.1).bind fun y12=>
  if (y12.1.e_ != (0:Int))=true then
   some ((aA.mk (0:Int) (0:Int) [] (0:Int) []),y12.1.e_,y12.1.uE)
  else
   some (y12.2,(0:Int),(0:Int))
def lC (a0:aO) (a1:cD):Option Bool:=
 some (decide (a0.gI=a1))
def bA (a0:(List aO)) (a1:cD):Nat->Int->Option (Unit ⊕ Int)
 | 0,_=>none
 | c4+1,v2=>
   if (decide (v2<(a0.length:Int)))=true then
    (cJ a0 v2).bind fun x9=>
    (lC x9 a1).bind fun x10=>
    if x10=true then
     some (.inr v2)
    else
     bA a0 a1 c4 (IntKind.i64.wrap (v2+(1:Int)))
   else
    some (.inl ())
def cH (n:Nat) (a0:(List aO)) (a1:cD):Option Int:=
 (bA a0 a1 n (0:Int)).bind fun y3=>
 y3.elim (fun y3a=>
  some (-1:Int)) (fun y3a=>
  some y3a)
def eU (n:Nat) (a0:bV) (a1:cD):Option (Int × Bool):=
 (cH n a0.aS a1).bind fun x3=>
 some ((max x3 (0:Int)),(decide ((0:Int)<=x3)))
def mI (a0:aD) (a1:aF) (a2:Int) (a3:Int):Option aF:=
 if (a1.e_ == (0:Int))=true then
  some (aF.mk a2 a3)
 else
  some a1
def aR (a0:aD) (a1:aF) (a2:Bool) (a3:Int) (a4:Int):Option aF:=
 if (!a2)=true then
  (mI a0 a1 a3 a4).bind fun x2=>
  some x2
 else
  some a1
def lV (a0:cD):Nat->Int->Option (Unit ⊕ Int)
 | 0,_=>none
 | c4+1,v2=>
   if (decide (v2<(5:Int)))=true then
    (cJ cG v2).bind fun x9=>
    if (decide (x9.Eo=a0))=true then
     some (.inr x9.Gx)
    else
     lV a0 c4 (IntKind.i64.wrap (v2+(1:Int)))
   else
    some (.inl ())
def pH (n:Nat) (a0:cD):Option Int:=
 (lV a0 n (0:Int)).bind fun y3=>
 y3.elim (fun y3a=>
  some (0:Int)) (fun y3a=>
  some y3a)
def qH (a0:Int):Option Int:=
 if ((Bp .u32 a0 (2:Int)) != (0:Int))=true then
  some (2:Int)
 else
  if ((Bp .u32 a0 (4:Int)) != (0:Int))=true then
   some (3:Int)
  else
   some (0:Int)
def fL (n:Nat) (a2:aA):Nat->Int->aD->aF->Option (aD × aF)
 | 0,_,_,_=>none
 | c9+1,v5,v6,v7=>
   if (decide (v5<(a2.aN.length:Int)))=true then
    (cJ a2.aN v5).bind fun x14=>
    (eU n v6.p_ x14.bP).bind fun x20=>
    (if (!x20.2)=true then
       (pH n x14.bP).bind fun x25=>
       (aR v6 v7 (x25 == (0:Int)) (131:Int) x14.eH).bind fun x26=>
       some x26
      else
       (aR v6 v7 false (131:Int) x14.eH).bind fun x29=>
       some x29).bind fun y23=>
    (qH x14.jC).bind fun x34=>
    kM (v6.f_<0) <|
    kM (v6.p_.aS.length+1<=1073741824) <|
    fL n a2 c9 (IntKind.i64.wrap (v5+(1:Int))) ({ v6 with p_:=⟨(v6.p_.aS++[(aO.mk x14.bP ((Bp .u32 x14.jC (1:Int)) != (0:Int)) x34 (0:Int) [] [])])⟩ }:aD) y23
   else
    some (v6,v7)
def kF (n:Nat) (a0:aD) (a1:aF) (a2:aA):Option (aD × aF):=
 (aR a0 a1 (decide ((a2.aN.length:Int)<=(64:Int))) (136:Int) a2.eH).bind fun x2=>
 (fL n a2 n (0:Int) a0 x2).bind fun y8=>
 kM ((0:Int)<=(a2.aN.length:Int)/\(a2.aN.length:Int)<=1073741824) <|
 some (({ y8.1 with bO:=(List.replicate a2.aN.length []) }:aD),y8.2)
def eZ (a0:aO):Nat->Int->Int->Option Int
 | 0,_,_=>none
 | c8+1,v5,v6=>
   if (decide (v6<((a0.bR.take a0.bI.toNat).length:Int)))=true then
    ((cJ (a0.bR.take a0.bI.toNat) v6).bind fun x14=>
      if (x14.bN == (3:Int))=true then
       some (IntKind.i64.wrap ((IntKind.i64.wrap (v5+(IntKind.i64.wrap ((v5.tmod (2:Int))+(1:Int)))))+(1:Int)))
      else
       some (IntKind.i64.wrap (v5+(1:Int)))).bind fun y13=>
    eZ a0 c8 y13 (IntKind.i64.wrap (v6+(1:Int)))
   else
    some v5
def gK (n:Nat) (a0:aO):Option Int:=
 kM ((0:Int)<=a0.bI/\a0.bI<=(a0.bR.length:Int)) <|
 (eZ a0 n (0:Int) (0:Int)).bind fun y7=>
 some y7
def eO (x1:aO):Nat->Int->aD->Option aD
 | 0,_,_=>none
 | c31+1,v28,v29=>
   if (decide (v28<x1.bI))=true then
    kM (v29.aX.length+1<=1073741824) <|
    eO x1 c31 (IntKind.i64.wrap (v28+(1:Int))) ({ v29 with aX:=(v29.aX++[v28]) }:aD)
   else
    some v29
def iI (n:Nat) (a0:aD) (a1:aF) (a2:Int):Option (aD × aF):=
 (cJ a0.p_.aS a2).bind fun x1=>
 (eO x1 n (0:Int) ({ a0 with f_:=a2,aX:=[],fC:=a2 }:aD)).bind fun y30=>
 some (y30,a1)
def pQ (a0:Int):Option Bool:=
 (if (decide ((1:Int)<=a0))=true then
    if (decide (a0<=(255:Int)))=true then
     some true
    else
     if (decide ((255:Int)<a0))=true then
      if (decide (a0<=(1024:Int)))=true then
       some ((a0.tmod (4:Int)) == (0:Int))
      else
       some false
     else
      some false
   else
    if (decide ((255:Int)<a0))=true then
     if (decide (a0<=(1024:Int)))=true then
      some ((a0.tmod (4:Int)) == (0:Int))
     else
      some false
    else
     some false).bind fun y1=>
 some y1
def fW (a0:aD) (a2:cD):Nat->Int->Option (Unit ⊕ Int)
 | 0,_=>none
 | c5+1,v3=>
   if (decide ((0:Int)<=v3))=true then
    (cJ a0.p_.aS a0.f_).bind fun x10=>
    (cJ a0.aX v3).bind fun x13=>
    (cJ x10.bR x13).bind fun x14=>
    if (decide (x14.gI=a2))=true then
     some (.inr x13)
    else
     fW a0 a2 c5 (IntKind.i64.wrap (v3 - (1:Int)))
   else
    some (.inl ())
def iX (n:Nat) (a0:aD) (a1:aF) (a2:cD):Option Int:=
 (fW a0 a2 n (IntKind.i64.wrap ((a0.aX.length:Int) - (1:Int)))).bind fun y4=>
 y4.elim (fun y4a=>
  some (-1:Int)) (fun y4a=>
  some y4a)
def dH (n:Nat) (a0:aD) (a1:aF) (a2:aY) (a3:Int):Option (Int × aD × aF):=
 (iX n a0 a1 a2.gI).bind fun x2=>
 (aR a0 a1 (decide (x2<(0:Int))) (131:Int) a3).bind fun x3=>
 (cJ a0.p_.aS a0.f_).bind fun x6=>
 (aR a0 x3 (decide ((x6.bR.length:Int)<(250:Int))) (136:Int) a3).bind fun x9=>
 if (x9.e_ != (0:Int))=true then
  some ((-1:Int),a0,x9)
 else
  kM (x6.bR.length+1<=1073741824) <|
  kM (a0.aX.length+1<=1073741824) <|
  some ((x6.bR.length:Int),({ a0 with p_:=⟨(a0.p_.aS.set a0.f_.toNat { x6 with bR:=(x6.bR++[a2]) })⟩,aX:=(a0.aX++[(x6.bR.length:Int)]) }:aD),x9)
def fE (n:Nat) (a2:(List aA)):Nat->Int->aD->aF->Option (aD × aF)
 | 0,_,_,_=>none
 | c6+1,v2,v3,v4=>
   if (decide (v2<(a2.length:Int)))=true then
    ((cJ a2 v2).bind fun x12=>
      (if ((IntKind.i64.wrap x12.jC) == (4:Int))=true then
         some (decide ((0:Int)<(x12.aN.length:Int)))
        else
         some false).bind fun y19=>
      if y19=true then
       (cJ x12.aN (0:Int)).bind fun x25=>
       (pQ (IntKind.i64.wrap x25.jC)).bind fun x31=>
       (aR v3 v4 x31 (136:Int) x12.eH).bind fun x32=>
       (dH n v3 x32 (aY.mk x12.bP (IntKind.i64.wrap x12.jC) (IntKind.i64.wrap x25.jC)) x12.eH).bind fun x35=>
       some (x35.2.1,x35.2.2)
      else
       (dH n v3 v4 (aY.mk x12.bP (IntKind.i64.wrap x12.jC) (0:Int)) x12.eH).bind fun x37=>
       some (x37.2.1,x37.2.2)).bind fun y11=>
    fE n a2 c6 (IntKind.i64.wrap (v2+(1:Int))) y11.1 y11.2
   else
    some (v3,v4)
def lS (n:Nat) (a0:aD) (a1:aF) (a2:(List aA)):Option (aD × aF):=
 (fE n a2 n (0:Int) a0 a1).bind fun y5=>
 (cJ y5.1.p_.aS y5.1.f_).bind fun x61=>
 some (({ y5.1 with p_:=⟨(y5.1.p_.aS.set y5.1.f_.toNat { x61 with bI:=(x61.bR.length:Int) })⟩ }:aD),y5.2)
def gY (n:Nat) (a0:aD) (a1:aF) (a2:Int) (a3:aA):Option (aD × aF):=
 (iI n a0 a1 a2).bind fun x2=>
 kM ((0:Int)<=(max (IntKind.i64.wrap ((a3.aN.length:Int) - (1:Int))) (0:Int))/\(max (IntKind.i64.wrap ((a3.aN.length:Int) - (1:Int))) (0:Int))<=(a3.aN.length:Int)) <|
 (lS n x2.1 x2.2 (a3.aN.take (max (IntKind.i64.wrap ((a3.aN.length:Int) - (1:Int))) (0:Int)).toNat)).bind fun x4=>
 if (x4.2.e_ == (0:Int))=true then
  ((cJ x4.1.p_.aS x4.1.f_).bind fun x10=>
    if (!x10.eJ)=true then
     (aR x4.1 x4.2 true (136:Int) a3.eH).bind fun x27=>
     some x27
    else
     (gK n x10).bind fun x29=>
     (aR x4.1 x4.2 (decide (x29<=(4:Int))) (136:Int) a3.eH).bind fun x30=>
     some x30).bind fun y9=>
  some (x4.1,y9)
 else
  some (x4.1,x4.2)
def eE (a0:aD) (a1:aF) (a2:Int):Option Int:=
 if (decide (a2<(0:Int)))=true then
  some (0:Int)
 else
  (cJ a0.p_.aS a0.f_).bind fun x2=>
  (cJ x2.bR a2).bind fun x5=>
  some x5.bN
def fI (n:Nat) (a0:aD) (a1:aF) (a2:aA):Option (Int × aF):=
 (iX n a0 a1 a2.bP).bind fun x2=>
 (aR a0 a1 (decide ((0:Int)<=x2)) (130:Int) a2.eH).bind fun x4=>
 some (x2,x4)
def oO (a0:Int) (a1:Int):Option Int:=
 (if (a0 == a1)=true then
    if (decide ((1:Int)<=a0))=true then
     some (decide (a0<=(3:Int)))
    else
     some false
   else
    some false).bind fun y1=>
 if y1=true then
  some a0
 else
  (if (a0 == (1:Int))=true then
     if (a1 == (2:Int))=true then
      some true
     else
      if (a0 == (2:Int))=true then
       some (a1 == (1:Int))
      else
       some false
    else
     if (a0 == (2:Int))=true then
      some (a1 == (1:Int))
     else
      some false).bind fun y8=>
  if y8=true then
   some (2:Int)
  else
   some (0:Int)
def bY (a0:aD) (a1:aF) (a2:aG) (a3:Int):Option (aG × aF):=
 (aR a0 a1 (a3 != (0:Int)) (132:Int) a2.eH).bind fun x3=>
 some (({ a2 with cE:=a3 }:aG),x3)
def fO (a0:aD) (a1:aF) (a2:aG) (a3:aG) (a4:aG):Option (aG × aF):=
 (aR a0 a1 (a4.cE == (1:Int)) (133:Int) a4.eH).bind fun x5=>
 if (a3.cE == (3:Int))=true then
  (if (decide (a4.nJ=([110,117,109]:cD)))=true then
     (aR a0 x5 (decide (a4.N_<=(63:Int))) (132:Int) a2.eH).bind fun x10=>
     some x10
    else
     (aR a0 x5 false (132:Int) a2.eH).bind fun x12=>
     some x12).bind fun y8=>
  (bY a0 y8 a2 a3.cE).bind fun x17=>
  some (x17.1,x17.2)
 else
  (bY a0 x5 a2 a3.cE).bind fun x19=>
  some (x19.1,x19.2)
def oN (a0:Int):Option Int:=
 if (a0 == (1:Int))=true then
  some (2:Int)
 else
  some a0
def mK (a0:Int):Option Bool:=
 (if (a0 == (1:Int))=true then
    some true
   else
    some (a0 == (2:Int))).bind fun y1=>
 some y1
def jP (a0:aD) (a1:aF) (a2:aG):Option Int:=
 (cJ a2.aN (1:Int)).bind fun x2=>
 (cJ a2.aN (2:Int)).bind fun x3=>
 (oO x2.cE x3.cE).bind fun x4=>
 ((cJ a2.aN (0:Int)).bind fun x17=>
   (mK x17.cE).bind fun x18=>
   if (!x18)=true then
    some true
   else
    some (x4 == (0:Int))).bind fun y16=>
 if y16=true then
  some (0:Int)
 else
  (oN x4).bind fun x30=>
  some x30
def jN (kQ:aD->aF->aA->aG->Option (aG × aF)) (jX:aD->aF->aA->aG->Option (aG × aF)) (jD:aD->aF->aA->aG->Option (aG × aF)) (jA:aD->aF->aA->aG->Option (aG × aF)) (n:Nat) (a0:aD) (a1:aF) (a2:aA):Option (aG × aF):=
 if (a2.bN == (14:Int))=true then
  some ((aG.mk ([110,117,109]:cD) (1:Int) a2.jC (-1:Int) [] a2.eH),a1)
 else
  if (a2.bN == (15:Int))=true then
   (fI n a0 a1 a2).bind fun x6=>
   (eE a0 x6.2 x6.1).bind fun x8=>
   (aR a0 x6.2 (x8 != (4:Int)) (132:Int) a2.eH).bind fun x10=>
   some ((aG.mk ([118,97,114]:cD) x8 (0:Int) x6.1 [] a2.eH),x10)
  else
   if (a2.bN == (16:Int))=true then
    (kQ a0 a1 a2 (aG.mk [] (0:Int) (0:Int) (-1:Int) [] a2.eH)).bind fun x13=>
    some (x13.1,x13.2)
   else
    if (a2.bN == (18:Int))=true then
     (jX a0 a1 a2 (aG.mk [] (0:Int) (0:Int) (-1:Int) [] a2.eH)).bind fun x16=>
     some (x16.1,x16.2)
    else
     if (a2.bN == (19:Int))=true then
      (jD a0 a1 a2 (aG.mk [] (0:Int) (0:Int) (-1:Int) [] a2.eH)).bind fun x19=>
      some (x19.1,x19.2)
     else
      (jA a0 a1 a2 (aG.mk [] (0:Int) (0:Int) (-1:Int) [] a2.eH)).bind fun x21=>
      some (x21.1,x21.2)
def jM (cW:aD->aF->aA->Option (aG × aF)) (n:Nat) (a0:aD) (a1:aF) (a2:aA) (a3:aG):Option (aG × aF):=
 (cJ a2.aN (0:Int)).bind fun x4=>
 (cW a0 a1 x4).bind fun x5=>
 (fI n a0 x5.2 a2).bind fun x13=>
 (eE a0 x13.2 x13.1).bind fun x15=>
 (aR a0 x13.2 (x15 == (4:Int)) (132:Int) a2.eH).bind fun x16=>
 (aR a0 x16 (x5.1.cE == (1:Int)) (133:Int) x5.1.eH).bind fun x19=>
 (if (x19.e_ == (0:Int))=true then
    some (decide (x5.1.nJ=([110,117,109]:cD)))
   else
    some false).bind fun y21=>
 if y21=true then
  (cJ a0.p_.aS a0.f_).bind fun x27=>
  (cJ x27.bR x13.1).bind fun x30=>
  (aR a0 x19 (decide ((IntKind.i64.wrap x5.1.N_)<x30.nR)) (137:Int) x5.1.eH).bind fun x31=>
  some (({ a3 with nJ:=([105,110,100,101,120]:cD),cE:=(2:Int),pJ:=x13.1,aN:=[x5.1] }:aG),x31)
 else
  some (({ a3 with nJ:=([105,110,100,101,120]:cD),cE:=(2:Int),pJ:=x13.1,aN:=[x5.1] }:aG),x19)
def iU (cU:aD->aF->(List aA)->Option ((List aG) × aF)) (n:Nat) (a0:aD) (a1:aF) (a2:aA) (a3:aG):Option (aG × aF):=
 (cU a0 a1 a2.aN).bind fun x4=>
 if (decide (a2.bP=([45]:cD)))=true then
  (cJ x4.1 (0:Int)).bind fun x7=>
  some (({ a3 with nJ:=([110,101,103]:cD),cE:=x7.cE,aN:=x4.1 }:aG),x4.2)
 else
  (cJ x4.1 (0:Int)).bind fun x13=>
  some (({ a3 with nJ:=([110,111,116]:cD),cE:=x13.cE,aN:=x4.1 }:aG),x4.2)
def iM (cU:aD->aF->(List aA)->Option ((List aG) × aF)) (n:Nat) (a0:aD) (a1:aF) (a2:aA) (a3:aG):Option (aG × aF):=
 (cU a0 a1 a2.aN).bind fun x4=>
 (cJ x4.1 (0:Int)).bind fun x6=>
 (cJ x4.1 (1:Int)).bind fun x9=>
 (oO x6.cE x9.cE).bind fun x20=>
 if (decide (a2.bP=([47]:cD)))=true then
  (aR a0 x4.2 (x6.cE == (1:Int)) (133:Int) x6.eH).bind fun x23=>
  (aR a0 x23 (x9.cE == (1:Int)) (133:Int) x9.eH).bind fun x25=>
  (bY a0 x25 ({ a3 with nJ:=a2.bP,aN:=x4.1 }:aG) (1:Int)).bind fun x27=>
  some (x27.1,x27.2)
 else
  if (decide (a2.bP=([37]:cD)))=true then
   (aR a0 x4.2 (x6.cE == (1:Int)) (133:Int) x6.eH).bind fun x30=>
   (aR a0 x30 (x9.cE == (1:Int)) (133:Int) x9.eH).bind fun x32=>
   (bY a0 x32 ({ a3 with nJ:=a2.bP,aN:=x4.1 }:aG) (1:Int)).bind fun x34=>
   some (x34.1,x34.2)
  else
   if (decide (a2.bP=([60,60]:cD)))=true then
    (fO a0 x4.2 ({ a3 with nJ:=a2.bP,aN:=x4.1 }:aG) x6 x9).bind fun x37=>
    some (x37.1,x37.2)
   else
    if (decide (a2.bP=([62,62]:cD)))=true then
     (fO a0 x4.2 ({ a3 with nJ:=a2.bP,aN:=x4.1 }:aG) x6 x9).bind fun x40=>
     some (x40.1,x40.2)
    else
     if (decide (a2.bP=([60,60,60]:cD)))=true then
      (fO a0 x4.2 ({ a3 with nJ:=a2.bP,aN:=x4.1 }:aG) x6 x9).bind fun x43=>
      some (x43.1,x43.2)
     else
      if (decide (a2.bP=([42]:cD)))=true then
       (aR a0 x4.2 (x20 != (3:Int)) (132:Int) a2.eH).bind fun x46=>
       (bY a0 x46 ({ a3 with nJ:=a2.bP,aN:=x4.1 }:aG) x20).bind fun x48=>
       some (x48.1,x48.2)
      else
       if (decide (a2.bP=([61,61]:cD)))=true then
        if (x20 == (3:Int))=true then
         (bY a0 x4.2 ({ a3 with nJ:=a2.bP,aN:=x4.1 }:aG) (2:Int)).bind fun x52=>
         some (x52.1,x52.2)
        else
         (bY a0 x4.2 ({ a3 with nJ:=a2.bP,aN:=x4.1 }:aG) x20).bind fun x54=>
         some (x54.1,x54.2)
       else
        if (decide (a2.bP=([60]:cD)))=true then
         if (x20 == (3:Int))=true then
          (bY a0 x4.2 ({ a3 with nJ:=a2.bP,aN:=x4.1 }:aG) (2:Int)).bind fun x58=>
          some (x58.1,x58.2)
         else
          (bY a0 x4.2 ({ a3 with nJ:=a2.bP,aN:=x4.1 }:aG) x20).bind fun x60=>
          some (x60.1,x60.2)
        else
         (bY a0 x4.2 ({ a3 with nJ:=a2.bP,aN:=x4.1 }:aG) x20).bind fun x62=>
         some (x62.1,x62.2)
def iC (cU:aD->aF->(List aA)->Option ((List aG) × aF)) (n:Nat) (a0:aD) (a1:aF) (a2:aA) (a3:aG):Option (aG × aF):=
 (pH n a2.bP).bind fun x4=>
 (aR a0 a1 (decide ((0:Int)<x4)) (130:Int) a2.eH).bind fun x6=>
 (aR a0 x6 ((a2.aN.length:Int) == x4) (136:Int) a2.eH).bind fun x8=>
 (cU a0 x8 a2.aN).bind fun x10=>
 if (x10.2.e_ != (0:Int))=true then
  some (({ a3 with nJ:=a2.bP,aN:=x10.1 }:aG),x10.2)
 else
  (cJ x10.1 (0:Int)).bind fun x13=>
  if (decide (a2.bP=([115,101,108,101,99,116]:cD)))=true then
   (jP a0 x10.2 ({ a3 with nJ:=a2.bP,aN:=x10.1 }:aG)).bind fun x20=>
   (bY a0 x10.2 ({ a3 with nJ:=a2.bP,aN:=x10.1 }:aG) x20).bind fun x21=>
   some (x21.1,x21.2)
  else
   if (decide (a2.bP=([108,111,110,103]:cD)))=true then
    (mK x13.cE).bind fun x25=>
    (aR a0 x10.2 x25 (132:Int) a2.eH).bind fun x26=>
    (bY a0 x26 ({ a3 with nJ:=a2.bP,aN:=x10.1 }:aG) (3:Int)).bind fun x29=>
    some (x29.1,x29.2)
   else
    if (decide (a2.bP=([119,105,100,101]:cD)))=true then
     ((mK x13.cE).bind fun x33=>
       if x33=true then
        (cJ x10.1 (1:Int)).bind fun x36=>
        (mK x36.cE).bind fun x37=>
        (aR a0 x10.2 x37 (132:Int) a2.eH).bind fun x38=>
        some x38
       else
        (aR a0 x10.2 false (132:Int) a2.eH).bind fun x46=>
        some x46).bind fun y32=>
     (bY a0 y32 ({ a3 with nJ:=a2.bP,aN:=x10.1 }:aG) (3:Int)).bind fun x51=>
     some (x51.1,x51.2)
    else
     (aR a0 x10.2 (x13.cE == (3:Int)) (132:Int) a2.eH).bind fun x53=>
     (bY a0 x53 ({ a3 with nJ:=a2.bP,aN:=x10.1 }:aG) (2:Int)).bind fun x55=>
     some (x55.1,x55.2)
def gE (cW:aD->aF->aA->Option (aG × aF)) (a2:(List aA)) (a0:aD):Nat->(List aG)->Int->aF->Option ((List aG) × aF)
 | 0,_,_,_=>none
 | c6+1,v2,v3,v4=>
   if (decide (v3<(a2.length:Int)))=true then
    (cJ a2 v3).bind fun x11=>
    (cW a0 v4 x11).bind fun x17=>
    kM (v2.length+[x17.1].length<=1073741824) <|
    gE cW a2 a0 c6 (v2++[x17.1]) (IntKind.i64.wrap (v3+(1:Int))) x17.2
   else
    some (v2,v4)
def kJ (cW:aD->aF->aA->Option (aG × aF)) (n:Nat) (a0:aD) (a1:aF) (a2:(List aA)):Option ((List aG) × aF):=
 (gE cW a2 a0 n [] (0:Int) a1).bind fun y5=>
 some (y5.1,y5.2)
def bM:Nat->(aD->aF->aA->Option (aG × aF)) × (aD->aF->aA->aG->Option (aG × aF)) × (aD->aF->aA->aG->Option (aG × aF)) × (aD->aF->aA->aG->Option (aG × aF)) × (aD->aF->aA->aG->Option (aG × aF)) × (aD->aF->(List aA)->Option ((List aG) × aF))
 | 0=>(fun _ _ _=>none,fun _ _ _ _=>none,fun _ _ _ _=>none,fun _ _ _ _=>none,fun _ _ _ _=>none,fun _ _ _=>none)
 | n+1=>(jN (bM n).2.1 (bM n).2.2.1 (bM n).2.2.2.1 (bM n).2.2.2.2.1 n,jM (bM n).1 n,iU (bM n).2.2.2.2.2 n,iM (bM n).2.2.2.2.2 n,iC (bM n).2.2.2.2.2 n,kJ (bM n).1 n)
def fJ (n:Nat):aD->aF->aA->Option (aG × aF):=(bM n).1
def yI (n:Nat):aD->aF->aA->aG->Option (aG × aF):=(bM n).2.1
def xV (n:Nat):aD->aF->aA->aG->Option (aG × aF):=(bM n).2.2.1
def xB (n:Nat):aD->aF->aA->aG->Option (aG × aF):=(bM n).2.2.2.1
def vS (n:Nat):aD->aF->aA->aG->Option (aG × aF):=(bM n).2.2.2.2.1
def zR (n:Nat):aD->aF->(List aA)->Option ((List aG) × aF):=(bM n).2.2.2.2.2
def dZ (n:Nat) (a0:aD) (a1:aF) (a2:aA):Option (aG × aF):=
 (fJ n a0 a1 a2).bind fun x3=>
 (aR a0 x3.2 (x3.1.cE == (1:Int)) (133:Int) a2.eH).bind fun x6=>
 some (x3.1,x6)
def iL (n:Nat) (a0:aD) (a1:aF) (a2:aA):Option (Int × aF):=
 (eU n a0.p_ a2.bP).bind fun x2=>
 (aR a0 a1 x2.2 (130:Int) a2.eH).bind fun x5=>
 some (x2.1,x5)
def jK (a0:aD) (a1:aF) (a2:Int):Option (List aY):=
 (cJ a0.p_.aS a2).bind fun x1=>
 kM ((0:Int)<=x1.bI/\x1.bI<=(x1.bR.length:Int)) <|
 some (x1.bR.take (x1.bI.toNat))
def oI (a0:Int) (a1:Int):Option Bool:=
 (if (a0 == a1)=true then
    some true
   else
    if (a0 == (1:Int))=true then
     some (a1 == (2:Int))
    else
     some false).bind fun y1=>
 some y1
def kI (n:Nat) (a0:aD) (a1:aF) (a2:aA) (a3:Int):Option (aG × aF):=
 (aR a0 a1 (a2.bN == (15:Int)) (132:Int) a2.eH).bind fun x3=>
 (fI n a0 x3 a2).bind fun x5=>
 ((eE a0 x5.2 x5.1).bind fun x8=>
   if (x8 == (4:Int))=true then
    (cJ a0.p_.aS a0.f_).bind fun x11=>
    (cJ x11.bR (max x5.1 (0:Int))).bind fun x14=>
    (aR a0 x5.2 (x14.nR == a3) (132:Int) a2.eH).bind fun x15=>
    some x15
   else
    (aR a0 x5.2 false (132:Int) a2.eH).bind fun x40=>
    some x40).bind fun y7=>
 some ((aG.mk ([118,97,114]:cD) (4:Int) (0:Int) x5.1 [] a2.eH),y7)
def iN (n:Nat) (a0:aD) (a1:aF) (a2:aA) (a3:aY):Option (aG × aF):=
 if (a3.bN == (4:Int))=true then
  (kI n a0 a1 a2 a3.nR).bind fun x5=>
  some (x5.1,x5.2)
 else
  if (a3.bN == (1:Int))=true then
   (dZ n a0 a1 a2).bind fun x8=>
   some (x8.1,x8.2)
  else
   (fJ n a0 a1 a2).bind fun x10=>
   (oI x10.1.cE a3.bN).bind fun x13=>
   (aR a0 x10.2 x13 (132:Int) a2.eH).bind fun x14=>
   some (x10.1,x14)
def fX (n:Nat) (a2:aA) (x20:(List aY)) (a0:aD) (x7:(List Int)) (x4:(Int × aF)):Nat->Int->aF->aH->Option (aF × aH)
 | 0,_,_,_=>none
 | c29+1,v25,v26,v27=>
   if (decide (v25<(a2.aN.length:Int)))=true then
    (cJ a2.aN v25).bind fun x34=>
    if (v26.e_ != (0:Int))=true then
     some (v26,v27)
    else
     (cJ x20 v25).bind fun x41=>
     (iN n ({ a0 with bO:=(a0.bO.set a0.fC.toNat (x7++[x4.1])) }:aD) v26 x34 x41).bind fun x42=>
     kM (v27.aN.length+[x42.1].length<=1073741824) <|
     fX n a2 x20 a0 x7 x4 c29 (IntKind.i64.wrap (v25+(1:Int))) x42.2 ({ v27 with aN:=(v27.aN++[x42.1]) }:aH)
   else
    some (v26,v27)
def fY (n:Nat) (a0:aD) (a1:aF) (a2:aA) (a3:aH) (a4:Int):Option (aH × aD × aF):=
 (iL n a0 a1 a2).bind fun x4=>
 if (x4.2.e_ != (0:Int))=true then
  some (({ a3 with nJ:=([99,97,108,108]:cD),pJ:=a4,mR:=x4.1,aN:=[] }:aH),a0,x4.2)
 else
  (cJ a0.bO a0.fC).bind fun x7=>
  kM (x7.length+1<=1073741824) <|
  (jK ({ a0 with bO:=(a0.bO.set a0.fC.toNat (x7++[x4.1])) }:aD) x4.2 x4.1).bind fun x20=>
  (aR ({ a0 with bO:=(a0.bO.set a0.fC.toNat (x7++[x4.1])) }:aD) x4.2 ((a2.aN.length:Int) == (x20.length:Int)) (136:Int) a2.eH).bind fun x22=>
  (fX n a2 x20 a0 x7 x4 n (0:Int) x22 ({ a3 with nJ:=([99,97,108,108]:cD),pJ:=a4,mR:=x4.1,aN:=[] }:aH)).bind fun y28=>
  some (y28.2,({ a0 with bO:=(a0.bO.set a0.fC.toNat (x7++[x4.1])) }:aD),y28.1)
def gD (n:Nat) (a0:aD) (a1:aF) (a2:aA):Option Bool:=
 (if (a2.bN == (17:Int))=true then
    (pH n a2.bP).bind fun x4=>
    some (x4 == (0:Int))
   else
    some false).bind fun y2=>
 some y2
def kH (n:Nat) (a0:aD) (a1:aF) (a2:aA) (a3:aH):Option (aH × aD × aF):=
 (cJ a2.aN (0:Int)).bind fun x4=>
 (gD n a0 a1 x4).bind fun x5=>
 if x5=true then
  (fY n a0 a1 x4 ({ a3 with aN:=[] }:aH) (-1:Int)).bind fun x13=>
  if (x13.2.2.e_ != (0:Int))=true then
   some (({ x13.1 with eH:=a2.eH }:aH),x13.2.1,x13.2.2)
  else
   (cJ x13.2.1.p_.aS x13.1.mR).bind fun x16=>
   (aR x13.2.1 x13.2.2 (x16.cR != (0:Int)) (132:Int) a2.eH).bind fun x30=>
   (dH n x13.2.1 x30 (aY.mk a2.bP x16.cR (0:Int)) a2.eH).bind fun x32=>
   some (({ x13.1 with pJ:=x32.1,eH:=a2.eH }:aH),x32.2.1,x32.2.2)
 else
  (fJ n a0 a1 x4).bind fun x34=>
  (oN x34.1.cE).bind fun x37=>
  (dH n a0 x34.2 (aY.mk a2.bP x37 (0:Int)) a2.eH).bind fun x38=>
  some (({ a3 with nJ:=([118,97,114]:cD),pJ:=x38.1,aN:=[x34.1] }:aH),x38.2.1,x38.2.2)
def iW (n:Nat) (a0:aD) (a1:aF) (a2:aA):Option (Int × aF):=
 (fI n a0 a1 a2).bind fun x2=>
 (eE a0 x2.2 x2.1).bind fun x4=>
 (if (x4 == (2:Int))=true then
    (aR a0 x2.2 true (132:Int) a2.eH).bind fun x8=>
    some x8
   else
    (aR a0 x2.2 (x4 == (3:Int)) (132:Int) a2.eH).bind fun x10=>
    some x10).bind fun y6=>
 some (x2.1,y6)
def lK (n:Nat) (a0:aD) (a1:aF) (a2:aA) (a3:aH):Option (aH × aD × aF):=
 (iW n a0 a1 a2).bind fun x4=>
 (cJ a2.aN (0:Int)).bind fun x6=>
 (gD n a0 x4.2 x6).bind fun x7=>
 if x7=true then
  (fY n a0 x4.2 x6 ({ a3 with aN:=[] }:aH) x4.1).bind fun x15=>
  if (x15.2.2.e_ == (0:Int))=true then
   (eE x15.2.1 x15.2.2 x4.1).bind fun x18=>
   (cJ x15.2.1.p_.aS x15.1.mR).bind fun x19=>
   (aR x15.2.1 x15.2.2 (x19.cR == x18) (132:Int) a2.eH).bind fun x21=>
   some (({ x15.1 with eH:=a2.eH }:aH),x15.2.1,x21)
  else
   some (({ x15.1 with eH:=a2.eH }:aH),x15.2.1,x15.2.2)
 else
  (fJ n a0 x4.2 x6).bind fun x36=>
  (eE a0 x36.2 x4.1).bind fun x39=>
  (oI x36.1.cE x39).bind fun x40=>
  (aR a0 x36.2 x40 (132:Int) a2.eH).bind fun x41=>
  some (({ a3 with nJ:=([115,101,116]:cD),pJ:=x4.1,aN:=[x36.1] }:aH),a0,x41)
def kG (n:Nat) (a0:aD) (a1:aF) (a2:aA) (a3:Int):Option (aG × aF):=
 (dZ n a0 a1 a2).bind fun x3=>
 (if (x3.2.e_ == (0:Int))=true then
    some (decide (x3.1.nJ=([110,117,109]:cD)))
   else
    some false).bind fun y6=>
 if y6=true then
  (cJ a0.p_.aS a0.f_).bind fun x12=>
  (cJ x12.bR a3).bind fun x15=>
  (aR a0 x3.2 (decide ((IntKind.i64.wrap x3.1.N_)<x15.nR)) (137:Int) a2.eH).bind fun x16=>
  some (x3.1,x16)
 else
  some (x3.1,x3.2)
def lL (n:Nat) (a0:aD) (a1:aF) (a2:aA) (a3:aH):Option (aH × aF):=
 (fI n a0 a1 a2).bind fun x4=>
 (eE a0 x4.2 x4.1).bind fun x6=>
 (aR a0 x4.2 (x6 == (4:Int)) (132:Int) a2.eH).bind fun x7=>
 (cJ a2.aN (0:Int)).bind fun x10=>
 (kG n a0 x7 x10 x4.1).bind fun x11=>
 (cJ a2.aN (1:Int)).bind fun x19=>
 (fJ n a0 x11.2 x19).bind fun x20=>
 (oI x20.1.cE (2:Int)).bind fun x28=>
 (aR a0 x20.2 x28 (132:Int) a2.eH).bind fun x29=>
 some (({ a3 with nJ:=([112,117,116]:cD),pJ:=x4.1,aN:=[x11.1,x20.1] }:aH),x29)
def lA (n:Nat) (a0:aD) (a1:aF) (a2:aA) (a3:aH) (a4:Bool):Option (aH × aD × aF):=
 (if a4=true then
    (cJ a0.p_.aS a0.f_).bind fun x6=>
    (aR a0 a1 (x6.cR != (0:Int)) (135:Int) a2.eH).bind fun x9=>
    some x9
   else
    (aR a0 a1 false (135:Int) a2.eH).bind fun x24=>
    some x24).bind fun y4=>
 (if (y4.e_ == (0:Int))=true then
    (cJ a2.aN (0:Int)).bind fun x31=>
    (gD n a0 y4 x31).bind fun x32=>
    some x32
   else
    some false).bind fun y29=>
 if y29=true then
  (cJ a2.aN (0:Int)).bind fun x43=>
  (fY n a0 y4 x43 ({ a3 with aN:=[] }:aH) (-2:Int)).bind fun x44=>
  if (x44.2.2.e_ == (0:Int))=true then
   (cJ x44.2.1.p_.aS x44.1.mR).bind fun x52=>
   (cJ x44.2.1.p_.aS x44.2.1.f_).bind fun x54=>
   (aR x44.2.1 x44.2.2 (x52.cR == x54.cR) (132:Int) a2.eH).bind fun x57=>
   some (({ x44.1 with eH:=a2.eH }:aH),x44.2.1,x57)
  else
   some (({ x44.1 with eH:=a2.eH }:aH),x44.2.1,x44.2.2)
 else
  (cJ a2.aN (0:Int)).bind fun x83=>
  (fJ n a0 y4 x83).bind fun x84=>
  (cJ a0.p_.aS a0.f_).bind fun x92=>
  (oI x84.1.cE x92.cR).bind fun x95=>
  (aR a0 x84.2 x95 (132:Int) a2.eH).bind fun x96=>
  some (({ a3 with nJ:=([114,101,116,117,114,110]:cD),aN:=[x84.1] }:aH),a0,x96)
def fM (dB:aD->aF->aA->Bool->Option (aH × aD × aF)) (a2:aA) (a3:Bool):Nat->(List aH)->Int->aD->aF->Option ((List aH) × aD × aF)
 | 0,_,_,_,_=>none
 | c9+1,v4,v5,v6,v7=>
   if (decide (v5<(a2.aN.length:Int)))=true then
    (cJ a2.aN v5).bind fun x14=>
    if (v7.e_ != (0:Int))=true then
     some (v4,v6,v7)
    else
     (if a3=true then
        (dB v6 v7 x14 (v5 == (IntKind.i64.wrap ((a2.aN.length:Int) - (1:Int))))).bind fun x28=>
        kM (v4.length+[x28.1].length<=1073741824) <|
        some ((v4++[x28.1]),x28.2.1,x28.2.2)
       else
        (dB v6 v7 x14 false).bind fun x33=>
        kM (v4.length+[x33.1].length<=1073741824) <|
        some ((v4++[x33.1]),x33.2.1,x33.2.2)).bind fun y26=>
     fM dB a2 a3 c9 y26.1 (IntKind.i64.wrap (v5+(1:Int))) y26.2.1 y26.2.2
   else
    some (v4,v6,v7)
def iY (dB:aD->aF->aA->Bool->Option (aH × aD × aF)) (n:Nat) (a0:aD) (a1:aF) (a2:aA) (a3:Bool):Option ((List aH) × aD × aF):=
 (fM dB a2 a3 n [] (0:Int) a0 a1).bind fun y8=>
 kM ((0:Int)<=(a0.aX.length:Int)/\(a0.aX.length:Int)<=(y8.2.1.aX.length:Int)) <|
 some (y8.1,({ y8.2.1 with aX:=(y8.2.1.aX.take (a0.aX.length)) }:aD),y8.2.2)
def dT (cL:aD->aF->aA->Bool->Option ((List aH) × aD × aF)) (a2:aA):Nat->Int->aD->aF->aH->Option (aD × aF × aH)
 | 0,_,_,_,_=>none
 | c59+1,v54,v55,v56,v57=>
   if (decide (v54<((a2.aN.drop 2).length:Int)))=true then
    (cJ (a2.aN.drop 2) v54).bind fun x64=>
    (cL v55 v56 x64 false).bind fun x70=>
    dT cL a2 c59 (IntKind.i64.wrap (v54+(1:Int))) x70.2.1 x70.2.2 ({ v57 with pT:=x70.1 }:aH)
   else
    some (v55,v56,v57)
def gP (cL:aD->aF->aA->Bool->Option ((List aH) × aD × aF)) (kP:aD->aF->aA->aH->Option (aH × aD × aF)) (n:Nat) (a0:aD) (a1:aF) (a2:aA) (a3:Bool):Option (aH × aD × aF):=
 if (a2.bN == (5:Int))=true then
  (cJ a2.aN (0:Int)).bind fun x5=>
  (dZ n a0 a1 x5).bind fun x6=>
  (dH n a0 x6.2 (aY.mk a2.bP (1:Int) (0:Int)) a2.eH).bind fun x13=>
  some ((aH.mk ([108,101,116]:cD) x13.1 (0:Int) [x6.1] [] [] a2.eH),x13.2.1,x13.2.2)
 else
  if (a2.bN == (6:Int))=true then
   (kH n a0 a1 a2 (aH.mk [] (-1:Int) (0:Int) [] [] [] a2.eH)).bind fun x16=>
   some (x16.1,x16.2.1,x16.2.2)
  else
   if (a2.bN == (7:Int))=true then
    (pQ (IntKind.i64.wrap (min a2.jC (1025:Int)))).bind fun x19=>
    (aR a0 a1 x19 (136:Int) a2.eH).bind fun x20=>
    (dH n a0 x20 (aY.mk a2.bP (4:Int) (IntKind.i64.wrap a2.jC)) a2.eH).bind fun x23=>
    some ((aH.mk ([97,114,114]:cD) x23.1 (0:Int) [] [] [] a2.eH),x23.2.1,x23.2.2)
   else
    if (a2.bN == (8:Int))=true then
     (lK n a0 a1 a2 (aH.mk [] (-1:Int) (0:Int) [] [] [] a2.eH)).bind fun x26=>
     some (x26.1,x26.2.1,x26.2.2)
    else
     if (a2.bN == (9:Int))=true then
      (lL n a0 a1 a2 (aH.mk [] (-1:Int) (0:Int) [] [] [] a2.eH)).bind fun x29=>
      some (x29.1,a0,x29.2)
     else
      if (a2.bN == (10:Int))=true then
       (fY n a0 a1 a2 (aH.mk [] (-1:Int) (0:Int) [] [] [] a2.eH) (-1:Int)).bind fun x32=>
       some (x32.1,x32.2.1,x32.2.2)
      else
       if (a2.bN == (11:Int))=true then
        (cJ a2.aN (0:Int)).bind fun x35=>
        (dZ n a0 a1 x35).bind fun x36=>
        (cJ a2.aN (1:Int)).bind fun x43=>
        (cL a0 x36.2 x43 false).bind fun x44=>
        kM ((0:Int)<=(2:Int)/\(2:Int)<=(a2.aN.length:Int)) <|
        (dT cL a2 n (0:Int) x44.2.1 x44.2.2 (aH.mk ([105,102]:cD) (-1:Int) (0:Int) [x36.1] x44.1 [] a2.eH)).bind fun y58=>
        some (y58.2.2,y58.1,y58.2.1)
       else
        if (a2.bN == (12:Int))=true then
         (kP a0 a1 a2 (aH.mk [] (-1:Int) (0:Int) [] [] [] a2.eH)).bind fun x73=>
         some (x73.1,x73.2.1,x73.2.2)
        else
         if (a2.bN == (13:Int))=true then
          (lA n a0 a1 a2 (aH.mk [] (-1:Int) (0:Int) [] [] [] a2.eH) a3).bind fun x76=>
          some (x76.1,x76.2.1,x76.2.2)
         else
          some ((aH.mk [] (-1:Int) (0:Int) [] [] [] a2.eH),a0,a1)
def jL (cL:aD->aF->aA->Bool->Option ((List aH) × aD × aF)) (n:Nat) (a0:aD) (a1:aF) (a2:aA) (a3:aH):Option (aH × aD × aF):=
 (cJ a2.aN (0:Int)).bind fun x4=>
 (dZ n a0 a1 x4).bind fun x5=>
 (cJ a2.aN (1:Int)).bind fun x6=>
 (dZ n a0 x5.2 x6).bind fun x7=>
 (dH n a0 x7.2 (aY.mk a2.bP (1:Int) (0:Int)) a2.eH).bind fun x21=>
 (cJ a2.aN (2:Int)).bind fun x23=>
 (cL x21.2.1 x21.2.2 x23 false).bind fun x24=>
 kM ((0:Int)<=(min (a0.aX.length:Int) (x24.2.1.aX.length:Int))/\(min (a0.aX.length:Int) (x24.2.1.aX.length:Int))<=(x24.2.1.aX.length:Int)) <|
 some (({ a3 with nJ:=([102,111,114]:cD),pJ:=x21.1,aN:=[x5.1,x7.1],eR:=x24.1 }:aH),({ x24.2.1 with aX:=(x24.2.1.aX.take ((min (a0.aX.length:Int) (x24.2.1.aX.length:Int)).toNat)) }:aD),x24.2.2)
def dG:Nat->(aD->aF->aA->Bool->Option ((List aH) × aD × aF)) × (aD->aF->aA->Bool->Option (aH × aD × aF)) × (aD->aF->aA->aH->Option (aH × aD × aF))
 | 0=>(fun _ _ _ _=>none,fun _ _ _ _=>none,fun _ _ _ _=>none)
 | n+1=>(iY (dG n).2.1 n,gP (dG n).1 (dG n).2.2 n,jL (dG n).1 n)
def nU (n:Nat):aD->aF->aA->Bool->Option ((List aH) × aD × aF):=(dG n).1
def tL (n:Nat):aD->aF->aA->Bool->Option (aH × aD × aF):=(dG n).2.1
def yH (n:Nat):aD->aF->aA->aH->Option (aH × aD × aF):=(dG n).2.2
def pA (a0:aA):Option Bool:=
 (if (decide ((0:Int)<(a0.aN.length:Int)))=true then
    (cJ a0.aN (IntKind.i64.wrap ((a0.aN.length:Int) - (1:Int)))).bind fun x4=>
    some (x4.bN == (13:Int))
   else
    some false).bind fun y2=>
 some y2
def eY (n:Nat) (a3:aA):Nat->Int->aD->aF->Option (aD × aF)
 | 0,_,_,_=>none
 | c11+1,v7,v8,v9=>
   if (decide (v7<((a3.aN.drop (max (IntKind.i64.wrap ((a3.aN.length:Int) - (1:Int))) (0:Int)).toNat).length:Int)))=true then
    (cJ (a3.aN.drop (max (IntKind.i64.wrap ((a3.aN.length:Int) - (1:Int))) (0:Int)).toNat) v7).bind fun x16=>
    (cJ v8.p_.aS v8.f_).bind fun x22=>
    (nU n v8 v9 x16 true).bind fun x25=>
    (cJ x25.2.1.p_.aS v8.f_).bind fun x26=>
    ((cJ (x25.2.1.p_.aS.set v8.f_.toNat { x26 with eR:=x25.1 }) v8.f_).bind fun x56=>
      if (x56.cR == (0:Int))=true then
       (aR ({ x25.2.1 with p_:=⟨(x25.2.1.p_.aS.set v8.f_.toNat { x26 with eR:=x25.1 })⟩ }:aD) x25.2.2 true (135:Int) a3.eH).bind fun x71=>
       some x71
      else
       (pA x16).bind fun x73=>
       (aR ({ x25.2.1 with p_:=⟨(x25.2.1.p_.aS.set v8.f_.toNat { x26 with eR:=x25.1 })⟩ }:aD) x25.2.2 x73 (135:Int) a3.eH).bind fun x74=>
       some x74).bind fun y55=>
    eY n a3 c11 (IntKind.i64.wrap (v7+(1:Int))) ({ x25.2.1 with p_:=⟨(x25.2.1.p_.aS.set v8.f_.toNat { x26 with eR:=x25.1 })⟩ }:aD) y55
   else
    some (v8,v9)
def gZ (n:Nat) (a0:aD) (a1:aF) (a2:Int) (a3:aA):Option (aD × aF):=
 (iI n a0 a1 a2).bind fun x2=>
 kM ((0:Int)<=(max (IntKind.i64.wrap ((a3.aN.length:Int) - (1:Int))) (0:Int))/\(max (IntKind.i64.wrap ((a3.aN.length:Int) - (1:Int))) (0:Int))<=(a3.aN.length:Int)) <|
 (eY n a3 n (0:Int) x2.1 x2.2).bind fun y10=>
 some (y10.1,y10.2)
end Go.Proofs.YtncembphlfbgoaaDoor.Abs
namespace Go.Proofs.YtncembphlfbgoaaDoor.Abs
open Go.RowKit
set_option linter.unusedVariables false
def pN (rec_:Int->List Int->Option (Bool × List Int)) (to:Int):List Int->List Int->Option (Bool × List Int)
 | [],seen=>some (false,seen)
 | k::ks,seen=>
   if (k == to)=true then some (true,seen)
   else
    (cJ seen k).bind fun s=>
    if (IntKind.i64.wrap (s+(1:Int)) == (1:Int))=true then
     (rec_ k (seen.set k.toNat (IntKind.i64.wrap (s+(1:Int))))).bind fun r=>
     if r.1=true then some (true,r.2) else pN rec_ to ks r.2
    else pN rec_ to ks (seen.set k.toNat (IntKind.i64.wrap (s+(1:Int))))
def gR:Nat->aD->Int->Int->List Int->Option (Bool × List Int)
 | 0,_,_,_,_=>none
 | n+1,c,fr,to,seen=>(cJ c.bO fr).bind fun l=>kM (l.length<=1073741824) <| pN (fun k s=>gR n c k to s) to l seen
abbrev Look:=Int->aA->aD->aF->Option (aD × aF)
def nI (look:Look):List aA->Nat->aD->aF->Option (aD × aF)
 | [],_,c,w=>some (c,w)
 | f::l,i,c,w=>if (w.e_ == (0:Int))=true then (look i f c w).bind fun r=>nI look l (i+1) r.1 r.2 else nI look l (i+1) c w
def pR (nodes:List aA):List Look->aD->aF->Option (aD × aF)
 | [],c,w=>some (c,w)
 | look::ls,c,w=>(nI look nodes 0 c w).bind fun r=>pR nodes ls r.1 r.2
def rB (n len:Nat) (c:aD):List aA->Nat->aF->Option aF
 | [],_,w=>some w
 | f::l,i,w=>if (w.e_ == (0:Int))=true then (gR n c i i (List.replicate len 0)).bind fun r=>(aR c w (!r.1) (134:Int) f.eH).bind fun w'=>rB n len c l (i+1) w' else rB n len c l (i+1) w
def pS (n:Nat) (a0:cD):Option (bV × Int × Int):=
 (rL n a0).bind fun p=>
 if (p.2.1 != (0:Int))=true then some (⟨[]⟩,p.2.1,p.2.2)
 else
  (kF n aD.Z ⟨0,0⟩ p.1).bind fun a=>
  kM (p.1.aN.length<=1073741824) <|
  (pR p.1.aN [fun i f c w=>gY n c w i f,fun i f c w=>gZ n c w i f] a.1 a.2).bind fun b=>
  (rB n p.1.aN.length b.1 p.1.aN 0 b.2).bind fun w=>
  if (w.e_ != (0:Int))=true then some (⟨[]⟩,w.e_,w.uE) else some (b.1.p_,0,0)
end Go.Proofs.YtncembphlfbgoaaDoor.Abs
namespace Go.Proofs.YtncembphlfbgoaaDoor.Abs
open Go.RowKit
set_option linter.unusedVariables false
def lP (n:Nat):Option Bool:=
 (pS n ([101,120,112,111,114,116,32,102,110,32,102,40,112,58,32,112,117,98,44,32,120,58,32,117,51,50,41,32,45,62,32,117,51,50,32,123,32,114,101,116,117,114,110,32,120,32,43,32,112,59,32,125]:cD)).bind fun x1=>
 (if (x1.2.1 == (0:Int))=true then
    if ((x1.1.aS.length:Int) == (1:Int))=true then
     (cJ x1.1.aS (0:Int)).bind fun x7=>
     if ((x7.bR.length:Int) == (2:Int))=true then
      if ((x7.eR.length:Int) == (1:Int))=true then
       (cJ x7.eR (0:Int)).bind fun x15=>
       some (decide (x15.nJ=([114,101,116,117,114,110]:cD)))
      else
       some false
     else
      some false
    else
     some false
   else
    some false).bind fun y4=>
 some y4
def rR:List aO->Nat->List Int
 | [],_=>[]
 | f::l,i=>if f.eJ=true then (i:Int)::rR l (i+1) else rR l (i+1)
def Ge (o:Option Int):Bool:=match o with | some w=>decide (w<=4) | none=>false
def EI (n:Nat) (fs:List aO) (all:Int):Bool:=decide (fs.length<=1000000) && decide (all=((rR fs 0).length:Int)) && fs.all fun f=>!f.eJ || Ge (gK n f)
def eB (x7:(bV × Int × Int)):Nat->Int->Int->Option Int
 | 0,_,_=>none
 | c50+1,v47,v48=>
   if (decide (v48<(x7.1.aS.length:Int)))=true then
    ((cJ x7.1.aS v48).bind fun x56=>
      if x56.eJ=true then
       some (IntKind.i64.wrap (v47+(1:Int)))
      else
       some v47).bind fun y55=>
    eB x7 c50 y55 (IntKind.i64.wrap (v48+(1:Int)))
   else
    some v47
def eC (x7:(bV × Int × Int)) (a1:cD):Nat->Int->Int->Option Int
 | 0,_,_=>none
 | c17+1,v14,v15=>
   if (decide (v15<(x7.1.aS.length:Int)))=true then
    ((cJ x7.1.aS v15).bind fun x23=>
      (if (decide (x23.gI=a1))=true then
         some (decide (v14<(0:Int)))
        else
         some false).bind fun y29=>
      if y29=true then
       some v15
      else
       some v14).bind fun y22=>
    eC x7 a1 c17 y22 (IntKind.i64.wrap (v15+(1:Int)))
   else
    some v14
def gV (n:Nat) (a0:cD) (a1:cD) (a2:Int):Option Bool:=
 (lP n).bind fun x3=>
 if (!x3)=true then
  some false
 else
  if (decide ((3000:Int)<(a0.length:Int)))=true then
   some true
  else
   (pS n a0).bind fun x7=>
   if (x7.2.1 != (0:Int))=true then
    some true
   else
    (eU n x7.1 a1).bind fun x11=>
    (eC x7 a1 n (-1:Int) (0:Int)).bind fun y16=>
    (if (x11.2 != (decide ((0:Int)<=y16)))=true then
       some true
      else
       some (x11.1 != (max y16 (0:Int)))).bind fun y76=>
    if y76=true then
     some false
    else
     (eB x7 n (0:Int) (0:Int)).bind fun y87=>
     if EI n x7.1.aS y87=true then some true else none
end Go.Proofs.YtncembphlfbgoaaDoor.Abs
